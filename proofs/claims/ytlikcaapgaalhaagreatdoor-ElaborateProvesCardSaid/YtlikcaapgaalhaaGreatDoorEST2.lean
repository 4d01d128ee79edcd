/- A part of this seat's proofs. No conditions. -/
import Derived.Test.YtlikcaapgaalhaaGreatDoorEST1
namespace Go.Ab
open Go Go.Proofs
set_option maxRecDepth 100000
set_option maxHeartbeats 4000000
set_option linter.all false
section
variable {c:Ck} (hc:c.ok) {p q:Pf} {r0 r1:Rs}
include hc
theorem kEx_c{k:Int}(hk:k=10∨k=14){f:Fm}{t:Tm}(hf:f.full≤300000)(ht:t.full≤300000)
 (hpa:PC E 206 [.agg c.view,.agg p.view,.agg (f.args.getD 0 noFm).view,.agg t.view] (.tup [.s .int (partR r0 c (f.args.getD 0 noFm) t).1,.i (partR r0 c (f.args.getD 0 noFm) t).2]))
 (hua:UsesOk c.tys.length (partR r0 c (f.args.getD 0 noFm) t).1):
 PC E 176 [.agg c.view,.agg (Pf.mk k 0 (.mk 0 []) [t] [f] [p]).view] (tupR (exR k f t r0 c)):=by
 have hl:=hc.len
 have hsum:=hc.sum
 have hul:=hua.len
 have h1:=fTyped_c c.tys f (by omega) (by omega)
 have h2:=typeOf_c c.tys t (by omega) (by omega)
 unfold exR
 generalize partR r0 c (f.args.getD 0 noFm) t=pr at*
 by_cases t0:typedFC c.tys f=0
 case neg=>
  rw[if_pos t0]
  refine M.F Tryz.func176 ?_
  repeat'(first|refine M.o1 @h1 ?_|refine M.z1 5 ?_|refine M.cs ?_ ?_<;>intro h|refine M.gk ?_|fail)
  all_goals first
   |rfl
   |(exfalso;simp at h;exact t0 h)
 rw[if_neg (by simp[t0])]
 rw[t0] at h1
 obtain⟨fe,fo⟩:=typedFC_inv t0
 have s0:=(Fm.err_iff _).1 fe
 by_cases hkd:f.kind=kI k 14 7 5
 case neg=>
  rw[if_pos hkd]
  rcases hk with rfl|rfl
  all_goals
   refine M.F Tryz.func176 ?_
   repeat'(first|refine M.o1 @h1 ?_|refine M.z1 10 ?_|refine M.cs ?_ ?_<;>intro h|refine M.gk ?_|fail)
   all_goals first
    |rfl
    |(exfalso;simp at h;exact hkd h)
    |trace_state
 rw[if_neg (by simp[hkd])]
 have hkk:4≤f.kind∧f.kind≤7:=by rw[hkd,kI];split<;>omega
 obtain⟨x,e⟩:=qu_of s0.1 hkk
 have hx:f.args.getD 0 noFm=x:=by rw[e];rfl
 have hte:=qu_err s0.1 hkk
 have hsame:=sameTy_c _ f.ty (typeOf c.tys t).1 (Nat.le_refl _) (by have:=((Ty.err_iff _).1 hte).2;omega)
 rw[hx] at hpa
 by_cases t1:(typeOf c.tys t).2=0
 case neg=>
  rw[if_pos t1]
  clear hsame hte
  generalize f.ty=s at*
  rw[hkd] at e
  subst e
  rcases hk with rfl|rfl
  all_goals
   simp only[kI] at*
   refine M.F Tryz.func176 ?_
   repeat'(first|refine M.o2 @h1 @h2 ?_|refine M.z1 13 ?_|refine M.cs ?_ ?_<;>intro h|refine M.gk ?_|fail)
   all_goals first
    |rfl
    |(exfalso;simp at h;exact t1 h)
    |trace_state
 rw[if_neg (by simp[t1])]
 rw[t1] at h2
 obtain⟨_,te,ti,_⟩:=typeOf_inv t1
 have hfr:=kfree_c t te ti (by omega)
 have hfl:=(freeT_ok ti).len
 have hun:=kunion_c pr.1 (freeT t) (by omega) (by omega)
 by_cases hts:f.ty=(typeOf c.tys t).1
 case neg=>
  rw[if_pos hts]
  rw[decide_eq_false hts] at hsame
  clear hte
  generalize f.ty=s at*
  rw[hkd] at e
  subst e
  rcases hk with rfl|rfl
  all_goals
   simp only[kI] at*
   refine M.F Tryz.func176 ?_
   refine M.w3 @h1 @h2 @hsame ?_
   all_goals first
    |rfl
    |trace_state
 rw[if_neg (by simp[hts])]
 rw[decide_eq_true hts] at hsame
 clear hte
 generalize f.ty=s at*
 rw[hkd] at e
 subst e
 rcases hk with rfl|rfl
 all_goals
  simp only[kI] at*
  refine M.F Tryz.func176 ?_
  refine M.w6 @h1 @h2 @hsame @hpa @hfr @hun ?_
  all_goals first
   |rfl
   |trace_state
theorem kInd_c{f:Fm}{t:Tm}(hf:f.full≤300000)(ht:t.full≤300000)
 (hpa:PC E 206 [.agg c.view,.agg p.view,.agg f.view,.agg zT.view] (.tup [.s .int (partR r0 c f zT).1,.i (partR r0 c f zT).2]))
 (hpb:((c.below [natT]).with_ f).ok→PC E 206 [.agg ((c.below [natT]).with_ f).view,.agg q.view,.agg (f.lft 1 1).view,.agg (sT (vT 0)).view] (.tup [.s .int (partR r1 ((c.below [natT]).with_ f) (f.lft 1 1) (sT (vT 0))).1,.i (partR r1 ((c.below [natT]).with_ f) (f.lft 1 1) (sT (vT 0))).2]))
 (hua:UsesOk c.tys.length (partR r0 c f zT).1) (hub:((c.below [natT]).with_ f).ok→UsesOk (c.tys.length+1) (partR r1 ((c.below [natT]).with_ f) (f.lft 1 1) (sT (vT 0))).1):
 PC E 178 [.agg c.view,.agg (Pf.mk 16 0 (.mk 0 []) [t] [f] [p,q]).view] (tupR (indR f t r0 r1 c)):=by
 have hl:=hc.len
 have hn:=hc.nh
 have hsum:=hc.sum
 have hul:=hua.len
 have h1:=fBelow_c (c.tys++[natT]) f (by omega) (hc.one nat_err) (by simp;omega)
 have h2:=ktyp_c c t 1 (by omega) (by omega)
 have h3:=n_c 4 [] (by simp)
 have h4:=kroom_c c 1 1 (by omega) (by omega)
 have h5:=nat_c
 have h6:=kbelow_c c hc [natT] (by simp) (by simp)
 have h7:=kwith_c (c.below [natT]) f (by simp[Ck.below];omega)
 have h9:=var_c 0
 have h10:=n_c 5 [vT 0] (by simp[vT,Tm.full,Tm.fulls,Ty.size,Ty.sizes])
 have h11:=kput_c f t (by omega) (by omega)
 unfold indR
 generalize hA:partR r0 c f zT=a at*
 generalize hB:partR r1 ((c.below [natT]).with_ f) (f.lft 1 1) (sT (vT 0))=b at*
 by_cases e0:typedF (c.tys++[natT]) f=0
 case neg=>
  rw[if_pos e0]
  refine M.F Tryz.func178 ?_
  repeat'(first|refine M.o2 @h5 @h1 ?_|refine M.z1 5 ?_|refine M.cs ?_ ?_<;>intro h|refine M.gk ?_|fail)
  all_goals first
   |rfl
   |(exfalso;simp at h;exact e0 h)
   |trace_state
 rw[if_neg (by simp[e0])]
 rw[e0] at h1
 obtain⟨f1,f2⟩:=typedF_inv (hc.one nat_err) e0
 have s0:=(Fm.err_iff _).1 f1
 by_cases e1:kTyp c t 1=0
 case neg=>
  rw[if_pos e1]
  refine M.F Tryz.func178 ?_
  repeat'(first|refine M.o3 @h5 @h1 @h2 ?_|refine M.z1 8 ?_|refine M.cs ?_ ?_<;>intro h|refine M.gk ?_|fail)
  all_goals first
   |rfl
   |(exfalso;simp at h;exact e1 h)
   |trace_state
 rw[if_neg (by simp[e1])]
 rw[e1] at h2
 obtain⟨te,ti⟩:=kTyp_nat e1
 by_cases e2:a.2=0
 case neg=>
  rw[if_pos e2]
  refine M.F Tryz.func178 ?_
  repeat'(first|refine M.o5 @h5 @h1 @h2 @h3 @hpa ?_|refine M.z1 11 ?_|refine M.cs ?_ ?_<;>intro h|refine M.gk ?_|fail)
  all_goals first
   |rfl
   |(exfalso;simp at h;exact e2 h)
   |trace_state
 rw[if_neg (by simp[e2])]
 rw[e2] at hpa
 by_cases e3:c.room 1 1=0
 case neg=>
  rw[if_pos e3]
  rw[room_no e3] at h4
  refine M.F Tryz.func178 ?_
  refine M.w6 @h5 @h1 @h2 @h3 @hpa @h4 ?_
  all_goals first
   |rfl
   |trace_state
 rw[if_neg (by simp[e3])]
 rw[e3] at h4
 have hr:=room_ok e3
 have hb:((c.below [natT]).with_ f).ok:=(hc.below (l:=[natT]) hr.1 (by simp[nat_err])).with_ (by simpa [Ck.below] using hr.2) f1 f2
 have h8:=kup_c f2 s0.1 (by omega) (by simp;omega) 1 1 (by omega) (by omega)
 have h12:=hpb hb
 have hub':=hub hb
 by_cases e4:b.2=0
 case neg=>
  rw[if_pos e4]
  refine M.F Tryz.func178 ?_
  repeat'(first|refine M.o6 @h5 @h1 @h2 @h3 @hpa @h4 ?_|refine M.c2 (h6) ?_|refine M.c2 (h7) ?_|refine M.c2 (h8) ?_|refine M.c2 (h9) ?_|refine M.c2 (h10) ?_|refine M.c2 (h12) ?_|refine M.z1 17 ?_|refine M.cs ?_ ?_<;>intro h|refine M.gk ?_|fail)
  all_goals first
   |rfl
   |(exfalso;simp at h;exact e4 h)
   |trace_state
 rw[if_neg (by simp[e4])]
 rw[e4] at h12
 have hfr:=kfree_c t te ti (by omega)
 have hfl:=(freeT_ok ti).len
 have hun:=kunion_c (freeT t) a.1 (by omega) (by omega)
 have hlu:UsesOk c.tys.length (unionI (freeT t) a.1):= .union (freeT_ok ti).2 hua.2
 have hll:=hlu.len
 have hbl:=hub'.len
 have hou:=kout_c b.1 1 (by omega) (by omega) (fun x hx=>by have:=hub'.2 x hx;omega)
 have hol:=outI_len b.1 1
 have hun2:=kunion_c (unionI (freeT t) a.1) (outI b.1 1) (by omega) (by omega)
 refine M.F Tryz.func178 ?_
 repeat'(first|refine M.w6 @h5 @h1 @h2 @h3 @hpa @h4 ?_|refine M.c2 (h6) ?_|refine M.c2 (h7) ?_|refine M.c2 (h8) ?_|refine M.c2 (h9) ?_|refine M.c2 (h10) ?_|refine M.c2 (h12) ?_|refine M.c2 (h11) ?_|refine M.c2 (hfr) ?_|refine M.c2 (hun) ?_|refine M.c2 (hou) ?_|refine M.c2 (hun2) ?_|fail)
 all_goals first
  |rfl
  |trace_state
end
end Go.Ab
