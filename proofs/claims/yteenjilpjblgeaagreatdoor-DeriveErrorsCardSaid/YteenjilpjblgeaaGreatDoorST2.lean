/- A part of the proofs of this seat's statements: S92, S94, S93b, S93, S95, S96, S97, S102, S97b. It has no conditions of its own. -/
import Derived.Test.YteenjilpjblgeaaGreatDoorA2
import Derived.Test.YteenjilpjblgeaaGreatDoorST1
import Derived.Test.YteenjilpjblgeaaGreatDoorDT1
import Derived.Test.YteenjilpjblgeaaGreatDoorS1
namespace Go.Ab
open Go Go.Proofs
set_option maxRecDepth 100000
set_option maxHeartbeats 4000000
set_option linter.all false
section
variable {c:Ck} (hc:c.ok) {p q:Pf} {r0 r1:Rs}
include hc
theorem kEx_c{k:Int}(hk:k=10∨k=14){f:Fm}{t:Tm}(hf:f.full≤300000)(ht:t.full≤300000)
 (hpa:PC E 237 [.agg c.view,.agg p.view,.agg (f.args.getD 0 noFm).view,.agg t.view] (.tup [.s .int (partR r0 c (f.args.getD 0 noFm) t).1,.i (partR r0 c (f.args.getD 0 noFm) t).2]))
 (hua:UsesOk c.tys.length (partR r0 c (f.args.getD 0 noFm) t).1):
 PC E 204 [.agg c.view,.agg (Pf.mk k 0 (.mk 0 []) [t] [f] [p]).view] (tupR (exR k f t r0 c)):=by
 have hl:=hc.len
 have hsum:=hc.sum
 have hul:=hua.len
 have h1:=fTyped_c c.tys f (by omega) (by omega)
 have h2:=typeOf_c c.tys t (by omega) (by omega)
 unfold exR
 generalize partR r0 c (f.args.getD 0 noFm) t=pr at*
 by_cases t0:typedFC c.tys f=0
 case neg=>
  rw[if_pos t0]
  refine M.F Tryz.func204 ?_
  repeat'(first|refine M.go ?_|refine M.c2 (h1) ?_|((with_reducible refine D.aw ?_);(fail_if_success with_reducible refine D.stopR (id:=5) ?_);(fail_if_success with_reducible refine D.stopS (id:=5) ?_);first|refine M.ga ?_|refine AW.condS U (fun h=> ?_) (fun h=> ?_))|refine M.gk ?_|fail)
  all_goals first
   |rfl
   |(exfalso;simp at h;exact t0 h)
 rw[if_neg (by simp[t0])]
 rw[t0] at h1
 obtain⟨fe,fo⟩:=typedFC_inv t0
 have s0:=(Fm.err_iff _).1 fe
 by_cases hkd:f.kind=kI k 14 7 5
 case neg=>
  rw[if_pos hkd]
  rcases hk with rfl|rfl
  all_goals
   refine M.F Tryz.func204 ?_
   repeat'(first|refine M.go ?_|refine M.c2 (h1) ?_|((with_reducible refine D.aw ?_);(fail_if_success with_reducible refine D.stopR (id:=10) ?_);(fail_if_success with_reducible refine D.stopS (id:=10) ?_);first|refine M.ga ?_|refine AW.condS U (fun h=> ?_) (fun h=> ?_))|refine M.gk ?_|fail)
   all_goals first
    |rfl
    |(exfalso;simp at h;exact hkd h)
    |trace_state
 rw[if_neg (by simp[hkd])]
 have hkk:4≤f.kind∧f.kind≤7:=by rw[hkd,kI];split<;>omega
 obtain⟨x,e⟩:=qu_of s0.1 hkk
 have hx:f.args.getD 0 noFm=x:=by rw[e];rfl
 have hte:=qu_err s0.1 hkk
 have hsame:=sameTy_c _ f.ty (typeOf c.tys t).1 (Nat.le_refl _) (by have:=((Ty.err_iff _).1 hte).2;omega)
 rw[hx] at hpa
 by_cases t1:(typeOf c.tys t).2=0
 case neg=>
  rw[if_pos t1]
  clear hsame hte
  generalize f.ty=s at*
  rw[hkd] at e
  subst e
  rcases hk with rfl|rfl
  all_goals
   simp only[kI] at*
   refine M.F Tryz.func204 ?_
   repeat'(first|refine M.go ?_|refine M.c2 (h1) ?_|refine M.c2 (h2) ?_|((with_reducible refine D.aw ?_);(fail_if_success with_reducible refine D.stopR (id:=13) ?_);(fail_if_success with_reducible refine D.stopS (id:=13) ?_);first|refine M.ga ?_|refine AW.condS U (fun h=> ?_) (fun h=> ?_))|refine M.gk ?_|fail)
   all_goals first
    |rfl
    |(exfalso;simp at h;exact t1 h)
    |trace_state
 rw[if_neg (by simp[t1])]
 rw[t1] at h2
 obtain⟨_,te,ti,_⟩:=typeOf_inv t1
 have hfr:=kfree_c t te ti (by omega)
 have hfl:=(freeT_ok ti).len
 have hun:=kunion_c pr.1 (freeT t) (by omega) (by omega)
 by_cases hts:f.ty=(typeOf c.tys t).1
 case neg=>
  rw[if_pos hts]
  rw[decide_eq_false hts] at hsame
  clear hte
  generalize f.ty=s at*
  rw[hkd] at e
  subst e
  rcases hk with rfl|rfl
  all_goals
   simp only[kI] at*
   refine M.F Tryz.func204 ?_
   repeat'(first|refine M.gw ?_|refine M.c2 (h1) ?_|refine M.c2 (h2) ?_|refine M.c2 (hsame) ?_|fail)
   all_goals first
    |rfl
    |trace_state
 rw[if_neg (by simp[hts])]
 rw[decide_eq_true hts] at hsame
 clear hte
 generalize f.ty=s at*
 rw[hkd] at e
 subst e
 rcases hk with rfl|rfl
 all_goals
  simp only[kI] at*
  refine M.F Tryz.func204 ?_
  repeat'(first|refine M.gw ?_|refine M.c2 (h1) ?_|refine M.c2 (h2) ?_|refine M.c2 (hsame) ?_|refine M.c2 (hpa) ?_|refine M.c2 (hfr) ?_|refine M.c2 (hun) ?_|fail)
  all_goals first
   |rfl
   |trace_state
theorem kInd_c{f:Fm}{t:Tm}(hf:f.full≤300000)(ht:t.full≤300000)
 (hpa:PC E 237 [.agg c.view,.agg p.view,.agg f.view,.agg zT.view] (.tup [.s .int (partR r0 c f zT).1,.i (partR r0 c f zT).2]))
 (hpb:((c.below [natT]).with_ f).ok→PC E 237 [.agg ((c.below [natT]).with_ f).view,.agg q.view,.agg (f.lft 1 1).view,.agg (sT (vT 0)).view] (.tup [.s .int (partR r1 ((c.below [natT]).with_ f) (f.lft 1 1) (sT (vT 0))).1,.i (partR r1 ((c.below [natT]).with_ f) (f.lft 1 1) (sT (vT 0))).2]))
 (hua:UsesOk c.tys.length (partR r0 c f zT).1) (hub:((c.below [natT]).with_ f).ok→UsesOk (c.tys.length+1) (partR r1 ((c.below [natT]).with_ f) (f.lft 1 1) (sT (vT 0))).1):
 PC E 206 [.agg c.view,.agg (Pf.mk 16 0 (.mk 0 []) [t] [f] [p,q]).view] (tupR (indR f t r0 r1 c)):=by
 have hl:=hc.len
 have hn:=hc.nh
 have hsum:=hc.sum
 have hul:=hua.len
 have h1:=fBelow_c (c.tys++[natT]) f (by omega) (hc.one nat_err) (by simp;omega)
 have h2:=ktyp_c c t 1 (by omega) (by omega)
 have h3:=n_c 4 [] (by simp)
 have h4:=kroom_c c 1 1 (by omega) (by omega)
 have h5:=nat_c
 have h6:=kbelow_c c hc [natT] (by simp) (by simp)
 have h7:=kwith_c (c.below [natT]) f (by simp[Ck.below];omega)
 have h9:=var_c 0
 have h10:=n_c 5 [vT 0] (by simp[vT,Tm.full,Tm.fulls,Ty.size,Ty.sizes])
 have h11:=kput_c f t (by omega) (by omega)
 unfold indR
 generalize hA:partR r0 c f zT=a at*
 generalize hB:partR r1 ((c.below [natT]).with_ f) (f.lft 1 1) (sT (vT 0))=b at*
 by_cases e0:typedF (c.tys++[natT]) f=0
 case neg=>
  rw[if_pos e0]
  refine M.F Tryz.func206 ?_
  repeat'(first|refine M.go ?_|refine M.c2 (h5) ?_|refine M.c2 (h1) ?_|((with_reducible refine D.aw ?_);(fail_if_success with_reducible refine D.stopR (id:=5) ?_);(fail_if_success with_reducible refine D.stopS (id:=5) ?_);first|refine M.ga ?_|refine AW.condS U (fun h=> ?_) (fun h=> ?_))|refine M.gk ?_|fail)
  all_goals first
   |rfl
   |(exfalso;simp at h;exact e0 h)
   |trace_state
 rw[if_neg (by simp[e0])]
 rw[e0] at h1
 obtain⟨f1,f2⟩:=typedF_inv (hc.one nat_err) e0
 have s0:=(Fm.err_iff _).1 f1
 by_cases e1:kTyp c t 1=0
 case neg=>
  rw[if_pos e1]
  refine M.F Tryz.func206 ?_
  repeat'(first|refine M.go ?_|refine M.c2 (h5) ?_|refine M.c2 (h1) ?_|refine M.c2 (h2) ?_|((with_reducible refine D.aw ?_);(fail_if_success with_reducible refine D.stopR (id:=8) ?_);(fail_if_success with_reducible refine D.stopS (id:=8) ?_);first|refine M.ga ?_|refine AW.condS U (fun h=> ?_) (fun h=> ?_))|refine M.gk ?_|fail)
  all_goals first
   |rfl
   |(exfalso;simp at h;exact e1 h)
   |trace_state
 rw[if_neg (by simp[e1])]
 rw[e1] at h2
 obtain⟨te,ti⟩:=kTyp_nat e1
 by_cases e2:a.2=0
 case neg=>
  rw[if_pos e2]
  refine M.F Tryz.func206 ?_
  repeat'(first|refine M.go ?_|refine M.c2 (h5) ?_|refine M.c2 (h1) ?_|refine M.c2 (h2) ?_|refine M.c2 (h3) ?_|refine M.c2 (hpa) ?_|((with_reducible refine D.aw ?_);(fail_if_success with_reducible refine D.stopR (id:=11) ?_);(fail_if_success with_reducible refine D.stopS (id:=11) ?_);first|refine M.ga ?_|refine AW.condS U (fun h=> ?_) (fun h=> ?_))|refine M.gk ?_|fail)
  all_goals first
   |rfl
   |(exfalso;simp at h;exact e2 h)
   |trace_state
 rw[if_neg (by simp[e2])]
 rw[e2] at hpa
 by_cases e3:c.room 1 1=0
 case neg=>
  rw[if_pos e3]
  rw[room_no e3] at h4
  refine M.F Tryz.func206 ?_
  repeat'(first|refine M.gw ?_|refine M.c2 (h5) ?_|refine M.c2 (h1) ?_|refine M.c2 (h2) ?_|refine M.c2 (h3) ?_|refine M.c2 (hpa) ?_|refine M.c2 (h4) ?_|fail)
  all_goals first
   |rfl
   |trace_state
 rw[if_neg (by simp[e3])]
 rw[e3] at h4
 have hr:=room_ok e3
 have hb:((c.below [natT]).with_ f).ok:=(hc.below (l:=[natT]) hr.1 (by simp[nat_err])).with_ (by simpa [Ck.below] using hr.2) f1 f2
 have h8:=kup_c f2 s0.1 (by omega) (by simp;omega) 1 1 (by omega) (by omega)
 have h12:=hpb hb
 have hub':=hub hb
 by_cases e4:b.2=0
 case neg=>
  rw[if_pos e4]
  refine M.F Tryz.func206 ?_
  repeat'(first|refine M.go ?_|refine M.c2 (h5) ?_|refine M.c2 (h1) ?_|refine M.c2 (h2) ?_|refine M.c2 (h3) ?_|refine M.c2 (hpa) ?_|refine M.c2 (h4) ?_|refine M.c2 (h6) ?_|refine M.c2 (h7) ?_|refine M.c2 (h8) ?_|refine M.c2 (h9) ?_|refine M.c2 (h10) ?_|refine M.c2 (h12) ?_|((with_reducible refine D.aw ?_);(fail_if_success with_reducible refine D.stopR (id:=17) ?_);(fail_if_success with_reducible refine D.stopS (id:=17) ?_);first|refine M.ga ?_|refine AW.condS U (fun h=> ?_) (fun h=> ?_))|refine M.gk ?_|fail)
  all_goals first
   |rfl
   |(exfalso;simp at h;exact e4 h)
   |trace_state
 rw[if_neg (by simp[e4])]
 rw[e4] at h12
 have hfr:=kfree_c t te ti (by omega)
 have hfl:=(freeT_ok ti).len
 have hun:=kunion_c (freeT t) a.1 (by omega) (by omega)
 have hlu:UsesOk c.tys.length (unionI (freeT t) a.1):= .union (freeT_ok ti).2 hua.2
 have hll:=hlu.len
 have hbl:=hub'.len
 have hou:=kout_c b.1 1 (by omega) (by omega) (fun x hx=>by have:=hub'.2 x hx;omega)
 have hol:=outI_len b.1 1
 have hun2:=kunion_c (unionI (freeT t) a.1) (outI b.1 1) (by omega) (by omega)
 refine M.F Tryz.func206 ?_
 repeat'(first|refine M.gw ?_|refine M.c2 (h5) ?_|refine M.c2 (h1) ?_|refine M.c2 (h2) ?_|refine M.c2 (h3) ?_|refine M.c2 (hpa) ?_|refine M.c2 (h4) ?_|refine M.c2 (h6) ?_|refine M.c2 (h7) ?_|refine M.c2 (h8) ?_|refine M.c2 (h9) ?_|refine M.c2 (h10) ?_|refine M.c2 (h12) ?_|refine M.c2 (h11) ?_|refine M.c2 (hfr) ?_|refine M.c2 (hun) ?_|refine M.c2 (hou) ?_|refine M.c2 (hun2) ?_|fail)
 all_goals first
  |rfl
  |trace_state
end
section
variable {c:Ck} (hc:c.ok) {p q:Pf} {r0 r1:Rs}
include hc
theorem kOpen_c{k:Int}(hk:k=11∨k=15){f0 f1:Fm}{u0 u1:List Int}{e0 e1:Int}(hr0:r0 c=(f0,u0,e0))(hr1:openB r1 c f0=(f1,u1,e1))
 (hp:PC E 131 [.agg c.view,.agg p.view] (tupI f0 u0 e0)) (o0:ResOk c (f0,u0,e0))
 (hq:((c.below [f0.ty]).with_ (f0.args.getD 0 noFm)).ok→PC E 131 [.agg ((c.below [f0.ty]).with_ (f0.args.getD 0 noFm)).view,.agg q.view] (tupI f1 u1 e1))
 (o1:((c.below [f0.ty]).with_ (f0.args.getD 0 noFm)).ok→ResOk ((c.below [f0.ty]).with_ (f0.args.getD 0 noFm)) (f1,u1,e1)):
 PC E 205 [.agg c.view,.agg (Pf.mk k 0 (.mk 0 []) [] [] [p,q]).view] (tupR (opnR k r0 r1 c)):=by
 have hl:=hc.len
 have hn:=hc.nh
 have b0:=resB hc o0
 unfold opnR
 rw[hr0]
 simp only[hr1]
 by_cases he:e0=0
 case neg=>
  rw[if_pos he]
  refine M.F Tryz.func205 ?_
  repeat'(first|refine M.go ?_|refine M.c2 (hp) ?_|((with_reducible refine D.aw ?_);(fail_if_success with_reducible refine D.stopR (id:=4) ?_);(fail_if_success with_reducible refine D.stopS (id:=4) ?_);first|refine M.ga ?_|refine AW.condS U (fun h=> ?_) (fun h=> ?_))|refine M.gk ?_|fail)
  all_goals first
   |rfl
   |(exfalso;simp at h;exact he h)
   |trace_state
 subst he
 rw[if_neg (by simp)]
 have ho:=o0.1 rfl
 have s0:=(Fm.err_iff _).1 ho.1
 by_cases hkd:f0.kind=kI k 15 7 5
 case neg=>
  rw[if_pos hkd]
  rcases hk with rfl|rfl
  all_goals
   refine M.F Tryz.func205 ?_
   repeat'(first|refine M.go ?_|refine M.c2 (hp) ?_|((with_reducible refine D.aw ?_);(fail_if_success with_reducible refine D.stopR (id:=9) ?_);(fail_if_success with_reducible refine D.stopS (id:=9) ?_);first|refine M.ga ?_|refine AW.condS U (fun h=> ?_) (fun h=> ?_))|refine M.gk ?_|fail)
   all_goals first
    |rfl
    |(exfalso;simp at h;exact hkd h)
    |trace_state
 rw[if_neg (by simp[hkd])]
 have hkk:4≤f0.kind∧f0.kind≤7:=by rw[hkd,kI];split<;>omega
 obtain⟨x,e⟩:=qu_of s0.1 hkk
 have hx:f0.args.getD 0 noFm=x:=by simp only at e;rw[e];rfl
 have hte:=qu_err s0.1 hkk
 have ex:=part_err ho.1 (x:=x) (by simp only at e;rw[show(f0,u0,(0:Int)).1=f0 from rfl,e];simp[quF])
 have ok0:=ho.2.1
 simp only at e hte ok0
 rw[e] at ok0
 have o1':=qu_okT hkk ok0
 rw[hx] at hq o1
 clear ok0 hr1 hr0 s0 hx
 generalize f0.ty=s at*
 rw[hkd] at e
 subst e
 have h1:=kroom_c c 1 1 (by omega) (by omega)
 by_cases hr:c.room 1 1=0
 case neg=>
  rw[if_pos hr]
  rw[room_no hr] at h1
  rcases hk with rfl|rfl
  all_goals
   simp only[kI] at*
   refine M.F Tryz.func205 ?_
   repeat'(first|refine M.gw ?_|refine M.c2 (hp) ?_|refine M.c2 (h1) ?_|fail)
   all_goals first
    |rfl
    |trace_state
 rw[if_neg (by simp[hr])]
 have hro:=room_ok hr
 rw[hr] at h1
 have hb:((c.below [s]).with_ x).ok:=(hc.below (l:=[s]) hro.1 (by simpa using hte)).with_ (by simpa [Ck.below] using hro.2) ex o1'
 have h2:=kbelow_c c hc [s] (by simp) (by simp)
 have h3:=kwith_c (c.below [s]) x (by simp[Ck.below];omega)
 have h4:=hq hb
 have o1b:=o1 hb
 have b1:=resB hb o1b
 by_cases he1:e1=0
 case neg=>
  rw[if_pos he1]
  rcases hk with rfl|rfl
  all_goals
   simp only[kI] at*
   refine M.F Tryz.func205 ?_
   repeat'(first|refine M.go ?_|refine M.c2 (hp) ?_|refine M.c2 (h1) ?_|refine M.c2 (h2) ?_|refine M.c2 (h3) ?_|refine M.c2 (h4) ?_|((with_reducible refine D.aw ?_);(fail_if_success with_reducible refine D.stopR (id:=15) ?_);(fail_if_success with_reducible refine D.stopS (id:=15) ?_);first|refine M.ga ?_|refine AW.condS U (fun h=> ?_) (fun h=> ?_))|refine M.gk ?_|fail)
   all_goals first
    |rfl
    |(exfalso;simp at h;exact he1 h)
    |trace_state
 subst he1
 rw[if_neg (by simp)]
 have hf1:=o1b.1 rfl
 simp only at hf1
 have s1:=(Fm.err_iff _).1 hf1.1
 have h5:=fhas_c _ f1 0 (Nat.le_refl _) (by omega) (by omega) (by omega) s1.1
 have hu:=khas_c u1
 have hou:=kout_c u1 1 (by omega) (by omega) b1.2.2
 have hol:=outI_len u1 1
 have hun:=kunion_c u0 (outI u1 1) (by omega) (by omega)
 have h6:=knormal_c _ f1 (Nat.le_refl _) (by omega)
 by_cases t0:timesF 0 f1=0
 case pos=>
  have ef:freeR f1=(f1,0):=by unfold freeR;rw[if_pos t0]
  rw[ef]
  rw[decide_eq_false (by simp[t0])] at h5
  have h7:=h6
  have hup:=kup_c (hf1.2.1) s1.1 (by omega) (by simp[Ck.below,Ck.with_];omega) 1 (-1) (by omega) (by omega)
  rw[if_neg (by simp)]
  rcases hk with rfl|rfl
  ·rw [if_neg (by simp)]
   simp only[kI] at*
   refine M.F Tryz.func205 ?_
   repeat'(first|refine M.gw ?_|refine M.c2 (hp) ?_|refine M.c2 (h1) ?_|refine M.c2 (h2) ?_|refine M.c2 (h3) ?_|refine M.c2 (h4) ?_|refine M.c2 (h5) ?_|refine M.c2 (hup) ?_|refine M.c2 (hou) ?_|refine M.c2 (hun) ?_|fail)
   all_goals first
    |rfl
    |trace_state
  ·simp only[kI] at*
   cases hh:hasI u1 with
   |true=>
    rw[hh] at hu
    rw[if_pos (by simp)]
    refine M.F Tryz.func205 ?_
    repeat'(first|refine M.gw ?_|refine M.c2 (hp) ?_|refine M.c2 (h1) ?_|refine M.c2 (h2) ?_|refine M.c2 (h3) ?_|refine M.c2 (h4) ?_|refine M.c2 (h5) ?_|refine M.c2 (hu) ?_|fail)
    all_goals first
     |rfl
     |trace_state
   |false=>
    rw[hh] at hu
    rw[if_neg (by simp)]
    refine M.F Tryz.func205 ?_
    repeat'(first|refine M.gw ?_|refine M.c2 (hp) ?_|refine M.c2 (h1) ?_|refine M.c2 (h2) ?_|refine M.c2 (h3) ?_|refine M.c2 (h4) ?_|refine M.c2 (h5) ?_|refine M.c2 (hu) ?_|refine M.c2 (hup) ?_|refine M.c2 (hou) ?_|refine M.c2 (hun) ?_|fail)
    all_goals first
     |rfl
     |trace_state
 rw[decide_eq_true t0] at h5
 by_cases n0:(normF f1).2=0
 case neg=>
  have ef:freeR f1=(noFm,(normF f1).2):=by unfold freeR;rw[if_neg t0,if_pos n0]
  rw[ef,if_pos n0]
  rcases hk with rfl|rfl
  all_goals
   simp only[kI] at*
   refine M.F Tryz.func205 ?_
   repeat'(first|refine M.go ?_|refine M.c2 (hp) ?_|refine M.c2 (h1) ?_|refine M.c2 (h2) ?_|refine M.c2 (h3) ?_|refine M.c2 (h4) ?_|refine M.c2 (h5) ?_|refine M.c2 (h6) ?_|((with_reducible refine D.aw ?_);(fail_if_success with_reducible refine D.stopR (id:=20) ?_);(fail_if_success with_reducible refine D.stopS (id:=20) ?_);first|refine M.ga ?_|refine AW.condS U (fun h=> ?_) (fun h=> ?_))|refine M.gk ?_|fail)
   all_goals first
    |rfl
    |(exfalso;simp at h;exact n0 h)
    |trace_state
 rw[n0] at h6
 obtain⟨nk,ns,nz,no⟩:=normF_ok f1 n0 s1.1
 have nfl:=ffull_le (normF f1).1 ns
 have h7:=fhas_c _ (normF f1).1 0 (Nat.le_refl _) (by omega) (by omega) (by omega) ns
 by_cases n1:timesF 0 (normF f1).1=0
 case neg=>
  have ef:freeR f1=(noFm,6):=by unfold freeR;rw[if_neg t0,if_neg (by simp[n0]),if_pos n1]
  rw[ef,if_pos (by decide)]
  rw[decide_eq_true n1] at h7
  rcases hk with rfl|rfl
  all_goals
   simp only[kI] at*
   refine M.F Tryz.func205 ?_
   repeat'(first|refine M.gw ?_|refine M.c2 (hp) ?_|refine M.c2 (h1) ?_|refine M.c2 (h2) ?_|refine M.c2 (h3) ?_|refine M.c2 (h4) ?_|refine M.c2 (h5) ?_|refine M.c2 (h6) ?_|refine M.c2 (h7) ?_|fail)
   all_goals first
    |rfl
    |trace_state
 case pos=>
  have ef:freeR f1=((normF f1).1,0):=by unfold freeR;rw[if_neg t0,if_neg (by simp[n0]),if_neg (by simp[n1])]
  rw[ef]
  rw[decide_eq_false (by simp[n1])] at h7
  have hup:=kup_c (no _ hf1.2.1) ns (by omega) (by simp[Ck.below,Ck.with_];omega) 1 (-1) (by omega) (by omega)
  rw[if_neg (by simp)]
  rcases hk with rfl|rfl
  ·rw [if_neg (by simp)]
   simp only[kI] at*
   refine M.F Tryz.func205 ?_
   repeat'(first|refine M.gw ?_|refine M.c2 (hp) ?_|refine M.c2 (h1) ?_|refine M.c2 (h2) ?_|refine M.c2 (h3) ?_|refine M.c2 (h4) ?_|refine M.c2 (h5) ?_|refine M.c2 (h6) ?_|refine M.c2 (h7) ?_|refine M.c2 (hup) ?_|refine M.c2 (hou) ?_|refine M.c2 (hun) ?_|fail)
   all_goals first
    |rfl
    |trace_state
  ·simp only[kI] at*
   cases hh:hasI u1 with
   |true=>
    rw[hh] at hu
    rw[if_pos (by simp)]
    refine M.F Tryz.func205 ?_
    repeat'(first|refine M.gw ?_|refine M.c2 (hp) ?_|refine M.c2 (h1) ?_|refine M.c2 (h2) ?_|refine M.c2 (h3) ?_|refine M.c2 (h4) ?_|refine M.c2 (h5) ?_|refine M.c2 (h6) ?_|refine M.c2 (h7) ?_|refine M.c2 (hu) ?_|fail)
    all_goals first
     |rfl
     |trace_state
   |false=>
    rw[hh] at hu
    rw[if_neg (by simp)]
    refine M.F Tryz.func205 ?_
    repeat'(first|refine M.gw ?_|refine M.c2 (hp) ?_|refine M.c2 (h1) ?_|refine M.c2 (h2) ?_|refine M.c2 (h3) ?_|refine M.c2 (h4) ?_|refine M.c2 (h5) ?_|refine M.c2 (h6) ?_|refine M.c2 (h7) ?_|refine M.c2 (hu) ?_|refine M.c2 (hup) ?_|refine M.c2 (hou) ?_|refine M.c2 (hun) ?_|fail)
    all_goals first
     |rfl
     |trace_state
end
section
variable {c:Ck} (hc:c.ok) {p q:Pf} {r0 r1:Rs}
include hc
theorem kSubst_c{f:Fm}{f0:Fm}{u0:List Int}{e0:Int}(hr0:r0 c=(f0,u0,e0))(hf:f.full≤300000)
 (hp:PC E 131 [.agg c.view,.agg p.view] (tupI f0 u0 e0)) (o0:ResOk c (f0,u0,e0))
 (hpb:∀t:Tm,t.full≤300000→PC E 237 [.agg c.view,.agg q.view,.agg f.view,.agg t.view] (.tup [.s .int (partR r1 c f t).1,.i (partR r1 c f t).2])):
 PC E 209 [.agg c.view,.agg (Pf.mk 19 0 (.mk 0 []) [] [f] [p,q]).view] (tupR (substR f r0 r1 c)):=by
 have hl:=hc.len
 have hsum:=hc.sum
 have h1:=fBelow_c (c.tys++[natT]) f (by omega) (hc.one nat_err) (by simp;omega)
 have h5:=nat_c
 unfold substR
 rw[hr0]
 by_cases t0:typedF (c.tys++[natT]) f=0
 case neg=>
  rw[if_pos t0]
  refine M.F Tryz.func209 ?_
  repeat'(first|refine M.go ?_|refine M.c2 (h5) ?_|refine M.c2 (h1) ?_|((with_reducible refine D.aw ?_);(fail_if_success with_reducible refine D.stopR (id:=5) ?_);(fail_if_success with_reducible refine D.stopS (id:=5) ?_);first|refine M.ga ?_|refine AW.condS U (fun h=> ?_) (fun h=> ?_))|refine M.gk ?_|fail)
  all_goals first
   |rfl
   |(exfalso;simp at h;exact t0 h)
   |trace_state
 rw[if_neg (by simp[t0])]
 rw[t0] at h1
 by_cases he:e0=0
 case neg=>
  rw[if_pos he]
  refine M.F Tryz.func209 ?_
  repeat'(first|refine M.go ?_|refine M.c2 (h5) ?_|refine M.c2 (h1) ?_|refine M.c2 (hp) ?_|((with_reducible refine D.aw ?_);(fail_if_success with_reducible refine D.stopR (id:=8) ?_);(fail_if_success with_reducible refine D.stopS (id:=8) ?_);first|refine M.ga ?_|refine AW.condS U (fun h=> ?_) (fun h=> ?_))|refine M.gk ?_|fail)
  all_goals first
   |rfl
   |(exfalso;simp at h;exact he h)
   |trace_state
 subst he
 rw[if_neg (by simp)]
 by_cases hk:f0.kind=1
 case neg=>
  rw[if_pos hk]
  refine M.F Tryz.func209 ?_
  repeat'(first|refine M.go ?_|refine M.c2 (h5) ?_|refine M.c2 (h1) ?_|refine M.c2 (hp) ?_|((with_reducible refine D.aw ?_);(fail_if_success with_reducible refine D.stopR (id:=10) ?_);(fail_if_success with_reducible refine D.stopS (id:=10) ?_);first|refine M.ga ?_|refine AW.condS U (fun h=> ?_) (fun h=> ?_))|refine M.gk ?_|fail)
  all_goals first
   |rfl
   |(exfalso;simp at h;exact hk h)
   |trace_state
 rw[if_neg (by simp[hk])]
 have ho:=o0.1 rfl
 obtain⟨x,y,e⟩:=eq_of ((Fm.err_iff _).1 ho.1).1 hk
 simp only at e
 subst e
 have ex:=term_err ho.1 (t:=x) (by simp[eqF])
 have ey:=term_err ho.1 (t:=y) (by simp[eqF])
 have h2:=hpb x (by have:=terr_full ex;omega)
 have h3:=kput_c f y (by omega) (by have:=terr_full ey;omega)
 have e1:((eqF x y).terms.getD 0 noTm)=x:=rfl
 have e2:((eqF x y).terms.getD 1 noTm)=y:=rfl
 simp only[e1,e2]
 generalize partR r1 c f x=a at*
 by_cases ea:a.2=0
 case neg=>
  rw[if_pos ea]
  refine M.F Tryz.func209 ?_
  repeat'(first|refine M.go ?_|refine M.c2 (h5) ?_|refine M.c2 (h1) ?_|refine M.c2 (hp) ?_|refine M.c2 (h2) ?_|((with_reducible refine D.aw ?_);(fail_if_success with_reducible refine D.stopR (id:=13) ?_);(fail_if_success with_reducible refine D.stopS (id:=13) ?_);first|refine M.ga ?_|refine AW.condS U (fun h=> ?_) (fun h=> ?_))|refine M.gk ?_|fail)
  all_goals first
   |rfl
   |(exfalso;simp at h;exact ea h)
   |trace_state
 rw[if_neg (by simp[ea])]
 rw[ea] at h2
 refine M.F Tryz.func209 ?_
 repeat'(first|refine M.gw ?_|refine M.c2 (h5) ?_|refine M.c2 (h1) ?_|refine M.c2 (hp) ?_|refine M.c2 (h2) ?_|refine M.c2 (h3) ?_|fail)
 all_goals first
  |rfl
  |trace_state
theorem kChoice_c{f0:Fm}{u0:List Int}{e0:Int}(hr0:r0 c=(f0,u0,e0))
 (hp:PC E 131 [.agg c.view,.agg p.view] (tupI f0 u0 e0)) (o0:ResOk c (f0,u0,e0)):
 PC E 210 [.agg c.view,.agg (Pf.mk 20 0 (.mk 0 []) [] [] [p]).view] (tupR (choiceR r0 c)):=by
 have hl:=hc.len
 unfold choiceR
 rw[hr0]
 by_cases he:e0=0
 case neg=>
  rw[if_pos he]
  refine M.F Tryz.func210 ?_
  repeat'(first|refine M.go ?_|refine M.c2 (hp) ?_|((with_reducible refine D.aw ?_);(fail_if_success with_reducible refine D.stopR (id:=4) ?_);(fail_if_success with_reducible refine D.stopS (id:=4) ?_);first|refine M.ga ?_|refine AW.condS U (fun h=> ?_) (fun h=> ?_))|refine M.gk ?_|fail)
  all_goals first
   |rfl
   |(exfalso;simp at h;exact he h)
   |trace_state
 subst he
 rw[if_neg (by simp)]
 have ho:=o0.1 rfl
 have s0:=(Fm.err_iff _).1 ho.1
 by_cases hk:f0.kind=4
 case neg=>
  rw[if_pos (.inl hk)]
  refine M.F Tryz.func210 ?_
  repeat'(first|refine M.go ?_|refine M.c2 (hp) ?_|((fail_if_success refine AX.wt U ?_);refine AX.gs U U (fun _=>trivial) (fun h=> ?_) (fun h=> ?_))|((with_reducible refine D.aw ?_);(fail_if_success with_reducible refine D.stopR (id:=6) ?_);(fail_if_success with_reducible refine D.stopS (id:=6) ?_);first|refine M.ga ?_|refine AW.condS U (fun h=> ?_) (fun h=> ?_))|refine M.gk ?_|fail)
  all_goals first
   |rfl
   |(exfalso;simp at h;exact hk h)
   |(exfalso;rename_i h1;simp at h1;exact hk h1)
   |trace_state
 obtain⟨x,e⟩:=qu_of s0.1 (by simp only;omega)
 have hte:=qu_err s0.1 (by simp only;omega)
 simp only at e hte
 have ex:=part_err ho.1 (x:=x) (by rw[show(f0,u0,(0:Int)).1=f0 from rfl,e];simp[quF])
 have sx:=(Fm.err_iff _).1 ex
 have ok0:=ho.2.1
 simp only at ok0
 generalize f0.ty=s at*
 rw[hk] at e
 subst e
 have e1:((quF 4 s x).args.getD 0 noFm)=x:=rfl
 have o1:=qu_okT (by omega) ok0
 by_cases hk2:x.kind=5
 case neg=>
  rw[if_pos (.inr (by rw[e1];exact hk2))]
  refine M.F Tryz.func210 ?_
  repeat'(first|refine M.go ?_|refine M.c2 (hp) ?_|((with_reducible refine D.aw ?_);(fail_if_success with_reducible refine D.stopR (id:=6) ?_);(fail_if_success with_reducible refine D.stopS (id:=6) ?_);first|refine M.ga ?_|refine AW.condS U (fun h=> ?_) (fun h=> ?_))|refine M.gk ?_|fail)
  all_goals first
   |rfl
   |(exfalso;simp at h;exact hk2 h)
   |trace_state
 rw[if_neg (by rintro(h|h);exact h hk;exact h (by rw[e1];exact hk2))]
 obtain⟨y,e⟩:=qu_of sx.1 (by omega)
 have hte2:=qu_err sx.1 (by omega)
 have ey:=part_err ex (x:=y) (by rw[e];simp[quF])
 have sy:=(Fm.err_iff _).1 ey
 generalize x.ty=u at*
 rw[hk2] at e
 subst e
 have o2:=qu_okT (by omega) o1
 have zs:=((Ty.err_iff s).1 hte).2
 have zu:=((Ty.err_iff u).1 hte2).2
 have h1:=fun_c s u (by omega) (by omega)
 have h2:=checkTyR_c (funT s u) (by simp only[funT,Ty.size,Ty.sizes];omega)
 have e2:chF (quF 4 s (quF 5 u y))=funT s u:=rfl
 have e3:chB (quF 4 s (quF 5 u y))=putK (y.lft 2 1) appV:=rfl
 simp only[e2,e3]
 by_cases ef:(funT s u).err=0
 case neg=>
  rw[if_pos ef]
  refine M.F Tryz.func210 ?_
  repeat'(first|refine M.go ?_|refine M.c2 (hp) ?_|refine M.c2 (h1) ?_|refine M.c2 (h2) ?_|((with_reducible refine D.aw ?_);(fail_if_success with_reducible refine D.stopR (id:=10) ?_);(fail_if_success with_reducible refine D.stopS (id:=10) ?_);first|refine M.ga ?_|refine AW.condS U (fun h=> ?_) (fun h=> ?_))|refine M.gk ?_|fail)
  all_goals first
   |rfl
   |(exfalso;simp at h;exact ef h)
   |trace_state
 rw[if_neg (by simp[ef])]
 rw[ef] at h2
 have h3:=kup_c o2 sy.1 (by omega) (by simp;omega) 2 1 (by omega) (by omega)
 have h4:=var_c 1
 have h4':=var_c 0
 have h5:=n_c 3 [vT 1,vT 0] (by simp[vT,Tm.full,Tm.fulls,Ty.size,Ty.sizes])
 have hlf:=lft_keeps sy.1 (fr:=2) (by_:=1) (by omega)
 have h6:=kput_c (y.lft 2 1) appV (by rw[hlf.2.2];have:=ferr_full ey;omega) (by decide)
 have hb:=putK_bd (y.lft 2 1) appV
 have h7:=qFm_c 4 s (putK (y.lft 2 1) appV).1 (by omega) (by omega)
 have h8:=qFm_c 5 (funT s u) (.mk 4 s [] [(putK (y.lft 2 1) appV).1]) (by simp only[funT,Ty.size,Ty.sizes];omega) (by simp only[Fm.full,Fm.fulls,List.map_nil,List.sum_nil];omega)
 refine M.F Tryz.func210 ?_
 repeat'(first|refine M.gw ?_|refine M.c2 (hp) ?_|refine M.c2 (h1) ?_|refine M.c2 (h2) ?_|refine M.c2 (h3) ?_|refine M.c2 (h4) ?_|refine M.c2 (h4') ?_|refine M.c2 (h5) ?_|refine M.c2 (h6) ?_|refine M.c2 (h7) ?_|refine M.c2 (h8) ?_|fail)
 all_goals first
  |rfl
  |trace_state
end
section
variable {c:Ck} (hc:c.ok) {p q:Pf} {r0 r1:Rs}
include hc
theorem kList_c{f:Fm}{t:Tm}(hf:f.full≤300000)(ht:t.full≤300000)
 (hpa:PC E 237 [.agg c.view,.agg p.view,.agg f.view,.agg nilM.view] (.tup [.s .int (partR r0 c f nilM).1,.i (partR r0 c f nilM).2]))
 (hpb:((c.below [natT,listT]).with_ (f.lft 1 1)).ok→PC E 237 [.agg ((c.below [natT,listT]).with_ (f.lft 1 1)).view,.agg q.view,.agg (f.lft 1 2).view,.agg consM.view] (.tup [.s .int (partR r1 ((c.below [natT,listT]).with_ (f.lft 1 1)) (f.lft 1 2) consM).1,.i (partR r1 ((c.below [natT,listT]).with_ (f.lft 1 1)) (f.lft 1 2) consM).2]))
 (hua:UsesOk c.tys.length (partR r0 c f nilM).1) (hub:((c.below [natT,listT]).with_ (f.lft 1 1)).ok→UsesOk (c.tys.length+2) (partR r1 ((c.below [natT,listT]).with_ (f.lft 1 1)) (f.lft 1 2) consM).1):
 PC E 207 [.agg c.view,.agg (Pf.mk 17 0 (.mk 0 []) [t] [f] [p,q]).view] (tupR (listR f t r0 r1 c)):=by
 have hl:=hc.len
 have hn:=hc.nh
 have hsum:=hc.sum
 have hul:=hua.len
 have h1:=fBelow_c (c.tys++[listT]) f (by omega) (hc.one list_err) (by simp;omega)
 have h2:=ktyp_c c t 2 (by omega) (by omega)
 have h3:=n_c 7 [] (by simp)
 have h4:=kroom_c c 2 1 (by omega) (by omega)
 have h5:=nat_c
 have h6:=kbelow_c c hc [natT,listT] (by simp) (by simp)
 have h7:=kwith_c (c.below [natT,listT]) (f.lft 1 1) (by simp[Ck.below];omega)
 have h9:=var_c 0
 have h9':=var_c 1
 have h5':=list_c
 have h10:=n_c 8 [vT 1,vT 0] (by simp[vT,Tm.full,Tm.fulls,Ty.size,Ty.sizes])
 have h11:=kput_c f t (by omega) (by omega)
 unfold listR
 generalize hA:partR r0 c f nilM=a at*
 generalize hB:partR r1 ((c.below [natT,listT]).with_ (f.lft 1 1)) (f.lft 1 2) consM=b at*
 by_cases e0:typedF (c.tys++[listT]) f=0
 case neg=>
  rw[if_pos e0]
  refine M.F Tryz.func207 ?_
  repeat'(first|refine M.go ?_|refine M.c2 (h5') ?_|refine M.c2 (h1) ?_|((with_reducible refine D.aw ?_);(fail_if_success with_reducible refine D.stopR (id:=5) ?_);(fail_if_success with_reducible refine D.stopS (id:=5) ?_);first|refine M.ga ?_|refine AW.condS U (fun h=> ?_) (fun h=> ?_))|refine M.gk ?_|fail)
  all_goals first
   |rfl
   |(exfalso;simp at h;exact e0 h)
   |trace_state
 rw[if_neg (by simp[e0])]
 rw[e0] at h1
 obtain⟨f1,f2⟩:=typedF_inv (hc.one list_err) e0
 have s0:=(Fm.err_iff _).1 f1
 by_cases e1:kTyp c t 2=0
 case neg=>
  rw[if_pos e1]
  refine M.F Tryz.func207 ?_
  repeat'(first|refine M.go ?_|refine M.c2 (h5') ?_|refine M.c2 (h1) ?_|refine M.c2 (h2) ?_|((with_reducible refine D.aw ?_);(fail_if_success with_reducible refine D.stopR (id:=8) ?_);(fail_if_success with_reducible refine D.stopS (id:=8) ?_);first|refine M.ga ?_|refine AW.condS U (fun h=> ?_) (fun h=> ?_))|refine M.gk ?_|fail)
  all_goals first
   |rfl
   |(exfalso;simp at h;exact e1 h)
   |trace_state
 rw[if_neg (by simp[e1])]
 rw[e1] at h2
 obtain⟨te,ti⟩:=kTyp_list e1
 by_cases e2:a.2=0
 case neg=>
  rw[if_pos e2]
  refine M.F Tryz.func207 ?_
  repeat'(first|refine M.go ?_|refine M.c2 (h5') ?_|refine M.c2 (h1) ?_|refine M.c2 (h2) ?_|refine M.c2 (h3) ?_|refine M.c2 (hpa) ?_|((with_reducible refine D.aw ?_);(fail_if_success with_reducible refine D.stopR (id:=11) ?_);(fail_if_success with_reducible refine D.stopS (id:=11) ?_);first|refine M.ga ?_|refine AW.condS U (fun h=> ?_) (fun h=> ?_))|refine M.gk ?_|fail)
  all_goals first
   |rfl
   |(exfalso;simp at h;exact e2 h)
   |trace_state
 rw[if_neg (by simp[e2])]
 rw[e2] at hpa
 by_cases e3:c.room 2 1=0
 case neg=>
  rw[if_pos e3]
  rw[room_no e3] at h4
  refine M.F Tryz.func207 ?_
  repeat'(first|refine M.gw ?_|refine M.c2 (h5') ?_|refine M.c2 (h1) ?_|refine M.c2 (h2) ?_|refine M.c2 (h3) ?_|refine M.c2 (hpa) ?_|refine M.c2 (h4) ?_|fail)
  all_goals first
   |rfl
   |trace_state
 rw[if_neg (by simp[e3])]
 rw[e3] at h4
 have hr:=room_ok e3
 have hb:((c.below [natT,listT]).with_ (f.lft 1 1)).ok:=(hc.below (l:=[natT,listT]) hr.1 (by simp[nat_err,list_err])).with_ (by simpa [Ck.below] using hr.2) (lft_err f1 (by omega)) (by simpa [Ck.below] using lft_okTs (g:=c.tys) (h:=[listT]) [natT] s0.1 f2)
 have h8:=kup_c f2 s0.1 (by omega) (by simp;omega) 1 1 (by omega) (by omega)
 have h8':=kup_c f2 s0.1 (by omega) (by simp;omega) 1 2 (by omega) (by omega)
 have h12:=hpb hb
 have hub':=hub hb
 by_cases e4:b.2=0
 case neg=>
  rw[if_pos e4]
  refine M.F Tryz.func207 ?_
  repeat'(first|refine M.go ?_|refine M.c2 (h5) ?_|refine M.c2 (h5') ?_|refine M.c2 (h1) ?_|refine M.c2 (h2) ?_|refine M.c2 (h3) ?_|refine M.c2 (hpa) ?_|refine M.c2 (h4) ?_|refine M.c2 (h6) ?_|refine M.c2 (h7) ?_|refine M.c2 (h8) ?_|refine M.c2 (h8') ?_|refine M.c2 (h9) ?_|refine M.c2 (h9') ?_|refine M.c2 (h10) ?_|refine M.c2 (h12) ?_|((with_reducible refine D.aw ?_);(fail_if_success with_reducible refine D.stopR (id:=17) ?_);(fail_if_success with_reducible refine D.stopS (id:=17) ?_);first|refine M.ga ?_|refine AW.condS U (fun h=> ?_) (fun h=> ?_))|refine M.gk ?_|fail)
  all_goals first
   |rfl
   |(exfalso;simp at h;exact e4 h)
   |trace_state
 rw[if_neg (by simp[e4])]
 rw[e4] at h12
 have hfr:=kfree_c t te ti (by omega)
 have hfl:=(freeT_ok ti).len
 have hun:=kunion_c (freeT t) a.1 (by omega) (by omega)
 have hlu:UsesOk c.tys.length (unionI (freeT t) a.1):= .union (freeT_ok ti).2 hua.2
 have hll:=hlu.len
 have hbl:=hub'.len
 have hou:=kout_c b.1 2 (by omega) (by omega) (fun x hx=>by have:=hub'.2 x hx;omega)
 have hol:=outI_len b.1 2
 have hun2:=kunion_c (unionI (freeT t) a.1) (outI b.1 2) (by omega) (by omega)
 refine M.F Tryz.func207 ?_
 repeat'(first|refine M.gw ?_|refine M.c2 (h5) ?_|refine M.c2 (h5') ?_|refine M.c2 (h1) ?_|refine M.c2 (h2) ?_|refine M.c2 (h3) ?_|refine M.c2 (hpa) ?_|refine M.c2 (h4) ?_|refine M.c2 (h6) ?_|refine M.c2 (h7) ?_|refine M.c2 (h8) ?_|refine M.c2 (h8') ?_|refine M.c2 (h9) ?_|refine M.c2 (h9') ?_|refine M.c2 (h10) ?_|refine M.c2 (h12) ?_|refine M.c2 (h11) ?_|refine M.c2 (hfr) ?_|refine M.c2 (hun) ?_|refine M.c2 (hou) ?_|refine M.c2 (hun2) ?_|fail)
 all_goals first
  |rfl
  |trace_state
end
def InfC(p:Pf):Prop:=∀c:Ck,c.ok→PC E 131 [.agg c.view,.agg p.view] (tupI (infP p c).1 (infP p c).2.1 (infP p c).2.2)
def PPart(p:Pf):Prop:=p.shape=true∧p.small=true
theorem psmall_parts{p:Pf}(h:p.small=true):(∀t∈p.terms,t.size≤4096)∧(∀f∈p.forms,f.size≤4096)∧∀x∈p.args,x.small=true:=by
 rw[p.small_eq] at h
 simp only[Bool.and_eq_true,List.all_eq_true,decide_eq_true_eq] at h
 exact⟨h.1.1,h.1.2,h.2⟩
theorem infer_rule{p:Pf}{c:Ck}(hc:c.ok)(hr:RuleOk c (ruleR p.kind p.index p.ty p.terms p.forms (p.args.map infP) c))
 (hrl:PC E 174 [.agg c.view,.agg p.view] (tupR (ruleR p.kind p.index p.ty p.terms p.forms (p.args.map infP) c))):
 PC E 131 [.agg c.view,.agg p.view] (tupI (infP p c).1 (infP p c).2.1 (infP p c).2.2):=by
 rw[infP_eq]
 generalize ruleR p.kind p.index p.ty p.terms p.forms (p.args.map infP) c=r at*
 obtain⟨f,u,e⟩:=r
 unfold finR
 by_cases he:e=0
 case neg=>
  rw[if_pos he]
  refine M.F Tryz.func131 ?_
  repeat'(first|refine M.go ?_|refine M.c2 (hrl) ?_|((with_reducible refine D.aw ?_);(fail_if_success with_reducible refine D.stopR (id:=4) ?_);(fail_if_success with_reducible refine D.stopS (id:=4) ?_);first|refine M.ga ?_|refine AW.condS U (fun h=> ?_) (fun h=> ?_))|refine M.gk ?_|fail)
  all_goals first
   |rfl
   |(exfalso;simp at h;exact he h)
   |trace_state
 subst he
 rw[if_neg (by simp)]
 obtain⟨r1,r2,r3,r4⟩:=hr rfl
 simp only at r1 r2
 have hfl:=ffull_le f r1
 have h1:=fcheckR_c f (by omega)
 by_cases hf:f.err=0
 case neg=>
  rw[if_pos hf]
  refine M.F Tryz.func131 ?_
  repeat'(first|refine M.go ?_|refine M.c2 (hrl) ?_|refine M.c2 (h1) ?_|((with_reducible refine D.aw ?_);(fail_if_success with_reducible refine D.stopR (id:=6) ?_);(fail_if_success with_reducible refine D.stopS (id:=6) ?_);first|refine M.ga ?_|refine AW.condS U (fun h=> ?_) (fun h=> ?_))|refine M.gk ?_|fail)
  all_goals first
   |rfl
   |(exfalso;simp at h;exact hf h)
   |trace_state
 rw[if_neg (by simp[hf])]
 have h2:=rContent_c f hf
 rw[hf] at h1
 cases hcf:contF f with
 |true=>
  rw[hcf] at h2
  rw[if_pos rfl]
  refine M.F Tryz.func131 ?_
  repeat'(first|refine M.gw ?_|refine M.c2 (hrl) ?_|refine M.c2 (h1) ?_|refine M.c2 (h2) ?_|fail)
  all_goals first
   |rfl
   |trace_state
 |false=>
  rw[hcf] at h2
  rw[if_neg (by simp)]
  refine M.F Tryz.func131 ?_
  repeat'(first|refine M.gw ?_|refine M.c2 (hrl) ?_|refine M.c2 (h1) ?_|refine M.c2 (h2) ?_|fail)
  all_goals first
   |rfl
   |trace_state
theorem trm_full{t:Tm}(hs:t.shape=true)(hz:t.size≤4096):t.full≤300000:=by have:=tfull_le t hs;omega
theorem frm_full{f:Fm}(hs:f.shape=true)(hz:f.size≤4096):f.full≤300000:=by have:=ffull_le f hs;omega
section
variable {c:Ck}
theorem krAll8_c{s:Ty}{p:Pf}{r:Res}(h1:PC E 202 [.agg c.view,.agg (Pf.mk 8 0 s [] [] [p]).view] (tupR r)):PC E 174 [.agg c.view,.agg (Pf.mk 8 0 s [] [] [p]).view] (tupR r):=by
 refine M.F Tryz.func174 ?_
 repeat'(first|refine M.gw ?_|refine M.c2 (h1) ?_|((with_reducible refine D.blk ?_);refine AW.block ?_)|fail)
 rfl
theorem krAll12_c{s:Ty}{p:Pf}{r:Res}(h1:PC E 202 [.agg c.view,.agg (Pf.mk 12 0 s [] [] [p]).view] (tupR r)):PC E 174 [.agg c.view,.agg (Pf.mk 12 0 s [] [] [p]).view] (tupR r):=by
 refine M.F Tryz.func174 ?_
 repeat'(first|refine M.gw ?_|refine M.c2 (h1) ?_|((with_reducible refine D.blk ?_);refine AW.block ?_)|fail)
 rfl
theorem krAt9_c{t:Tm}{p:Pf}{r:Res}(h1:PC E 203 [.agg c.view,.agg (Pf.mk 9 0 (.mk 0 []) [t] [] [p]).view] (tupR r)):PC E 174 [.agg c.view,.agg (Pf.mk 9 0 (.mk 0 []) [t] [] [p]).view] (tupR r):=by
 refine M.F Tryz.func174 ?_
 repeat'(first|refine M.gw ?_|refine M.c2 (h1) ?_|((with_reducible refine D.blk ?_);refine AW.block ?_)|fail)
 rfl
theorem krAt13_c{t:Tm}{p:Pf}{r:Res}(h1:PC E 203 [.agg c.view,.agg (Pf.mk 13 0 (.mk 0 []) [t] [] [p]).view] (tupR r)):PC E 174 [.agg c.view,.agg (Pf.mk 13 0 (.mk 0 []) [t] [] [p]).view] (tupR r):=by
 refine M.F Tryz.func174 ?_
 repeat'(first|refine M.gw ?_|refine M.c2 (h1) ?_|((with_reducible refine D.blk ?_);refine AW.block ?_)|fail)
 rfl
theorem krEx10_c{t:Tm}{f:Fm}{p:Pf}{r:Res}(h1:PC E 204 [.agg c.view,.agg (Pf.mk 10 0 (.mk 0 []) [t] [f] [p]).view] (tupR r)):PC E 174 [.agg c.view,.agg (Pf.mk 10 0 (.mk 0 []) [t] [f] [p]).view] (tupR r):=by
 refine M.F Tryz.func174 ?_
 repeat'(first|refine M.gw ?_|refine M.c2 (h1) ?_|((with_reducible refine D.blk ?_);refine AW.block ?_)|fail)
 rfl
theorem krEx14_c{t:Tm}{f:Fm}{p:Pf}{r:Res}(h1:PC E 204 [.agg c.view,.agg (Pf.mk 14 0 (.mk 0 []) [t] [f] [p]).view] (tupR r)):PC E 174 [.agg c.view,.agg (Pf.mk 14 0 (.mk 0 []) [t] [f] [p]).view] (tupR r):=by
 refine M.F Tryz.func174 ?_
 repeat'(first|refine M.gw ?_|refine M.c2 (h1) ?_|((with_reducible refine D.blk ?_);refine AW.block ?_)|fail)
 rfl
theorem krOpen11_c{p q:Pf}{r:Res}(h1:PC E 205 [.agg c.view,.agg (Pf.mk 11 0 (.mk 0 []) [] [] [p,q]).view] (tupR r)):PC E 174 [.agg c.view,.agg (Pf.mk 11 0 (.mk 0 []) [] [] [p,q]).view] (tupR r):=by
 refine M.F Tryz.func174 ?_
 repeat'(first|refine M.gw ?_|refine M.c2 (h1) ?_|((with_reducible refine D.blk ?_);refine AW.block ?_)|fail)
 rfl
theorem krOpen15_c{p q:Pf}{r:Res}(h1:PC E 205 [.agg c.view,.agg (Pf.mk 15 0 (.mk 0 []) [] [] [p,q]).view] (tupR r)):PC E 174 [.agg c.view,.agg (Pf.mk 15 0 (.mk 0 []) [] [] [p,q]).view] (tupR r):=by
 refine M.F Tryz.func174 ?_
 repeat'(first|refine M.gw ?_|refine M.c2 (h1) ?_|((with_reducible refine D.blk ?_);refine AW.block ?_)|fail)
 rfl
theorem krInd16_c{t:Tm}{f:Fm}{p q:Pf}{r:Res}(h1:PC E 206 [.agg c.view,.agg (Pf.mk 16 0 (.mk 0 []) [t] [f] [p,q]).view] (tupR r)):PC E 174 [.agg c.view,.agg (Pf.mk 16 0 (.mk 0 []) [t] [f] [p,q]).view] (tupR r):=by
 refine M.F Tryz.func174 ?_
 repeat'(first|refine M.gw ?_|refine M.c2 (h1) ?_|((with_reducible refine D.blk ?_);refine AW.block ?_)|fail)
 rfl
theorem krList17_c{t:Tm}{f:Fm}{p q:Pf}{r:Res}(h1:PC E 207 [.agg c.view,.agg (Pf.mk 17 0 (.mk 0 []) [t] [f] [p,q]).view] (tupR r)):PC E 174 [.agg c.view,.agg (Pf.mk 17 0 (.mk 0 []) [t] [f] [p,q]).view] (tupR r):=by
 refine M.F Tryz.func174 ?_
 repeat'(first|refine M.gw ?_|refine M.c2 (h1) ?_|((with_reducible refine D.blk ?_);refine AW.block ?_)|fail)
 rfl
theorem krSubst19_c{f:Fm}{p q:Pf}{r:Res}(h1:PC E 209 [.agg c.view,.agg (Pf.mk 19 0 (.mk 0 []) [] [f] [p,q]).view] (tupR r)):PC E 174 [.agg c.view,.agg (Pf.mk 19 0 (.mk 0 []) [] [f] [p,q]).view] (tupR r):=by
 refine M.F Tryz.func174 ?_
 repeat'(first|refine M.gw ?_|refine M.c2 (h1) ?_|((with_reducible refine D.blk ?_);refine AW.block ?_)|fail)
 rfl
theorem krChoice20_c{p:Pf}{r:Res}(h1:PC E 210 [.agg c.view,.agg (Pf.mk 20 0 (.mk 0 []) [] [] [p]).view] (tupR r)):PC E 174 [.agg c.view,.agg (Pf.mk 20 0 (.mk 0 []) [] [] [p]).view] (tupR r):=by
 refine M.F Tryz.func174 ?_
 repeat'(first|refine M.gw ?_|refine M.c2 (h1) ?_|((with_reducible refine D.blk ?_);refine AW.block ?_)|fail)
 rfl
theorem krRefl_c{t:Tm}(hc:c.ok)(ht:t.full≤300000):PC E 174 [.agg c.view,.agg (Pf.mk 18 0 (.mk 0 []) [t] [] []).view] (tupR (reflR t c)):=by
 have h1:=eqFm_c t t (by omega) (by omega)
 have h2:=ktyp_c c t 1 (by omega) (by have:=hc.sum;omega)
 unfold reflR
 refine M.F Tryz.func174 ?_
 repeat'(first|refine M.gw ?_|refine M.c2 (h1) ?_|refine M.c2 (h2) ?_|((with_reducible refine D.blk ?_);refine AW.block ?_)|fail)
 rfl
end
theorem inferR_c(p:Pf):p.shape=true→p.small=true→InfC p:=by
 induction p using Pf.ind with
 |h p ih=>
  intro hs hm c hc
  refine infer_rule hc (ruleR_ok hs hc) ?_
  obtain⟨h1,h2,h3,h4⟩:=pshape_parts hs
  obtain⟨m1,m2,m3⟩:=psmall_parts hm
  obtain⟨nd,n1,n2,n3,n4,n5,n6,n7,n8,n9⟩:=pf_parts hs
  have hA:∀a∈p.args,InfC a∧RsOk (infP a):=fun a ha=>⟨ih a ha (h4 a ha) (m3 a ha),infP_ok a (h4 a ha)⟩
  have hT:∀t∈p.terms,t.full≤300000:=fun t ht=>trm_full (h2 t ht) (m1 t ht)
  have hF:∀f∈p.forms,f.full≤300000:=fun f hf=>frm_full (h3 f hf) (m2 f hf)
  have hS:∀f∈p.forms,f.shape=true:=h3
  have hk:p.kind=1∨p.kind=2∨p.kind=3∨p.kind=4∨p.kind=5∨p.kind=6∨p.kind=7∨p.kind=8∨p.kind=9∨p.kind=10∨p.kind=11∨p.kind=12∨p.kind=13∨p.kind=14∨p.kind=15∨p.kind=16∨p.kind=17∨p.kind=18∨p.kind=19∨p.kind=20:=by omega
  clear ih hs hm h1 h2 h3 h4 m1 m2 m3 n9
  obtain⟨k,i,s,ts,fs,zs⟩:=p
  simp only[Pf.kind,Pf.index,Pf.ty,Pf.terms,Pf.forms,Pf.args] at*
  have hroom:c.tys.length+1≤16→∀s:Ty,s.err=0→(c.below [s]).ok:=fun h s hs=>hc.below (l:=[s]) h (by simpa using hs)
  rcases hk with rfl|rfl|rfl|rfl|rfl|rfl|rfl|rfl|rfl|rfl|rfl|rfl|rfl|rfl|rfl|rfl|rfl|rfl|rfl|rfl
  all_goals(simp only[ndP,reduceIte,Int.reduceEq,or_false,false_or,or_true,true_or,Option.some.injEq] at n1)
  all_goals(subst n1)
  all_goals(simp only[forall_const,reduceCtorEq,false_implies,Bool.true_eq_false,Bool.false_eq_true] at n2 n3 n4 n6 n7 n8)
  all_goals(first|(obtain rfl:=ln0 n2)|(obtain⟨t,rfl⟩:=ln1 n2))
  all_goals(first|(obtain rfl:=ln0 n3)|(obtain⟨f,rfl⟩:=ln1 n3))
  all_goals(first|(obtain rfl:=ln0 n4)|(obtain⟨a,rfl⟩:=ln1 n4)|(obtain⟨a,b,rfl⟩:=ln2 n4))
  all_goals(try subst n6)
  all_goals(try subst n8)
  ·exact krHyp_c hc i n5
  ·exact krLem_c hc i n5
  ·exact krAnd_c hc ((hA a (by simp)).1 c hc) ((hA b (by simp)).1 c hc) ((hA a (by simp)).2 c hc) ((hA b (by simp)).2 c hc)
  ·exact krPrj_c hc 0 (by omega) ((hA a (by simp)).1 c hc) ((hA a (by simp)).2 c hc)
  ·exact krPrj_c hc 1 (by omega) ((hA a (by simp)).1 c hc) ((hA a (by simp)).2 c hc)
  ·exact krImpI_c hc (hF f (by simp)) (fun t0 r0=>(hA a (by simp)).1 _ (hc.with_ (room_ok r0).2 (typedFC_inv t0).1 (typedFC_inv t0).2))
    (fun t0 r0=>by
     have ho:=hc.with_ (room_ok r0).2 (typedFC_inv t0).1 (typedFC_inv t0).2
     exact(resB ho ((hA a (by simp)).2 _ ho)).1)
  ·exact krImpE_c hc ((hA a (by simp)).1 c hc) ((hA b (by simp)).1 c hc) ((hA a (by simp)).2 c hc) ((hA b (by simp)).2 c hc)
  ·exact krAll8_c (kAll_c hc (.inl rfl) n7 (fun r0=>(hA a (by simp)).1 _ (hroom (room_ok r0).1 s n7)) (fun r0=>resB (hroom (room_ok r0).1 s n7) ((hA a (by simp)).2 _ (hroom (room_ok r0).1 s n7))))
  ·exact krAt9_c (kAt_c hc (.inl rfl) (hT t (by simp)) ((hA a (by simp)).1 c hc) ((hA a (by simp)).2 c hc))
  ·exact krEx10_c (kEx_c (r0:=infP a) hc (.inl rfl) (hF f (by simp)) (hT t (by simp)) (kPart_c hc (by have:=arg0_full f;have:=hF f (by simp);omega) (hT t (by simp)) ((hA a (by simp)).1 c hc) ((hA a (by simp)).2 c hc)) (partR_ok (hA a (by simp)).2 hc _ _))
  ·exact krOpen11_c (kOpen_c (r0:=infP a) (r1:=infP b) hc (.inl rfl) rfl rfl ((hA a (by simp)).1 c hc) ((hA a (by simp)).2 c hc) (fun h=>(hA b (by simp)).1 _ h) (fun h=>(hA b (by simp)).2 _ h))
  ·exact krAll12_c (kAll_c hc (.inr rfl) n7 (fun r0=>(hA a (by simp)).1 _ (hroom (room_ok r0).1 s n7)) (fun r0=>resB (hroom (room_ok r0).1 s n7) ((hA a (by simp)).2 _ (hroom (room_ok r0).1 s n7))))
  ·exact krAt13_c (kAt_c hc (.inr rfl) (hT t (by simp)) ((hA a (by simp)).1 c hc) ((hA a (by simp)).2 c hc))
  ·exact krEx14_c (kEx_c (r0:=infP a) hc (.inr rfl) (hF f (by simp)) (hT t (by simp)) (kPart_c hc (by have:=arg0_full f;have:=hF f (by simp);omega) (hT t (by simp)) ((hA a (by simp)).1 c hc) ((hA a (by simp)).2 c hc)) (partR_ok (hA a (by simp)).2 hc _ _))
  ·exact krOpen15_c (kOpen_c (r0:=infP a) (r1:=infP b) hc (.inr rfl) rfl rfl ((hA a (by simp)).1 c hc) ((hA a (by simp)).2 c hc) (fun h=>(hA b (by simp)).1 _ h) (fun h=>(hA b (by simp)).2 _ h))
  ·have hff:=hF f (by simp)
   exact krInd16_c (kInd_c (r0:=infP a) (r1:=infP b) hc hff (hT t (by simp)) (kPart_c hc (by omega) (by decide) ((hA a (by simp)).1 c hc) ((hA a (by simp)).2 c hc))
    (fun h=>kPart_c h (by have:=(lft_keeps (hS f (by simp)) (fr:=1) (by_:=1) (by omega)).2.2;omega) (by decide) ((hA b (by simp)).1 _ h) ((hA b (by simp)).2 _ h))
    (partR_ok (hA a (by simp)).2 hc _ _) (fun h=>by have:=partR_ok (hA b (by simp)).2 h (f.lft 1 1) (sT (vT 0));simpa [Ck.below,Ck.with_] using this))
  ·have hff:=hF f (by simp)
   exact krList17_c (kList_c (r0:=infP a) (r1:=infP b) hc hff (hT t (by simp)) (kPart_c hc (by omega) (by decide) ((hA a (by simp)).1 c hc) ((hA a (by simp)).2 c hc))
    (fun h=>kPart_c h (by have:=(lft_keeps (hS f (by simp)) (fr:=1) (by_:=2) (by omega)).2.2;omega) (by decide) ((hA b (by simp)).1 _ h) ((hA b (by simp)).2 _ h))
    (partR_ok (hA a (by simp)).2 hc _ _) (fun h=>by have:=partR_ok (hA b (by simp)).2 h (f.lft 1 2) consM;simpa [Ck.below,Ck.with_] using this))
  ·exact krRefl_c hc (hT t (by simp))
  ·exact krSubst19_c (kSubst_c (r0:=infP a) (r1:=infP b) hc rfl (hF f (by simp)) ((hA a (by simp)).1 c hc) ((hA a (by simp)).2 c hc) (fun t ht=>kPart_c hc (by have:=hF f (by simp);omega) ht ((hA b (by simp)).1 c hc) ((hA b (by simp)).2 c hc)))
  ·exact krChoice20_c (kChoice_c (r0:=infP a) hc rfl ((hA a (by simp)).1 c hc) ((hA a (by simp)).2 c hc))
theorem kSeq_c(lems hyps:List Fm)(tys:List Ty)(hl:∀f∈lems,f.full<274877906944)(hh:∀f∈hyps,f.full<274877906944)(ht:(tys.map Ty.size).sum<549755813888)(hll:lems.length<549755813888)(hhl:hyps.length<549755813888):
 PC E 130 [.s .fm lems,.agg [.s .ty tys,.s .fm hyps]] (.i (seqE lems tys hyps)):=by
 have h1:=contextR_c tys (by omega)
 unfold seqE
 by_cases c1:lems.length>32
 ·rw [if_pos c1]
  refine M.F Tryz.func130 ?_
  repeat'(first|refine M.go ?_|((with_reducible refine D.aw ?_);(fail_if_success with_reducible refine D.stopR (id:=3) ?_);(fail_if_success with_reducible refine D.stopS (id:=3) ?_);first|refine M.ga ?_|refine AW.condS U (fun h=> ?_) (fun h=> ?_))|refine M.gk ?_|fail)
  all_goals first
   |rfl
   |(exfalso;simp at h;omega)
   |trace_state
 rw[if_neg c1]
 refine M.F Tryz.func130 ?_
 repeat'(first|refine M.gw ?_|refine AW.condS U (fun h=> ?_) (fun h=> ?_)|fail)
 ·exfalso;simp at h;omega
 refine AW.range lems.length (fun m=>∀j (hj:j<lems.length),j<m→typedFC [] lems[j]=0)
  (fun m=>([(3,.ptr 0 0),(15,.s .fm lems),(16,.i lems.length),(17,.i m)],⟨1,[(0,.var [.s .ty tys,.s .fm hyps])]⟩))
  (by omega) (fun m=>rfl) (fun m=>rfl) rfl (fun j hj h=>by omega) (M.W [some 0]) ?_ ?_
 ·intro m hm hP
  have hc:=fTyped_c [] lems[m] (by have:=hl _ (List.getElem_mem hm);omega) (by simp)
  by_cases hx:typedFC [] lems[m]=0
  ·rw [hx] at hc
   repeat'(first|refine M.gw ?_|refine M.c2 (hc) ?_|fail)
   exact⟨rfl,all_step (p:=fun f=>typedFC [] f=0) hm hP hx,(M.W [some 0])⟩
  ·have e:=firstI_at hm hP hx
   rw[e,if_pos hx]
   repeat'(first|refine M.gw ?_|refine M.c2 (hc) ?_|refine AW.condS U (fun h=> ?_) (fun h=> ?_)|fail)
   all_goals first
    |rfl
    |(exfalso;rename_i h5;simp at h5;exact hx h5)
    |(exfalso;simp at h;exact hx h)
    |trace_state
 ·intro hP
  rw[firstI_none fun j hj _=>hP j hj hj,if_neg (by simp)]
  by_cases c2:ctxErr tys=0
  case neg=>
   rw[if_pos c2]
   repeat'(first|refine M.go ?_|refine M.c2 (h1) ?_|((with_reducible refine D.aw ?_);(fail_if_success with_reducible refine D.stopR (id:=13) ?_);(fail_if_success with_reducible refine D.stopS (id:=13) ?_);first|refine M.ga ?_|refine AW.condS U (fun h=> ?_) (fun h=> ?_))|refine M.gk ?_|fail)
   all_goals first
    |rfl
    |(exfalso;simp at h;exact c2 h)
    |trace_state
  rw[if_neg (by simp[c2])]
  rw[c2] at h1
  by_cases c3:hyps.length>16
  ·rw [if_pos c3]
   repeat'(first|refine M.go ?_|refine M.c2 (h1) ?_|((with_reducible refine D.aw ?_);(fail_if_success with_reducible refine D.stopR (id:=15) ?_);(fail_if_success with_reducible refine D.stopS (id:=15) ?_);first|refine M.ga ?_|refine AW.condS U (fun h=> ?_) (fun h=> ?_))|refine M.gk ?_|fail)
   all_goals first
    |rfl
    |(exfalso;simp at h;omega)
    |trace_state
  rw[if_neg c3]
  repeat'(first|refine M.gw ?_|refine M.c2 (h1) ?_|refine AW.condS U (fun h=> ?_) (fun h=> ?_)|fail)
  ·exfalso;simp at h;omega
  refine AW.range hyps.length (fun m=>∀j (hj:j<hyps.length),j<m→typedFC tys hyps[j]=0)
   (fun m=>([(3,.ptr 0 0),(38,.s .fm hyps),(39,.i hyps.length),(40,.i m)],⟨1,[(0,.var [.s .ty tys,.s .fm hyps])]⟩))
   (by omega) (fun m=>rfl) (fun m=>rfl) rfl (fun j hj h=>by omega) (M.W [some 0]) ?_ ?_
  ·intro m hm hP2
   have hc:=fTyped_c tys hyps[m] (by have:=hh _ (List.getElem_mem hm);omega) (by omega)
   by_cases hx:typedFC tys hyps[m]=0
   ·rw [hx] at hc
    repeat'(first|refine M.gw ?_|refine M.c2 (hc) ?_|fail)
    exact⟨rfl,all_step (p:=fun f=>typedFC tys f=0) hm hP2 hx,(M.W [some 0])⟩
   ·have e:=firstI_at hm hP2 hx
    rw[e]
    repeat'(first|refine M.gw ?_|refine M.c2 (hc) ?_|refine AW.condS U (fun h=> ?_) (fun h=> ?_)|fail)
    all_goals first
     |rfl
     |(exfalso;rename_i h5;simp at h5;exact hx h5)
     |(exfalso;simp at h;exact hx h)
     |trace_state
  ·intro hP2
   rw[firstI_none fun j hj _=>hP2 j hj hj]
   repeat'(first|refine M.gw ?_|fail)
   rfl
theorem kInfer_c(lems hyps:List Fm)(tys:List Ty)(p:Pf)(hl:∀f∈lems,f.full<274877906944)(hh:∀f∈hyps,f.full<274877906944)(ht:(tys.map Ty.size).sum<549755813888)(hll:lems.length<549755813888)(hhl:hyps.length<549755813888)(hp:p.full<274877906944):
 PC E 80 [.s .fm lems,.agg [.s .ty tys,.s .fm hyps],.agg p.view] (tupI (InferR lems tys hyps p).1 (InferR lems tys hyps p).2.1 (InferR lems tys hyps p).2.2):=by
 have h1:=kSeq_c lems hyps tys hl hh ht hll hhl
 have h2:=rcheckP_c p (by omega)
 unfold InferR
 by_cases c1:seqE lems tys hyps=0
 case neg=>
  rw[if_pos c1]
  refine M.F Tryz.func80 ?_
  repeat'(first|refine M.go ?_|refine M.c2 (h1) ?_|((with_reducible refine D.aw ?_);(fail_if_success with_reducible refine D.stopR (id:=4) ?_);(fail_if_success with_reducible refine D.stopS (id:=4) ?_);first|refine M.ga ?_|refine AW.condS U (fun h=> ?_) (fun h=> ?_))|refine M.gk ?_|fail)
  all_goals first
   |rfl
   |(exfalso;simp at h;exact c1 h)
   |trace_state
 rw[if_neg (by simp[c1])]
 rw[c1] at h1
 by_cases c2:p.err=0
 case neg=>
  rw[if_pos c2]
  refine M.F Tryz.func80 ?_
  repeat'(first|refine M.go ?_|refine M.c2 (h1) ?_|refine M.c2 (h2) ?_|((with_reducible refine D.aw ?_);(fail_if_success with_reducible refine D.stopR (id:=7) ?_);(fail_if_success with_reducible refine D.stopS (id:=7) ?_);first|refine M.ga ?_|refine AW.condS U (fun h=> ?_) (fun h=> ?_))|refine M.gk ?_|fail)
  all_goals first
   |rfl
   |(exfalso;simp at h;exact c2 h)
   |trace_state
 rw[if_neg (by simp[c2])]
 rw[c2] at h2
 obtain⟨ps,pm,_⟩:=(Pf.err_iff p).1 c2
 have hok:=seqE_ok c1
 have h3:PC E 131 [.agg [.s .fm lems,.s .ty tys,.s .fm hyps],.agg p.view] (tupI (infP p ⟨lems,tys,hyps⟩).1 (infP p ⟨lems,tys,hyps⟩).2.1 (infP p ⟨lems,tys,hyps⟩).2.2):=inferR_c p ps pm ⟨lems,tys,hyps⟩ hok
 have hro:=infP_ok p ps ⟨lems,tys,hyps⟩ hok
 generalize infP p ⟨lems,tys,hyps⟩=r at*
 obtain⟨f,u,e⟩:=r
 have hb:=resB hok hro
 have h4:=copyFm_c _ f (Nat.le_refl _) (by omega)
 by_cases he:e=0
 ·subst he
  refine M.F Tryz.func80 ?_
  repeat'(first|refine M.gw ?_|refine M.c2 (h1) ?_|refine M.c2 (h2) ?_|refine M.c2 (h3) ?_|refine M.c2 (h4) ?_|fail)
  rfl
 ·have e1:=hro.2 he
  simp only[noRes,Prod.mk.injEq] at e1
  obtain⟨rfl,rfl,_⟩:=e1
  refine M.F Tryz.func80 ?_
  repeat'(first|refine M.go ?_|refine M.c2 (h1) ?_|refine M.c2 (h2) ?_|refine M.c2 (h3) ?_|((with_reducible refine D.aw ?_);(fail_if_success with_reducible refine D.stopR (id:=10) ?_);(fail_if_success with_reducible refine D.stopS (id:=10) ?_);first|refine M.ga ?_|refine AW.condS U (fun h=> ?_) (fun h=> ?_))|refine M.gk ?_|fail)
  all_goals first
   |rfl
   |(exfalso;simp at h;exact he h)
   |trace_state
theorem kAccepts_c(lems hyps:List Fm)(tys:List Ty)(p:Pf)(f:Fm)(hl:∀f∈lems,f.full<274877906944)(hh:∀f∈hyps,f.full<274877906944)(ht:(tys.map Ty.size).sum<549755813888)(hll:lems.length<549755813888)(hhl:hyps.length<549755813888)(hp:p.full<274877906944)(hf:f.full<274877906944):
 PC E 19 [.s .fm lems,.agg [.s .ty tys,.s .fm hyps],.agg p.view,.agg f.view] (.i (AcceptsR lems tys hyps p f)):=by
 have h1:=kInfer_c lems hyps tys p hl hh ht hll hhl hp
 have h2:=fTyped_c tys f (by omega) (by omega)
 have hbd:(InferR lems tys hyps p).1.full≤266240:=by
  unfold InferR
  by_cases c1:seqE lems tys hyps=0
  ·rw [if_neg (by simp[c1])]
   by_cases c2:p.err=0
   ·rw [if_neg (by simp[c2])]
    exact(resB (seqE_ok c1) (infP_ok p ((Pf.err_iff p).1 c2).1 ⟨lems,tys,hyps⟩ (seqE_ok c1))).1
   ·rw [if_pos c2];exact(by decide:noFm.full≤266240)
  ·rw [if_pos c1];exact(by decide:noFm.full≤266240)
 have h3:=rfMatch_c (InferR lems tys hyps p).1 f (by omega) hf
 unfold AcceptsR
 generalize InferR lems tys hyps p=r at*
 obtain⟨g,u,e⟩:=r
 by_cases he:e=0
 case neg=>
  rw[if_pos he]
  refine M.F Tryz.func19 ?_
  repeat'(first|refine M.go ?_|refine M.c2 (h1) ?_|((with_reducible refine D.aw ?_);(fail_if_success with_reducible refine D.stopR (id:=4) ?_);(fail_if_success with_reducible refine D.stopS (id:=4) ?_);first|refine M.ga ?_|refine AW.condS U (fun h=> ?_) (fun h=> ?_))|refine M.gk ?_|fail)
  all_goals first
   |rfl
   |(exfalso;simp at h;exact he h)
   |trace_state
 subst he
 rw[if_neg (by simp)]
 by_cases c2:typedFC tys f=0
 case neg=>
  rw[if_pos c2]
  refine M.F Tryz.func19 ?_
  repeat'(first|refine M.go ?_|refine M.c2 (h1) ?_|refine M.c2 (h2) ?_|((with_reducible refine D.aw ?_);(fail_if_success with_reducible refine D.stopR (id:=7) ?_);(fail_if_success with_reducible refine D.stopS (id:=7) ?_);first|refine M.ga ?_|refine AW.condS U (fun h=> ?_) (fun h=> ?_))|refine M.gk ?_|fail)
  all_goals first
   |rfl
   |(exfalso;simp at h;exact c2 h)
   |trace_state
 rw[if_neg (by simp[c2])]
 rw[c2] at h2
 refine M.F Tryz.func19 ?_
 repeat'(first|refine M.gw ?_|refine M.c2 (h1) ?_|refine M.c2 (h2) ?_|refine M.c2 (h3) ?_|fail)
 rfl
theorem ruleOf_c(k:Int):PC E 218 [.i k] (.tup [.agg (ruC k),.bool (ndP k).isSome]):=by
 by_cases hk:1≤k∧k≤20
 ·have:k=1∨k=2∨k=3∨k=4∨k=5∨k=6∨k=7∨k=8∨k=9∨k=10∨k=11∨k=12∨k=13∨k=14∨k=15∨k=16∨k=17∨k=18∨k=19∨k=20:=by omega
  rcases this with rfl|rfl|rfl|rfl|rfl|rfl|rfl|rfl|rfl|rfl|rfl|rfl|rfl|rfl|rfl|rfl|rfl|rfl|rfl|rfl
  all_goals(refine M.F Tryz.func218 ?_)
  all_goals(repeat'(first|refine M.gw ?_|refine L.lkb U U U U U U U U U U ?_|((fail_if_success refine AX.wt U ?_);refine AX.gs U U (fun _=>trivial) (fun h=> ?_) (fun h=> ?_))|((with_reducible refine D.sblk ?_);refine K.sq (AW.block ?_))|((with_reducible refine D.blk ?_);refine AW.block ?_)|refine K.sq (AW.condS U (fun h=> ?_) (fun h=> ?_))|refine AW.condS U (fun h=> ?_) (fun h=> ?_)|((with_reducible show @LE.le Nat _ _ _);omega)|((with_reducible show @LT.lt Nat _ _ _);omega)|fail))
  ·refine L.ixa 1 rfl rfl rfl rfl rfl ?_ ?_ rfl ?_
   ·decide
   ·decide
   repeat'(first|refine M.gw ?_|refine L.lkb U U U U U U U U U U ?_|((fail_if_success refine AX.wt U ?_);refine AX.gs U U (fun _=>trivial) (fun h=> ?_) (fun h=> ?_))|((with_reducible refine D.sblk ?_);refine K.sq (AW.block ?_))|((with_reducible refine D.blk ?_);refine AW.block ?_)|refine K.sq (AW.condS U (fun h=> ?_) (fun h=> ?_))|refine AW.condS U (fun h=> ?_) (fun h=> ?_)|((with_reducible show @LE.le Nat _ _ _);omega)|((with_reducible show @LT.lt Nat _ _ _);omega)|fail)
   rfl
  ·refine L.ixa 2 rfl rfl rfl rfl rfl ?_ ?_ rfl ?_
   ·decide
   ·decide
   repeat'(first|refine M.gw ?_|refine L.lkb U U U U U U U U U U ?_|((fail_if_success refine AX.wt U ?_);refine AX.gs U U (fun _=>trivial) (fun h=> ?_) (fun h=> ?_))|((with_reducible refine D.sblk ?_);refine K.sq (AW.block ?_))|((with_reducible refine D.blk ?_);refine AW.block ?_)|refine K.sq (AW.condS U (fun h=> ?_) (fun h=> ?_))|refine AW.condS U (fun h=> ?_) (fun h=> ?_)|((with_reducible show @LE.le Nat _ _ _);omega)|((with_reducible show @LT.lt Nat _ _ _);omega)|fail)
   rfl
  ·refine L.ixa 3 rfl rfl rfl rfl rfl ?_ ?_ rfl ?_
   ·decide
   ·decide
   repeat'(first|refine M.gw ?_|refine L.lkb U U U U U U U U U U ?_|((fail_if_success refine AX.wt U ?_);refine AX.gs U U (fun _=>trivial) (fun h=> ?_) (fun h=> ?_))|((with_reducible refine D.sblk ?_);refine K.sq (AW.block ?_))|((with_reducible refine D.blk ?_);refine AW.block ?_)|refine K.sq (AW.condS U (fun h=> ?_) (fun h=> ?_))|refine AW.condS U (fun h=> ?_) (fun h=> ?_)|((with_reducible show @LE.le Nat _ _ _);omega)|((with_reducible show @LT.lt Nat _ _ _);omega)|fail)
   rfl
  ·refine L.ixa 4 rfl rfl rfl rfl rfl ?_ ?_ rfl ?_
   ·decide
   ·decide
   repeat'(first|refine M.gw ?_|refine L.lkb U U U U U U U U U U ?_|((fail_if_success refine AX.wt U ?_);refine AX.gs U U (fun _=>trivial) (fun h=> ?_) (fun h=> ?_))|((with_reducible refine D.sblk ?_);refine K.sq (AW.block ?_))|((with_reducible refine D.blk ?_);refine AW.block ?_)|refine K.sq (AW.condS U (fun h=> ?_) (fun h=> ?_))|refine AW.condS U (fun h=> ?_) (fun h=> ?_)|((with_reducible show @LE.le Nat _ _ _);omega)|((with_reducible show @LT.lt Nat _ _ _);omega)|fail)
   rfl
  ·refine L.ixa 5 rfl rfl rfl rfl rfl ?_ ?_ rfl ?_
   ·decide
   ·decide
   repeat'(first|refine M.gw ?_|refine L.lkb U U U U U U U U U U ?_|((fail_if_success refine AX.wt U ?_);refine AX.gs U U (fun _=>trivial) (fun h=> ?_) (fun h=> ?_))|((with_reducible refine D.sblk ?_);refine K.sq (AW.block ?_))|((with_reducible refine D.blk ?_);refine AW.block ?_)|refine K.sq (AW.condS U (fun h=> ?_) (fun h=> ?_))|refine AW.condS U (fun h=> ?_) (fun h=> ?_)|((with_reducible show @LE.le Nat _ _ _);omega)|((with_reducible show @LT.lt Nat _ _ _);omega)|fail)
   rfl
  ·refine L.ixa 6 rfl rfl rfl rfl rfl ?_ ?_ rfl ?_
   ·decide
   ·decide
   repeat'(first|refine M.gw ?_|refine L.lkb U U U U U U U U U U ?_|((fail_if_success refine AX.wt U ?_);refine AX.gs U U (fun _=>trivial) (fun h=> ?_) (fun h=> ?_))|((with_reducible refine D.sblk ?_);refine K.sq (AW.block ?_))|((with_reducible refine D.blk ?_);refine AW.block ?_)|refine K.sq (AW.condS U (fun h=> ?_) (fun h=> ?_))|refine AW.condS U (fun h=> ?_) (fun h=> ?_)|((with_reducible show @LE.le Nat _ _ _);omega)|((with_reducible show @LT.lt Nat _ _ _);omega)|fail)
   rfl
  ·refine L.ixa 7 rfl rfl rfl rfl rfl ?_ ?_ rfl ?_
   ·decide
   ·decide
   repeat'(first|refine M.gw ?_|refine L.lkb U U U U U U U U U U ?_|((fail_if_success refine AX.wt U ?_);refine AX.gs U U (fun _=>trivial) (fun h=> ?_) (fun h=> ?_))|((with_reducible refine D.sblk ?_);refine K.sq (AW.block ?_))|((with_reducible refine D.blk ?_);refine AW.block ?_)|refine K.sq (AW.condS U (fun h=> ?_) (fun h=> ?_))|refine AW.condS U (fun h=> ?_) (fun h=> ?_)|((with_reducible show @LE.le Nat _ _ _);omega)|((with_reducible show @LT.lt Nat _ _ _);omega)|fail)
   rfl
  ·refine L.ixa 8 rfl rfl rfl rfl rfl ?_ ?_ rfl ?_
   ·decide
   ·decide
   repeat'(first|refine M.gw ?_|refine L.lkb U U U U U U U U U U ?_|((fail_if_success refine AX.wt U ?_);refine AX.gs U U (fun _=>trivial) (fun h=> ?_) (fun h=> ?_))|((with_reducible refine D.sblk ?_);refine K.sq (AW.block ?_))|((with_reducible refine D.blk ?_);refine AW.block ?_)|refine K.sq (AW.condS U (fun h=> ?_) (fun h=> ?_))|refine AW.condS U (fun h=> ?_) (fun h=> ?_)|((with_reducible show @LE.le Nat _ _ _);omega)|((with_reducible show @LT.lt Nat _ _ _);omega)|fail)
   rfl
  ·refine L.ixa 9 rfl rfl rfl rfl rfl ?_ ?_ rfl ?_
   ·decide
   ·decide
   repeat'(first|refine M.gw ?_|refine L.lkb U U U U U U U U U U ?_|((fail_if_success refine AX.wt U ?_);refine AX.gs U U (fun _=>trivial) (fun h=> ?_) (fun h=> ?_))|((with_reducible refine D.sblk ?_);refine K.sq (AW.block ?_))|((with_reducible refine D.blk ?_);refine AW.block ?_)|refine K.sq (AW.condS U (fun h=> ?_) (fun h=> ?_))|refine AW.condS U (fun h=> ?_) (fun h=> ?_)|((with_reducible show @LE.le Nat _ _ _);omega)|((with_reducible show @LT.lt Nat _ _ _);omega)|fail)
   rfl
  ·refine L.ixa 10 rfl rfl rfl rfl rfl ?_ ?_ rfl ?_
   ·decide
   ·decide
   repeat'(first|refine M.gw ?_|refine L.lkb U U U U U U U U U U ?_|((fail_if_success refine AX.wt U ?_);refine AX.gs U U (fun _=>trivial) (fun h=> ?_) (fun h=> ?_))|((with_reducible refine D.sblk ?_);refine K.sq (AW.block ?_))|((with_reducible refine D.blk ?_);refine AW.block ?_)|refine K.sq (AW.condS U (fun h=> ?_) (fun h=> ?_))|refine AW.condS U (fun h=> ?_) (fun h=> ?_)|((with_reducible show @LE.le Nat _ _ _);omega)|((with_reducible show @LT.lt Nat _ _ _);omega)|fail)
   rfl
  ·refine L.ixa 11 rfl rfl rfl rfl rfl ?_ ?_ rfl ?_
   ·decide
   ·decide
   repeat'(first|refine M.gw ?_|refine L.lkb U U U U U U U U U U ?_|((fail_if_success refine AX.wt U ?_);refine AX.gs U U (fun _=>trivial) (fun h=> ?_) (fun h=> ?_))|((with_reducible refine D.sblk ?_);refine K.sq (AW.block ?_))|((with_reducible refine D.blk ?_);refine AW.block ?_)|refine K.sq (AW.condS U (fun h=> ?_) (fun h=> ?_))|refine AW.condS U (fun h=> ?_) (fun h=> ?_)|((with_reducible show @LE.le Nat _ _ _);omega)|((with_reducible show @LT.lt Nat _ _ _);omega)|fail)
   rfl
  ·refine L.ixa 12 rfl rfl rfl rfl rfl ?_ ?_ rfl ?_
   ·decide
   ·decide
   repeat'(first|refine M.gw ?_|refine L.lkb U U U U U U U U U U ?_|((fail_if_success refine AX.wt U ?_);refine AX.gs U U (fun _=>trivial) (fun h=> ?_) (fun h=> ?_))|((with_reducible refine D.sblk ?_);refine K.sq (AW.block ?_))|((with_reducible refine D.blk ?_);refine AW.block ?_)|refine K.sq (AW.condS U (fun h=> ?_) (fun h=> ?_))|refine AW.condS U (fun h=> ?_) (fun h=> ?_)|((with_reducible show @LE.le Nat _ _ _);omega)|((with_reducible show @LT.lt Nat _ _ _);omega)|fail)
   rfl
  ·refine L.ixa 13 rfl rfl rfl rfl rfl ?_ ?_ rfl ?_
   ·decide
   ·decide
   repeat'(first|refine M.gw ?_|refine L.lkb U U U U U U U U U U ?_|((fail_if_success refine AX.wt U ?_);refine AX.gs U U (fun _=>trivial) (fun h=> ?_) (fun h=> ?_))|((with_reducible refine D.sblk ?_);refine K.sq (AW.block ?_))|((with_reducible refine D.blk ?_);refine AW.block ?_)|refine K.sq (AW.condS U (fun h=> ?_) (fun h=> ?_))|refine AW.condS U (fun h=> ?_) (fun h=> ?_)|((with_reducible show @LE.le Nat _ _ _);omega)|((with_reducible show @LT.lt Nat _ _ _);omega)|fail)
   rfl
  ·refine L.ixa 14 rfl rfl rfl rfl rfl ?_ ?_ rfl ?_
   ·decide
   ·decide
   repeat'(first|refine M.gw ?_|refine L.lkb U U U U U U U U U U ?_|((fail_if_success refine AX.wt U ?_);refine AX.gs U U (fun _=>trivial) (fun h=> ?_) (fun h=> ?_))|((with_reducible refine D.sblk ?_);refine K.sq (AW.block ?_))|((with_reducible refine D.blk ?_);refine AW.block ?_)|refine K.sq (AW.condS U (fun h=> ?_) (fun h=> ?_))|refine AW.condS U (fun h=> ?_) (fun h=> ?_)|((with_reducible show @LE.le Nat _ _ _);omega)|((with_reducible show @LT.lt Nat _ _ _);omega)|fail)
   rfl
  ·refine L.ixa 15 rfl rfl rfl rfl rfl ?_ ?_ rfl ?_
   ·decide
   ·decide
   repeat'(first|refine M.gw ?_|refine L.lkb U U U U U U U U U U ?_|((fail_if_success refine AX.wt U ?_);refine AX.gs U U (fun _=>trivial) (fun h=> ?_) (fun h=> ?_))|((with_reducible refine D.sblk ?_);refine K.sq (AW.block ?_))|((with_reducible refine D.blk ?_);refine AW.block ?_)|refine K.sq (AW.condS U (fun h=> ?_) (fun h=> ?_))|refine AW.condS U (fun h=> ?_) (fun h=> ?_)|((with_reducible show @LE.le Nat _ _ _);omega)|((with_reducible show @LT.lt Nat _ _ _);omega)|fail)
   rfl
  ·refine L.ixa 16 rfl rfl rfl rfl rfl ?_ ?_ rfl ?_
   ·decide
   ·decide
   repeat'(first|refine M.gw ?_|refine L.lkb U U U U U U U U U U ?_|((fail_if_success refine AX.wt U ?_);refine AX.gs U U (fun _=>trivial) (fun h=> ?_) (fun h=> ?_))|((with_reducible refine D.sblk ?_);refine K.sq (AW.block ?_))|((with_reducible refine D.blk ?_);refine AW.block ?_)|refine K.sq (AW.condS U (fun h=> ?_) (fun h=> ?_))|refine AW.condS U (fun h=> ?_) (fun h=> ?_)|((with_reducible show @LE.le Nat _ _ _);omega)|((with_reducible show @LT.lt Nat _ _ _);omega)|fail)
   rfl
  ·refine L.ixa 17 rfl rfl rfl rfl rfl ?_ ?_ rfl ?_
   ·decide
   ·decide
   repeat'(first|refine M.gw ?_|refine L.lkb U U U U U U U U U U ?_|((fail_if_success refine AX.wt U ?_);refine AX.gs U U (fun _=>trivial) (fun h=> ?_) (fun h=> ?_))|((with_reducible refine D.sblk ?_);refine K.sq (AW.block ?_))|((with_reducible refine D.blk ?_);refine AW.block ?_)|refine K.sq (AW.condS U (fun h=> ?_) (fun h=> ?_))|refine AW.condS U (fun h=> ?_) (fun h=> ?_)|((with_reducible show @LE.le Nat _ _ _);omega)|((with_reducible show @LT.lt Nat _ _ _);omega)|fail)
   rfl
  ·refine L.ixa 18 rfl rfl rfl rfl rfl ?_ ?_ rfl ?_
   ·decide
   ·decide
   repeat'(first|refine M.gw ?_|refine L.lkb U U U U U U U U U U ?_|((fail_if_success refine AX.wt U ?_);refine AX.gs U U (fun _=>trivial) (fun h=> ?_) (fun h=> ?_))|((with_reducible refine D.sblk ?_);refine K.sq (AW.block ?_))|((with_reducible refine D.blk ?_);refine AW.block ?_)|refine K.sq (AW.condS U (fun h=> ?_) (fun h=> ?_))|refine AW.condS U (fun h=> ?_) (fun h=> ?_)|((with_reducible show @LE.le Nat _ _ _);omega)|((with_reducible show @LT.lt Nat _ _ _);omega)|fail)
   rfl
  ·refine L.ixa 19 rfl rfl rfl rfl rfl ?_ ?_ rfl ?_
   ·decide
   ·decide
   repeat'(first|refine M.gw ?_|refine L.lkb U U U U U U U U U U ?_|((fail_if_success refine AX.wt U ?_);refine AX.gs U U (fun _=>trivial) (fun h=> ?_) (fun h=> ?_))|((with_reducible refine D.sblk ?_);refine K.sq (AW.block ?_))|((with_reducible refine D.blk ?_);refine AW.block ?_)|refine K.sq (AW.condS U (fun h=> ?_) (fun h=> ?_))|refine AW.condS U (fun h=> ?_) (fun h=> ?_)|((with_reducible show @LE.le Nat _ _ _);omega)|((with_reducible show @LT.lt Nat _ _ _);omega)|fail)
   rfl
  ·refine L.ixa 20 rfl rfl rfl rfl rfl ?_ ?_ rfl ?_
   ·decide
   ·decide
   repeat'(first|refine M.gw ?_|refine L.lkb U U U U U U U U U U ?_|((fail_if_success refine AX.wt U ?_);refine AX.gs U U (fun _=>trivial) (fun h=> ?_) (fun h=> ?_))|((with_reducible refine D.sblk ?_);refine K.sq (AW.block ?_))|((with_reducible refine D.blk ?_);refine AW.block ?_)|refine K.sq (AW.condS U (fun h=> ?_) (fun h=> ?_))|refine AW.condS U (fun h=> ?_) (fun h=> ?_)|((with_reducible show @LE.le Nat _ _ _);omega)|((with_reducible show @LT.lt Nat _ _ _);omega)|fail)
   rfl
 ·have e:ndP k=none:=by
   unfold ndP
   repeat rw[if_neg (by omega)]
  have e2:ruC k=[.bool false,.bool false,.i 0,.i 0,.i 0,.i 0,.i 0,.i 0]:=by unfold ruC;rw[e]
  rw[e,e2]
  refine M.F Tryz.func218 ?_
  repeat'(first|refine M.gw ?_|refine L.lkb U U U U U U U U U U ?_|((fail_if_success refine AX.wt U ?_);refine AX.gs U U (fun _=>trivial) (fun h=> ?_) (fun h=> ?_))|((with_reducible refine D.sblk ?_);refine K.sq (AW.block ?_))|((with_reducible refine D.blk ?_);refine AW.block ?_)|refine K.sq (AW.condS U (fun h=> ?_) (fun h=> ?_))|refine AW.condS U (fun h=> ?_) (fun h=> ?_)|((with_reducible show @LE.le Nat _ _ _);omega)|((with_reducible show @LT.lt Nat _ _ _);omega)|fail)
  all_goals first
   |rfl
   |(exfalso;simp at*;omega)
end Go.Ab
