/- A part of this seat's proofs. No conditions. -/
import Derived.Test.YtlikcaapgaalhaaGreatDoorEST1
namespace Go.Ab
open Go Go.Proofs
set_option maxRecDepth 100000
set_option maxHeartbeats 4000000
set_option linter.all false
section
variable {c:Ck} (hc:c.ok) {p q:Pf} {r0 r1:Rs}
include hc
theorem kList_c{f:Fm}{t:Tm}(hf:f.full≤300000)(ht:t.full≤300000)
 (hpa:PC E 206 [.agg c.view,.agg p.view,.agg f.view,.agg nilM.view] (.tup [.s .int (partR r0 c f nilM).1,.i (partR r0 c f nilM).2]))
 (hpb:((c.below [natT,listT]).with_ (f.lft 1 1)).ok→PC E 206 [.agg ((c.below [natT,listT]).with_ (f.lft 1 1)).view,.agg q.view,.agg (f.lft 1 2).view,.agg consM.view] (.tup [.s .int (partR r1 ((c.below [natT,listT]).with_ (f.lft 1 1)) (f.lft 1 2) consM).1,.i (partR r1 ((c.below [natT,listT]).with_ (f.lft 1 1)) (f.lft 1 2) consM).2]))
 (hua:UsesOk c.tys.length (partR r0 c f nilM).1) (hub:((c.below [natT,listT]).with_ (f.lft 1 1)).ok→UsesOk (c.tys.length+2) (partR r1 ((c.below [natT,listT]).with_ (f.lft 1 1)) (f.lft 1 2) consM).1):
 PC E 179 [.agg c.view,.agg (Pf.mk 17 0 (.mk 0 []) [t] [f] [p,q]).view] (tupR (listR f t r0 r1 c)):=by
 have hl:=hc.len
 have hn:=hc.nh
 have hsum:=hc.sum
 have hul:=hua.len
 have h1:=fBelow_c (c.tys++[listT]) f (by omega) (hc.one list_err) (by simp;omega)
 have h2:=ktyp_c c t 2 (by omega) (by omega)
 have h3:=n_c 7 [] (by simp)
 have h4:=kroom_c c 2 1 (by omega) (by omega)
 have h5:=nat_c
 have h6:=kbelow_c c hc [natT,listT] (by simp) (by simp)
 have h7:=kwith_c (c.below [natT,listT]) (f.lft 1 1) (by simp[Ck.below];omega)
 have h9:=var_c 0
 have h9':=var_c 1
 have h5':=list_c
 have h10:=n_c 8 [vT 1,vT 0] (by simp[vT,Tm.full,Tm.fulls,Ty.size,Ty.sizes])
 have h11:=kput_c f t (by omega) (by omega)
 unfold listR
 generalize hA:partR r0 c f nilM=a at*
 generalize hB:partR r1 ((c.below [natT,listT]).with_ (f.lft 1 1)) (f.lft 1 2) consM=b at*
 by_cases e0:typedF (c.tys++[listT]) f=0
 case neg=>
  rw[if_pos e0]
  refine M.F Tryz.func179 ?_
  repeat'(first|refine M.o2 @h5' @h1 ?_|refine M.z1 5 ?_|refine M.cs ?_ ?_<;>intro h|refine M.gk ?_|fail)
  all_goals first
   |rfl
   |(exfalso;simp at h;exact e0 h)
   |trace_state
 rw[if_neg (by simp[e0])]
 rw[e0] at h1
 obtain⟨f1,f2⟩:=typedF_inv (hc.one list_err) e0
 have s0:=(Fm.err_iff _).1 f1
 by_cases e1:kTyp c t 2=0
 case neg=>
  rw[if_pos e1]
  refine M.F Tryz.func179 ?_
  repeat'(first|refine M.o3 @h5' @h1 @h2 ?_|refine M.z1 8 ?_|refine M.cs ?_ ?_<;>intro h|refine M.gk ?_|fail)
  all_goals first
   |rfl
   |(exfalso;simp at h;exact e1 h)
   |trace_state
 rw[if_neg (by simp[e1])]
 rw[e1] at h2
 obtain⟨te,ti⟩:=kTyp_list e1
 by_cases e2:a.2=0
 case neg=>
  rw[if_pos e2]
  refine M.F Tryz.func179 ?_
  repeat'(first|refine M.o5 @h5' @h1 @h2 @h3 @hpa ?_|refine M.z1 11 ?_|refine M.cs ?_ ?_<;>intro h|refine M.gk ?_|fail)
  all_goals first
   |rfl
   |(exfalso;simp at h;exact e2 h)
   |trace_state
 rw[if_neg (by simp[e2])]
 rw[e2] at hpa
 by_cases e3:c.room 2 1=0
 case neg=>
  rw[if_pos e3]
  rw[room_no e3] at h4
  refine M.F Tryz.func179 ?_
  refine M.w6 @h5' @h1 @h2 @h3 @hpa @h4 ?_
  all_goals first
   |rfl
   |trace_state
 rw[if_neg (by simp[e3])]
 rw[e3] at h4
 have hr:=room_ok e3
 have hb:((c.below [natT,listT]).with_ (f.lft 1 1)).ok:=(hc.below (l:=[natT,listT]) hr.1 (by simp[nat_err,list_err])).with_ (by simpa [Ck.below] using hr.2) (lft_err f1 (by omega)) (by simpa [Ck.below] using lft_okTs (g:=c.tys) (h:=[listT]) [natT] s0.1 f2)
 have h8:=kup_c f2 s0.1 (by omega) (by simp;omega) 1 1 (by omega) (by omega)
 have h8':=kup_c f2 s0.1 (by omega) (by simp;omega) 1 2 (by omega) (by omega)
 have h12:=hpb hb
 have hub':=hub hb
 by_cases e4:b.2=0
 case neg=>
  rw[if_pos e4]
  refine M.F Tryz.func179 ?_
  repeat'(first|refine M.o6 @h5 @h5' @h1 @h2 @h3 @hpa ?_|refine M.c2 (h4) ?_|refine M.c2 (h6) ?_|refine M.c2 (h7) ?_|refine M.c2 (h8) ?_|refine M.c2 (h8') ?_|refine M.c2 (h9) ?_|refine M.c2 (h9') ?_|refine M.c2 (h10) ?_|refine M.c2 (h12) ?_|refine M.z1 17 ?_|refine M.cs ?_ ?_<;>intro h|refine M.gk ?_|fail)
  all_goals first
   |rfl
   |(exfalso;simp at h;exact e4 h)
   |trace_state
 rw[if_neg (by simp[e4])]
 rw[e4] at h12
 have hfr:=kfree_c t te ti (by omega)
 have hfl:=(freeT_ok ti).len
 have hun:=kunion_c (freeT t) a.1 (by omega) (by omega)
 have hlu:UsesOk c.tys.length (unionI (freeT t) a.1):= .union (freeT_ok ti).2 hua.2
 have hll:=hlu.len
 have hbl:=hub'.len
 have hou:=kout_c b.1 2 (by omega) (by omega) (fun x hx=>by have:=hub'.2 x hx;omega)
 have hol:=outI_len b.1 2
 have hun2:=kunion_c (unionI (freeT t) a.1) (outI b.1 2) (by omega) (by omega)
 refine M.F Tryz.func179 ?_
 repeat'(first|refine M.w6 @h5 @h5' @h1 @h2 @h3 @hpa ?_|refine M.c2 (h4) ?_|refine M.c2 (h6) ?_|refine M.c2 (h7) ?_|refine M.c2 (h8) ?_|refine M.c2 (h8') ?_|refine M.c2 (h9) ?_|refine M.c2 (h9') ?_|refine M.c2 (h10) ?_|refine M.c2 (h12) ?_|refine M.c2 (h11) ?_|refine M.c2 (hfr) ?_|refine M.c2 (hun) ?_|refine M.c2 (hou) ?_|refine M.c2 (hun2) ?_|fail)
 all_goals first
  |rfl
  |trace_state
end
end Go.Ab
