/- A part of this seat's proofs. No conditions. -/
import Derived.Test.YtlikcaapgaalhaaGreatDoorEST1
namespace Go.Ab
open Go Go.Proofs
set_option maxRecDepth 100000
set_option maxHeartbeats 4000000
set_option linter.all false
section
variable {c:Ck} (hc:c.ok) {p q:Pf} {r0 r1:Rs}
include hc
theorem kSubst_c{f:Fm}{f0:Fm}{u0:List Int}{e0:Int}(hr0:r0 c=(f0,u0,e0))(hf:f.full≤300000)
 (hp:PC E 83 [.agg c.view,.agg p.view] (tupI f0 u0 e0)) (o0:ResOk c (f0,u0,e0))
 (hpb:∀t:Tm,t.full≤300000→PC E 206 [.agg c.view,.agg q.view,.agg f.view,.agg t.view] (.tup [.s .int (partR r1 c f t).1,.i (partR r1 c f t).2])):
 PC E 181 [.agg c.view,.agg (Pf.mk 19 0 (.mk 0 []) [] [f] [p,q]).view] (tupR (substR f r0 r1 c)):=by
 have hl:=hc.len
 have hsum:=hc.sum
 have h1:=fBelow_c (c.tys++[natT]) f (by omega) (hc.one nat_err) (by simp;omega)
 have h5:=nat_c
 unfold substR
 rw[hr0]
 by_cases t0:typedF (c.tys++[natT]) f=0
 case neg=>
  rw[if_pos t0]
  refine M.F Tryz.func181 ?_
  repeat'(first|refine M.o2 @h5 @h1 ?_|refine M.z1 5 ?_|refine M.cs ?_ ?_<;>intro h|refine M.gk ?_|fail)
  all_goals first
   |rfl
   |(exfalso;simp at h;exact t0 h)
   |trace_state
 rw[if_neg (by simp[t0])]
 rw[t0] at h1
 by_cases he:e0=0
 case neg=>
  rw[if_pos he]
  refine M.F Tryz.func181 ?_
  repeat'(first|refine M.o3 @h5 @h1 @hp ?_|refine M.z1 8 ?_|refine M.cs ?_ ?_<;>intro h|refine M.gk ?_|fail)
  all_goals first
   |rfl
   |(exfalso;simp at h;exact he h)
   |trace_state
 subst he
 rw[if_neg (by simp)]
 by_cases hk:f0.kind=1
 case neg=>
  rw[if_pos hk]
  refine M.F Tryz.func181 ?_
  repeat'(first|refine M.o3 @h5 @h1 @hp ?_|refine M.z1 10 ?_|refine M.cs ?_ ?_<;>intro h|refine M.gk ?_|fail)
  all_goals first
   |rfl
   |(exfalso;simp at h;exact hk h)
   |trace_state
 rw[if_neg (by simp[hk])]
 have ho:=o0.1 rfl
 obtain⟨x,y,e⟩:=eq_of ((Fm.err_iff _).1 ho.1).1 hk
 simp only at e
 subst e
 have ex:=term_err ho.1 (t:=x) (by simp[eqF])
 have ey:=term_err ho.1 (t:=y) (by simp[eqF])
 have h2:=hpb x (by have:=terr_full ex;omega)
 have h3:=kput_c f y (by omega) (by have:=terr_full ey;omega)
 have e1:((eqF x y).terms.getD 0 noTm)=x:=rfl
 have e2:((eqF x y).terms.getD 1 noTm)=y:=rfl
 simp only[e1,e2]
 generalize partR r1 c f x=a at*
 by_cases ea:a.2=0
 case neg=>
  rw[if_pos ea]
  refine M.F Tryz.func181 ?_
  repeat'(first|refine M.o4 @h5 @h1 @hp @h2 ?_|refine M.z1 13 ?_|refine M.cs ?_ ?_<;>intro h|refine M.gk ?_|fail)
  all_goals first
   |rfl
   |(exfalso;simp at h;exact ea h)
   |trace_state
 rw[if_neg (by simp[ea])]
 rw[ea] at h2
 refine M.F Tryz.func181 ?_
 refine M.w5 @h5 @h1 @hp @h2 @h3 ?_
 all_goals first
  |rfl
  |trace_state
theorem kChoice_c{f0:Fm}{u0:List Int}{e0:Int}(hr0:r0 c=(f0,u0,e0))
 (hp:PC E 83 [.agg c.view,.agg p.view] (tupI f0 u0 e0)) (o0:ResOk c (f0,u0,e0)):
 PC E 182 [.agg c.view,.agg (Pf.mk 20 0 (.mk 0 []) [] [] [p]).view] (tupR (choiceR r0 c)):=by
 have hl:=hc.len
 unfold choiceR
 rw[hr0]
 by_cases he:e0=0
 case neg=>
  rw[if_pos he]
  refine M.F Tryz.func182 ?_
  repeat'(first|refine M.o1 @hp ?_|refine M.z1 4 ?_|refine M.cs ?_ ?_<;>intro h|refine M.gk ?_|fail)
  all_goals first
   |rfl
   |(exfalso;simp at h;exact he h)
   |trace_state
 subst he
 rw[if_neg (by simp)]
 have ho:=o0.1 rfl
 have s0:=(Fm.err_iff _).1 ho.1
 by_cases hk:f0.kind=4
 case neg=>
  rw[if_pos (.inl hk)]
  refine M.F Tryz.func182 ?_
  repeat'(first|refine M.o1 @hp ?_|refine M.gs ?_ ?_<;>intro h|refine M.z1 6 ?_|refine M.cs ?_ ?_<;>intro h|refine M.gk ?_|fail)
  all_goals first
   |rfl
   |(exfalso;simp at h;exact hk h)
   |(exfalso;rename_i h1;simp at h1;exact hk h1)
   |trace_state
 obtain⟨x,e⟩:=qu_of s0.1 (by simp only;omega)
 have hte:=qu_err s0.1 (by simp only;omega)
 simp only at e hte
 have ex:=part_err ho.1 (x:=x) (by rw[show(f0,u0,(0:Int)).1=f0 from rfl,e];simp[quF])
 have sx:=(Fm.err_iff _).1 ex
 have ok0:=ho.2.1
 simp only at ok0
 generalize f0.ty=s at*
 rw[hk] at e
 subst e
 have e1:((quF 4 s x).args.getD 0 noFm)=x:=rfl
 have o1:=qu_okT (by omega) ok0
 by_cases hk2:x.kind=5
 case neg=>
  rw[if_pos (.inr (by rw[e1];exact hk2))]
  refine M.F Tryz.func182 ?_
  repeat'(first|refine M.o1 @hp ?_|refine M.z1 6 ?_|refine M.cs ?_ ?_<;>intro h|refine M.gk ?_|fail)
  all_goals first
   |rfl
   |(exfalso;simp at h;exact hk2 h)
   |trace_state
 rw[if_neg (by rintro(h|h);exact h hk;exact h (by rw[e1];exact hk2))]
 obtain⟨y,e⟩:=qu_of sx.1 (by omega)
 have hte2:=qu_err sx.1 (by omega)
 have ey:=part_err ex (x:=y) (by rw[e];simp[quF])
 have sy:=(Fm.err_iff _).1 ey
 generalize x.ty=u at*
 rw[hk2] at e
 subst e
 have o2:=qu_okT (by omega) o1
 have zs:=((Ty.err_iff s).1 hte).2
 have zu:=((Ty.err_iff u).1 hte2).2
 have h1:=fun_c s u (by omega) (by omega)
 have h2:=checkTyR_c (funT s u) (by simp only[funT,Ty.size,Ty.sizes];omega)
 have e2:chF (quF 4 s (quF 5 u y))=funT s u:=rfl
 have e3:chB (quF 4 s (quF 5 u y))=putK (y.lft 2 1) appV:=rfl
 simp only[e2,e3]
 by_cases ef:(funT s u).err=0
 case neg=>
  rw[if_pos ef]
  refine M.F Tryz.func182 ?_
  repeat'(first|refine M.o3 @hp @h1 @h2 ?_|refine M.z1 10 ?_|refine M.cs ?_ ?_<;>intro h|refine M.gk ?_|fail)
  all_goals first
   |rfl
   |(exfalso;simp at h;exact ef h)
   |trace_state
 rw[if_neg (by simp[ef])]
 rw[ef] at h2
 have h3:=kup_c o2 sy.1 (by omega) (by simp;omega) 2 1 (by omega) (by omega)
 have h4:=var_c 1
 have h4':=var_c 0
 have h5:=n_c 3 [vT 1,vT 0] (by simp[vT,Tm.full,Tm.fulls,Ty.size,Ty.sizes])
 have hlf:=lft_keeps sy.1 (fr:=2) (by_:=1) (by omega)
 have h6:=kput_c (y.lft 2 1) appV (by rw[hlf.2.2];have:=ferr_full ey;omega) (by decide)
 have hb:=putK_bd (y.lft 2 1) appV
 have h7:=qFm_c 4 s (putK (y.lft 2 1) appV).1 (by omega) (by omega)
 have h8:=qFm_c 5 (funT s u) (.mk 4 s [] [(putK (y.lft 2 1) appV).1]) (by simp only[funT,Ty.size,Ty.sizes];omega) (by simp only[Fm.full,Fm.fulls,List.map_nil,List.sum_nil];omega)
 refine M.F Tryz.func182 ?_
 repeat'(first|refine M.w6 @hp @h1 @h2 @h3 @h4 @h4' ?_|refine M.c2 (h5) ?_|refine M.c2 (h6) ?_|refine M.c2 (h7) ?_|refine M.c2 (h8) ?_|fail)
 all_goals first
  |rfl
  |trace_state
end
end Go.Ab
