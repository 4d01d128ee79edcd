/- A part of this seat's proofs. No conditions. -/
import Derived.Test.YtlikcaapgaalhaaGreatDoorEST1
namespace Go.Ab
open Go Go.Proofs
set_option maxRecDepth 100000
set_option maxHeartbeats 4000000
set_option linter.all false
section
variable {c:Ck} (hc:c.ok) {p q:Pf} {r0 r1:Rs}
include hc
theorem kOpen_c{k:Int}(hk:k=11∨k=15){f0 f1:Fm}{u0 u1:List Int}{e0 e1:Int}(hr0:r0 c=(f0,u0,e0))(hr1:openB r1 c f0=(f1,u1,e1))
 (hp:PC E 83 [.agg c.view,.agg p.view] (tupI f0 u0 e0)) (o0:ResOk c (f0,u0,e0))
 (hq:((c.below [f0.ty]).with_ (f0.args.getD 0 noFm)).ok→PC E 83 [.agg ((c.below [f0.ty]).with_ (f0.args.getD 0 noFm)).view,.agg q.view] (tupI f1 u1 e1))
 (o1:((c.below [f0.ty]).with_ (f0.args.getD 0 noFm)).ok→ResOk ((c.below [f0.ty]).with_ (f0.args.getD 0 noFm)) (f1,u1,e1)):
 PC E 177 [.agg c.view,.agg (Pf.mk k 0 (.mk 0 []) [] [] [p,q]).view] (tupR (opnR k r0 r1 c)):=by
 have hl:=hc.len
 have hn:=hc.nh
 have b0:=resB hc o0
 unfold opnR
 rw[hr0]
 simp only[hr1]
 by_cases he:e0=0
 case neg=>
  rw[if_pos he]
  refine M.F Tryz.func177 ?_
  repeat'(first|refine M.o1 @hp ?_|refine M.z1 4 ?_|refine M.cs ?_ ?_<;>intro h|refine M.gk ?_|fail)
  all_goals first
   |rfl
   |(exfalso;simp at h;exact he h)
   |trace_state
 subst he
 rw[if_neg (by simp)]
 have ho:=o0.1 rfl
 have s0:=(Fm.err_iff _).1 ho.1
 by_cases hkd:f0.kind=kI k 15 7 5
 case neg=>
  rw[if_pos hkd]
  rcases hk with rfl|rfl
  all_goals
   refine M.F Tryz.func177 ?_
   repeat'(first|refine M.o1 @hp ?_|refine M.z1 9 ?_|refine M.cs ?_ ?_<;>intro h|refine M.gk ?_|fail)
   all_goals first
    |rfl
    |(exfalso;simp at h;exact hkd h)
    |trace_state
 rw[if_neg (by simp[hkd])]
 have hkk:4≤f0.kind∧f0.kind≤7:=by rw[hkd,kI];split<;>omega
 obtain⟨x,e⟩:=qu_of s0.1 hkk
 have hx:f0.args.getD 0 noFm=x:=by simp only at e;rw[e];rfl
 have hte:=qu_err s0.1 hkk
 have ex:=part_err ho.1 (x:=x) (by simp only at e;rw[show(f0,u0,(0:Int)).1=f0 from rfl,e];simp[quF])
 have ok0:=ho.2.1
 simp only at e hte ok0
 rw[e] at ok0
 have o1':=qu_okT hkk ok0
 rw[hx] at hq o1
 clear ok0 hr1 hr0 s0 hx
 generalize f0.ty=s at*
 rw[hkd] at e
 subst e
 have h1:=kroom_c c 1 1 (by omega) (by omega)
 by_cases hr:c.room 1 1=0
 case neg=>
  rw[if_pos hr]
  rw[room_no hr] at h1
  rcases hk with rfl|rfl
  all_goals
   simp only[kI] at*
   refine M.F Tryz.func177 ?_
   refine M.w2 @hp @h1 ?_
   all_goals first
    |rfl
    |trace_state
 rw[if_neg (by simp[hr])]
 have hro:=room_ok hr
 rw[hr] at h1
 have hb:((c.below [s]).with_ x).ok:=(hc.below (l:=[s]) hro.1 (by simpa using hte)).with_ (by simpa [Ck.below] using hro.2) ex o1'
 have h2:=kbelow_c c hc [s] (by simp) (by simp)
 have h3:=kwith_c (c.below [s]) x (by simp[Ck.below];omega)
 have h4:=hq hb
 have o1b:=o1 hb
 have b1:=resB hb o1b
 by_cases he1:e1=0
 case neg=>
  rw[if_pos he1]
  rcases hk with rfl|rfl
  all_goals
   simp only[kI] at*
   refine M.F Tryz.func177 ?_
   repeat'(first|refine M.o5 @hp @h1 @h2 @h3 @h4 ?_|refine M.z1 15 ?_|refine M.cs ?_ ?_<;>intro h|refine M.gk ?_|fail)
   all_goals first
    |rfl
    |(exfalso;simp at h;exact he1 h)
    |trace_state
 subst he1
 rw[if_neg (by simp)]
 have hf1:=o1b.1 rfl
 simp only at hf1
 have s1:=(Fm.err_iff _).1 hf1.1
 have h5:=fhas_c _ f1 0 (Nat.le_refl _) (by omega) (by omega) (by omega) s1.1
 have hu:=khas_c u1
 have hou:=kout_c u1 1 (by omega) (by omega) b1.2.2
 have hol:=outI_len u1 1
 have hun:=kunion_c u0 (outI u1 1) (by omega) (by omega)
 have h6:=knormal_c _ f1 (Nat.le_refl _) (by omega)
 by_cases t0:timesF 0 f1=0
 case pos=>
  have ef:freeR f1=(f1,0):=by unfold freeR;rw[if_pos t0]
  rw[ef]
  rw[decide_eq_false (by simp[t0])] at h5
  have h7:=h6
  have hup:=kup_c (hf1.2.1) s1.1 (by omega) (by simp[Ck.below,Ck.with_];omega) 1 (-1) (by omega) (by omega)
  rw[if_neg (by simp)]
  rcases hk with rfl|rfl
  ·rw [if_neg (by simp)]
   simp only[kI] at*
   refine M.F Tryz.func177 ?_
   repeat'(first|refine M.w6 @hp @h1 @h2 @h3 @h4 @h5 ?_|refine M.c2 (hup) ?_|refine M.c2 (hou) ?_|refine M.c2 (hun) ?_|fail)
   all_goals first
    |rfl
    |trace_state
  ·simp only[kI] at*
   cases hh:hasI u1 with
   |true=>
    rw[hh] at hu
    rw[if_pos (by simp)]
    refine M.F Tryz.func177 ?_
    repeat'(first|refine M.w6 @hp @h1 @h2 @h3 @h4 @h5 ?_|refine M.c2 (hu) ?_|fail)
    all_goals first
     |rfl
     |trace_state
   |false=>
    rw[hh] at hu
    rw[if_neg (by simp)]
    refine M.F Tryz.func177 ?_
    repeat'(first|refine M.w6 @hp @h1 @h2 @h3 @h4 @h5 ?_|refine M.c2 (hu) ?_|refine M.c2 (hup) ?_|refine M.c2 (hou) ?_|refine M.c2 (hun) ?_|fail)
    all_goals first
     |rfl
     |trace_state
 rw[decide_eq_true t0] at h5
 by_cases n0:(normF f1).2=0
 case neg=>
  have ef:freeR f1=(noFm,(normF f1).2):=by unfold freeR;rw[if_neg t0,if_pos n0]
  rw[ef,if_pos n0]
  rcases hk with rfl|rfl
  all_goals
   simp only[kI] at*
   refine M.F Tryz.func177 ?_
   repeat'(first|refine M.o6 @hp @h1 @h2 @h3 @h4 @h5 ?_|refine M.c2 (h6) ?_|refine M.z1 20 ?_|refine M.cs ?_ ?_<;>intro h|refine M.gk ?_|fail)
   all_goals first
    |rfl
    |(exfalso;simp at h;exact n0 h)
    |trace_state
 rw[n0] at h6
 obtain⟨nk,ns,nz,no⟩:=normF_ok f1 n0 s1.1
 have nfl:=ffull_le (normF f1).1 ns
 have h7:=fhas_c _ (normF f1).1 0 (Nat.le_refl _) (by omega) (by omega) (by omega) ns
 by_cases n1:timesF 0 (normF f1).1=0
 case neg=>
  have ef:freeR f1=(noFm,6):=by unfold freeR;rw[if_neg t0,if_neg (by simp[n0]),if_pos n1]
  rw[ef,if_pos (by decide)]
  rw[decide_eq_true n1] at h7
  rcases hk with rfl|rfl
  all_goals
   simp only[kI] at*
   refine M.F Tryz.func177 ?_
   repeat'(first|refine M.w6 @hp @h1 @h2 @h3 @h4 @h5 ?_|refine M.c2 (h6) ?_|refine M.c2 (h7) ?_|fail)
   all_goals first
    |rfl
    |trace_state
 case pos=>
  have ef:freeR f1=((normF f1).1,0):=by unfold freeR;rw[if_neg t0,if_neg (by simp[n0]),if_neg (by simp[n1])]
  rw[ef]
  rw[decide_eq_false (by simp[n1])] at h7
  have hup:=kup_c (no _ hf1.2.1) ns (by omega) (by simp[Ck.below,Ck.with_];omega) 1 (-1) (by omega) (by omega)
  rw[if_neg (by simp)]
  rcases hk with rfl|rfl
  ·rw [if_neg (by simp)]
   simp only[kI] at*
   refine M.F Tryz.func177 ?_
   repeat'(first|refine M.w6 @hp @h1 @h2 @h3 @h4 @h5 ?_|refine M.c2 (h6) ?_|refine M.c2 (h7) ?_|refine M.c2 (hup) ?_|refine M.c2 (hou) ?_|refine M.c2 (hun) ?_|fail)
   all_goals first
    |rfl
    |trace_state
  ·simp only[kI] at*
   cases hh:hasI u1 with
   |true=>
    rw[hh] at hu
    rw[if_pos (by simp)]
    refine M.F Tryz.func177 ?_
    repeat'(first|refine M.w6 @hp @h1 @h2 @h3 @h4 @h5 ?_|refine M.c2 (h6) ?_|refine M.c2 (h7) ?_|refine M.c2 (hu) ?_|fail)
    all_goals first
     |rfl
     |trace_state
   |false=>
    rw[hh] at hu
    rw[if_neg (by simp)]
    refine M.F Tryz.func177 ?_
    repeat'(first|refine M.w6 @hp @h1 @h2 @h3 @h4 @h5 ?_|refine M.c2 (h6) ?_|refine M.c2 (h7) ?_|refine M.c2 (hu) ?_|refine M.c2 (hup) ?_|refine M.c2 (hou) ?_|refine M.c2 (hun) ?_|fail)
    all_goals first
     |rfl
     |trace_state
end
end Go.Ab
