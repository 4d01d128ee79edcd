/- The law ProofLifts of layer 10 is proved, without any conditions. -/
import Derived.Test.YtmhcohcihajegaaGreatDoorHS32
import Derived.Test.YtmhcohcihajegaaGreatDoorHS39
namespace Go.Proofs.YtmhcohcihajegaaGreatDoor
open Go Go.Ab Go.ChangeShapes Go.WideShapes Go.ChangeAt Go.RowKit
set_option maxRecDepth 100000
set_option maxHeartbeats 4000000
set_option linter.all false
theorem proofLifts_lifted(os:Os)(started:os.Started)(H:Type)(enc:TypeId×Value->H):
 ReturnsInHanded {} Tryz.checked os 5 .any (fun w args=>(Rows.proofLiftsSpec.pre enc Tryz.prog Tryz.f5 [] false w args/\laidMetH Tryz.prog Za0 w)/\sizedMet enc Tryz.prog Tryz.f5 (OpenSpec.ofChange Rows.proofLiftsSpec) false w args)
  (Rows.proofLiftsSpec.post enc Tryz.prog Tryz.f5 false true false false):=by
 refine returnsInHanded_of_change_and (C:=Tryz.checked) (X:=fun w _=>laidMetH Tryz.prog Za0 w) (fun _ _ _ hh h=>h.of_heap hh) own started (by kernel_rfl) Tryz.func5
  (ChangeSpec.witness_shaped (enc:=enc) (C:=Tryz.checked) (os:=os) (X:=fun w _=>laidMetH Tryz.prog Za0 w) false (World.laidAll Tryz.prog os Za0) #[.slice none 0 0,.int .u8 0] 8 (World.laidAll_os _ _ _)
   (World.shaped_of_ZipB (by kernel_rfl) (by kernel_rfl)) (by kernel_rfl) (by kernel_rfl) (by kernel_rfl)
   (by rw[MakeChecks.laidMetH_plain _ _ _ (by kernel_rfl)];exact laidMet_laidAll _ (by kernel_rfl) (by kernel_rfl))) ?_
 intro W base args ds gs before hval0 hW _ _ hL _;have hW':=hW;obtain⟨p,q,hA0,hV,rfl,_,_⟩:=hW;have hA:DataW.TrodAll enc Tryz.prog W 0 (fun _=>true) true [22,5] args.toList ds p:=hA0;obtain⟨rfl,rfl⟩:=trodVars_none hV;obtain⟨v0,vs1,d0,ds1,p0,q1,hargs,rfl,rfl,h0,hA1⟩:=trodAll_cons hA;obtain⟨v1,vs2,d1,ds2,p1,q2,rfl,rfl,rfl,h1,hA2⟩:=trodAll_cons hA1;obtain⟨rfl,rfl,rfl⟩:=trodAll_nil hA2;obtain rfl:args= #[v0,v1]:=by cases args;simp_all
 obtain⟨keep0,x0,hv0,w0⟩:=Zsc (show Tryz.prog.underlying 22=some (.slice 3) by kernel_rfl) (by kernel_rfl) (by kernel_rfl) h0 (hval0 0 22 v0 rfl rfl);obtain⟨keep1,x1,hv1,w1⟩:=Yg9 (show Tryz.prog.underlying 5=some (.int .u8) by kernel_rfl) h1 (hval0 1 5 v1 rfl rfl);refine(Zno (Zpd x0 x1 (Ymq w1)) (Zwv hL) (vs:=[v0,v1]) rfl ?_).mono fun e W' ⟨he,hold,hos,hout⟩=> ?_
 ·intro i v c hv hc
  match i with
  |0=>simp at hv hc;subst hv;subst hc;exact hv0
  |1=>simp at hv hc;subst hv;subst hc;exact hv1
  |i+2=>simp at hv
 subst he;refine⟨_,rfl,_,_,_,[],(p0++(p1++[])),[],hW',?_,?_,?_,Zjo hold hos hout _,fun h=>by cases h⟩
 ·exact trodAll_mk1 (shut_bool (show Tryz.prog.underlying 4=some .bool by kernel_rfl) true)
 ·have hb:∀b,b<W.heap.size->(fun b:Nat=>decide (b<W.heap.size)) b=true:=fun b hb=>by simpa using hb
  exact(trodAll_cons_mk (keep0 W' _ hold hb) (trodAll_cons_mk (keep1 W' _ hold hb) trodAll_mk0))
 ·rfl
theorem proofLifts_holds:Rows.ProofLiftsSaid:=
 OpenClaim.holds_of_wide 5 Tryz.f5 rfl rfl rfl rfl rfl rfl rfl ⟨rfl,rfl,rfl,rfl,rfl⟩ rfl rfl rfl rfl rfl (by kernel_rfl) Tryz.func5 (by kernel_rfl)
  (of_decide_eq_true (by kernel_rfl)) (by unfold Func.isWrapper;rw[if_neg (of_decide_eq_false (by kernel_rfl))];exact⟨rfl,rfl⟩)
  (fun os started H enc _=>proofLifts_lifted os started H enc)
theorem proofLifts_card:Rows.ProofLiftsCardSaid:=
 Claim7.holds_tied_plain_at .later [] [.data,.data] true (true,"0c33ae3af875ef1e7c13afb9d366c1650ef161c3be40d04d93c7f1c9e5102eb4") false
  proofLifts_holds (fun _ h=>by cases h) (by kernel_rfl) (fun _ h=>by cases h) proofLifts_row_tie rfl ⟨rfl,rfl⟩ (by kernel_rfl) rfl
  (fun f fn hf hfn=>by
   obtain rfl:f=5:=Option.some.inj ((show Tryz.prog.funcNamed "proofprograms/proofprogramslaw10.ProofLifts" =some 5 by kernel_rfl).symm.trans hf)|>.symm;obtain rfl:fn=Tryz.f5:=(Option.some.inj (Tryz.func5.symm.trans hfn)).symm;exact⟨by kernel_rfl,fun j t ht=>by
    rw[Tryz.params5] at ht;rcases j with _|_|j
    ·obtain rfl:22=t:=by simpa using ht
     exact(show Tryz.prog.wantsStandIn 22=false by kernel_rfl)
    ·obtain rfl:5=t:=by simpa using ht
     exact(show Tryz.prog.wantsStandIn 5=false by kernel_rfl)
    ·simp at ht⟩)
  (by kernel_rfl)
#print axioms proofLifts_card
end Go.Proofs.YtmhcohcihajegaaGreatDoor
