/- The law ElaborateProves of layer 18 is proved, without any conditions. -/
import Derived.Test.YtlikcaapgaalhaaGreatDoorEK1
import Derived.Test.YtlikcaapgaalhaaGreatDoorEST41
namespace Go.Proofs.YtlikcaapgaalhaaGreatDoor
open Go Go.Ab Go.ChangeShapes Go.WideShapes Go.ChangeAt Go.RowKit
set_option maxRecDepth 100000
set_option maxHeartbeats 4000000
set_option linter.all false
theorem elaborateProves_lifted(os:Os)(started:os.Started)(H:Type)(enc:TypeId×Value→H):
 ReturnsInHanded {} Tryz.checked os 3 .any (fun w args=>(Rows.elaborateProvesSpec.pre enc Tryz.prog Tryz.f3 [] false w args∧laidMetH Tryz.prog theLaid w)∧sizedMet enc Tryz.prog Tryz.f3 (OpenSpec.ofChange Rows.elaborateProvesSpec) false w args)
  (Rows.elaborateProvesSpec.post enc Tryz.prog Tryz.f3 false true false false):=by
 refine returnsInHanded_of_change_and (C:=Tryz.checked) (X:=fun w _=>laidMetH Tryz.prog theLaid w) (fun _ _ _ hh h=>h.of_heap hh) own started (by kernel_rfl) Tryz.func3
  (ChangeSpec.witness_shaped (enc:=enc) (C:=Tryz.checked) (os:=os) (X:=fun w _=>laidMetH Tryz.prog theLaid w) false (World.laidAll Tryz.prog os theLaid) #[.slice none 0 0] 8 (World.laidAll_os _ _ _)
   (World.shaped_of_ZipB (by kernel_rfl) (by kernel_rfl)) (by kernel_rfl) (by kernel_rfl) (by kernel_rfl)
   (by rw[MakeChecks.laidMetH_plain _ _ _ (by kernel_rfl)];exact laidMet_laidAll _ (by kernel_rfl) (by kernel_rfl))) ?_
 intro W base args ds gs before hval0 hW _ _ hL _
 have hW':=hW
 obtain⟨p,q,hA0,hV,rfl,_,_⟩:=hW
 have hA:DataW.TrodAll enc Tryz.prog W 0 (fun _=>true) true [22] args.toList ds p:=hA0
 obtain⟨rfl,rfl⟩:=trodVars_none hV
 obtain⟨v0,vs1,d0,ds1,p0,q1,hargs,rfl,rfl,h0,hA1⟩:=trodAll_cons hA
 obtain⟨rfl,rfl,rfl⟩:=trodAll_nil hA1
 obtain rfl:args= #[v0]:=by cases args;simp_all
 obtain⟨keep0,x0,hv0,w0⟩:=arg_ints (show Tryz.prog.underlying 22=some (.slice 3) by kernel_rfl) (by kernel_rfl) (by kernel_rfl) h0 (hval0 0 22 v0 rfl rfl)
 refine(law_calls (elaborateProves_c x0) (ar_glob hL) (vs:=[v0]) rfl ?_).mono fun e W' ⟨he,hold,hos,hout⟩=> ?_
 ·intro i v c hv hc
  match i with
  |0=>simp at hv hc;subst hv;subst hc;exact hv0
  |i+1=>simp at hv
 subst he
 refine⟨_,rfl,_,_,_,[],(p0++[]),[],hW',?_,?_,?_,kept_of_old hold hos hout _,fun h=>by cases h⟩
 ·exact trodAll_mk1 (shut_bool (show Tryz.prog.underlying 4=some .bool by kernel_rfl) true)
 ·have hb:∀b,b<W.heap.size→(fun b:Nat=>decide (b<W.heap.size)) b=true:=fun b hb=>by simpa using hb
  exact(trodAll_cons_mk (keep0 W' _ hold hb) trodAll_mk0)
 ·rfl
theorem elaborateProves_holds:Rows.ElaborateProvesSaid:=
 OpenClaim.holds_of_wide 3 Tryz.f3 rfl rfl rfl rfl rfl rfl rfl ⟨rfl,rfl,rfl,rfl,rfl⟩ rfl rfl rfl rfl rfl (by kernel_rfl) Tryz.func3 (by kernel_rfl)
  (of_decide_eq_true (by kernel_rfl)) (by unfold Func.isWrapper;rw[if_neg (of_decide_eq_false (by kernel_rfl))];exact⟨rfl,rfl⟩)
  (fun os started H enc _=>elaborateProves_lifted os started H enc)
theorem elaborateProves_card:Rows.ElaborateProvesCardSaid:=
 Claim7.holds_tied_plain_at .later [] [.data] true (true,"9473fe4b48f79c15500518ba8e3269b2122b68a24d2f4581c20d7b0c23046f53") false
  elaborateProves_holds (fun _ h=>by cases h) (by kernel_rfl) (fun _ h=>by cases h) elaborateProves_row_tie rfl ⟨rfl,rfl⟩ (by kernel_rfl) rfl
  (fun f fn hf hfn=>by
   obtain rfl:f=3:=Option.some.inj ((show Tryz.prog.funcNamed "proofprograms/proofprogramslaw18.ElaborateProves" =some 3 by kernel_rfl).symm.trans hf)|>.symm
   obtain rfl:fn=Tryz.f3:=(Option.some.inj (Tryz.func3.symm.trans hfn)).symm
   exact⟨by kernel_rfl,fun j t ht=>by
    rw[Tryz.params3] at ht
    rcases j with _|j
    ·obtain rfl:22=t:=by simpa using ht
     exact(show Tryz.prog.wantsStandIn 22=false by kernel_rfl)
    ·simp at ht⟩)
  (by kernel_rfl)
#print axioms elaborateProves_card
end Go.Proofs.YtlikcaapgaalhaaGreatDoor
