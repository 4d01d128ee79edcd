/- The law CutNumbers of layer 13 is proved, without any conditions. -/
import Derived.Test.YtjgokiomgcfclaaGreatDoorBqK1
import Derived.Test.YtjgokiomgcfclaaGreatDoorBqST5
namespace Go.Proofs.YtjgokiomgcfclaaGreatDoor
open Go Go.Ab Go.ChangeShapes Go.WideShapes Go.ChangeAt Go.RowKit
set_option maxRecDepth 100000
set_option maxHeartbeats 4000000
set_option linter.all false
theorem cutNumbers_lifted(os:Os)(started:os.Started)(H:Type)(enc:TypeId×Value->H):
 ReturnsInHanded {} Tryz.checked os 3 .any (fun w args=>(Rows.cutNumbersSpec.pre enc Tryz.prog Tryz.f3 [] false w args/\laidMetH Tryz.prog vz w)/\sizedMet enc Tryz.prog Tryz.f3 (OpenSpec.ofChange Rows.cutNumbersSpec) false w args)
  (Rows.cutNumbersSpec.post enc Tryz.prog Tryz.f3 false true false false):=by
 refine returnsInHanded_of_change_and (C:=Tryz.checked) (X:=fun w _=>laidMetH Tryz.prog vz w) (fun _ _ _ hh h=>h.of_heap hh) own started (by kernel_rfl) Tryz.func3
  (ChangeSpec.witness_shaped (enc:=enc) (C:=Tryz.checked) (os:=os) (X:=fun w _=>laidMetH Tryz.prog vz w) false (World.laidAll Tryz.prog os vz) #[.int .u8 0] 8 (World.laidAll_os _ _ _)
   (World.shaped_of_ZipB (by kernel_rfl) (by kernel_rfl)) (by kernel_rfl) (by kernel_rfl) (by kernel_rfl)
   (by rw[MakeChecks.laidMetH_plain _ _ _ (by kernel_rfl)];exact laidMet_laidAll _ (by kernel_rfl) (by kernel_rfl))) ?_
 intro W base args ds gs before hval0 hW _ _ hL _;have hW':=hW;obtain⟨p,q,hA0,hV,rfl,_,_⟩:=hW;have hA:DataW.TrodAll enc Tryz.prog W 0 (fun _=>true) true [5] args.toList ds p:=hA0;obtain⟨rfl,rfl⟩:=trodVars_none hV;obtain⟨v0,vs1,d0,ds1,p0,q1,hargs,rfl,rfl,h0,hA1⟩:=trodAll_cons hA;obtain⟨rfl,rfl,rfl⟩:=trodAll_nil hA1;obtain rfl:args= #[v0]:=by cases args;simp_all
 obtain⟨keep0,x0,hv0,w0⟩:=Wu (show Tryz.prog.underlying 5=some (.int .u8) by kernel_rfl) h0 (hval0 0 5 v0 rfl rfl);refine(WZ (Zoj x0 (Ypb w0)) (Qq hL) (vs:=[v0]) rfl ?_).mono fun e W' ⟨he,hold,hos,hout⟩=> ?_
 ·intro i v c hv hc
  match i with
  |0=>simp at hv hc;subst hv;subst hc;exact hv0
  |i+1=>simp at hv
 subst he;refine⟨_,rfl,_,_,_,[],(p0++[]),[],hW',?_,?_,?_,ZW hold hos hout _,fun h=>by cases h⟩
 ·exact trodAll_mk1 (shut_bool (show Tryz.prog.underlying 4=some .bool by kernel_rfl) true)
 ·have hb:∀b,b<W.heap.size->(fun b:Nat=>decide (b<W.heap.size)) b=true:=fun b hb=>by simpa using hb
  exact(trodAll_cons_mk (keep0 W' _ hold hb) trodAll_mk0)
 ·rfl
theorem cutNumbers_holds:Rows.CutNumbersSaid:=
 OpenClaim.holds_of_wide 3 Tryz.f3 rfl rfl rfl rfl rfl rfl rfl ⟨rfl,rfl,rfl,rfl,rfl⟩ rfl rfl rfl rfl rfl (by kernel_rfl) Tryz.func3 (by kernel_rfl)
  (of_decide_eq_true (by kernel_rfl)) (by unfold Func.isWrapper;rw[if_neg (of_decide_eq_false (by kernel_rfl))];exact⟨rfl,rfl⟩)
  (fun os started H enc _=>cutNumbers_lifted os started H enc)
theorem cutNumbers_card:Rows.CutNumbersCardSaid:=
 Claim7.holds_tied_plain_at .later [] [.data,.data] true (true,"47d0cfe3fcc9ee1d203e39f306871a1c6c0c73c69253e50471d240c4d1f721ff") false
  cutNumbers_holds (fun _ h=>by cases h) (by kernel_rfl) (fun _ h=>by cases h) cutNumbers_row_tie rfl ⟨rfl,rfl⟩ (by kernel_rfl) rfl
  (fun f fn hf hfn=>by
   obtain rfl:f=3:=Option.some.inj ((show Tryz.prog.funcNamed "proofprograms/proofprogramslaw13.CutNumbers" =some 3 by kernel_rfl).symm.trans hf)|>.symm;obtain rfl:fn=Tryz.f3:=(Option.some.inj (Tryz.func3.symm.trans hfn)).symm;exact⟨by kernel_rfl,fun j t ht=>by
    rw[Tryz.params3] at ht;rcases j with _|j
    ·obtain rfl:5=t:=by simpa using ht
     exact(show Tryz.prog.wantsStandIn 5=false by kernel_rfl)
    ·simp at ht⟩)
  (by kernel_rfl)
#print axioms cutNumbers_card
end Go.Proofs.YtjgokiomgcfclaaGreatDoor
