/- How large a term becomes when another one is put in, and which free variables it has then, for every input, without conditions. -/
import Derived.Test.YtocnpbcbengkdaaDoorK1
import Derived.Test.YtocnpbcbengkdaaDoorST1
namespace Go.Proofs.YtocnpbcbengkdaaDoor
open Go Go.Ab Go.ChangeShapes Go.WideShapes Go.ChangeAt Go.RowKit
set_option maxRecDepth 100000
set_option maxHeartbeats 4000000
set_option linter.all false
theorem substSizes_lifted (os : Os) (started : os.Started) (H : Type) (enc : TypeId × Value → H) :
    ReturnsInHanded {} Tryd.checked os 4 .any (fun w args => (Rows.substSizesSpec.pre enc Tryd.prog Tryd.f4 [] false w args ∧ laidMetH Tryd.prog theLaid w) ∧ sizedMet enc Tryd.prog Tryd.f4 (OpenSpec.ofChange Rows.substSizesSpec) false w args)
      (Rows.substSizesSpec.post enc Tryd.prog Tryd.f4 false true false false) := by
  refine returnsInHanded_of_change_and (C := Tryd.checked) (X := fun w _ => laidMetH Tryd.prog theLaid w) (fun _ _ _ hh h => h.of_heap hh) own started (by kernel_rfl) Tryd.func4
    (ChangeSpec.witness_shaped (enc := enc) (C := Tryd.checked) (os := os) (X := fun w _ => laidMetH Tryd.prog theLaid w) false (World.laidAll Tryd.prog os theLaid) #[.slice none 0 0] 8 (World.laidAll_os _ _ _)
      (World.shaped_of_ZipB (by kernel_rfl) (by kernel_rfl)) (by kernel_rfl) (by kernel_rfl) (by kernel_rfl)
      (by rw [MakeChecks.laidMetH_plain _ _ _ (by kernel_rfl)]; exact laidMet_laidAll _ (by kernel_rfl) (by kernel_rfl))) ?_
  intro W base args ds gs before hval0 hW _ _ hL _
  have hW' := hW
  obtain ⟨p, q, hA0, hV, rfl, _, _⟩ := hW
  have hA : DataW.TrodAll enc Tryd.prog W 0 (fun _ => true) true [22] args.toList ds p := hA0
  obtain ⟨v0, d0, rfl, rfl, h0⟩ := trodAll_one hA
  obtain ⟨rfl, rfl⟩ := trodVars_none hV
  obtain ⟨keep, vs, ⟨l, rfl, _⟩, hlen, hrel⟩ := arg_of h0 ints_good
  have hval : Value.okWide Tryd.prog W .any base 22 v0 := hval0 0 22 v0 rfl rfl
  have hcells := slice_val (show Tryd.prog.underlying 22 = some (.slice 3) by kernel_rfl) hval
  have hv0 : VRel (gh0 W) (· < 0) W v0 (.s .int l) := .data (rel_one hcells ⟨hlen, hrel⟩)
  refine (law_calls (substSizes_c l) (ar_glob hL) (vs := [v0]) rfl ?_).mono fun e W' ⟨he, hold, hos, hout⟩ => ?_
  · intro i v c hv hc
    cases i with
    | zero => simp at hv hc; subst hv; subst hc; exact hv0
    | succ i => simp at hv
  subst he
  refine ⟨_, rfl, _, _, _, [], p, [], hW', ?_, ?_, ?_, kept_of_old hold hos hout _, fun h => by cases h⟩
  · exact trodAll_mk1 (shut_bool (show Tryd.prog.underlying 4 = some .bool by kernel_rfl) true)
  · exact trodAll_mk1 (keep W' _ hold fun b hb => by simpa using hb)
  · rfl
theorem substSizes_holds : Rows.SubstSizesSaid :=
  OpenClaim.holds_of_wide 4 Tryd.f4 rfl rfl rfl rfl rfl rfl rfl ⟨rfl, rfl, rfl, rfl, rfl⟩ rfl rfl rfl rfl rfl (by kernel_rfl) Tryd.func4 (by kernel_rfl)
    (of_decide_eq_true (by kernel_rfl)) (by unfold Func.isWrapper; rw [if_neg (of_decide_eq_false (by kernel_rfl))]; exact ⟨rfl, rfl⟩)
    (fun os started H enc _ => substSizes_lifted os started H enc)
theorem substSizes_card : Rows.SubstSizesCardSaid :=
  Claim7.holds_tied_plain_at .later [] [.data] true (true, "6a57295edd68f264630ecdddfff75aa01ec5e44b58d5111844902d6159e27983") false
    substSizes_holds (fun _ h => by cases h) (by kernel_rfl) (fun _ h => by cases h) substSizes_row_tie rfl ⟨rfl, rfl⟩ (by kernel_rfl) rfl
    (fun f fn hf hfn => by
      obtain rfl : f = 4 := Option.some.inj ((show Tryd.prog.funcNamed "proofprograms/proofprogramslaw03.SubstSizes" = some 4 by kernel_rfl).symm.trans hf) |>.symm
      obtain rfl : fn = Tryd.f4 := (Option.some.inj (Tryd.func4.symm.trans hfn)).symm
      exact ⟨by kernel_rfl, fun j t ht => by
        rw [Tryd.params4] at ht
        have h3 : t = 22 := by
          rcases j with _ | j
          · simpa using ht.symm
          · simp at ht
        subst h3
        exact (show Tryd.prog.wantsStandIn 22 = false by kernel_rfl)⟩)
    (by kernel_rfl)
#print axioms substSizes_card
end Go.Proofs.YtocnpbcbengkdaaDoor
