/- Lowering undoes lifting by one, lifting twice is lifting once by both, and what lifting does with free variables, for every input, without conditions. -/
import Derived.Test.YtocnpbcbengkdaaDoorK1
import Derived.Test.YtocnpbcbengkdaaDoorST1
import Derived.Test.YtocnpbcbengkdaaDoorA2
namespace Go.Proofs.YtocnpbcbengkdaaDoor
open Go Go.Ab Go.ChangeShapes Go.WideShapes Go.ChangeAt Go.RowKit
set_option maxRecDepth 100000
set_option maxHeartbeats 4000000
set_option linter.all false
theorem substLifts_lifted (os : Os) (started : os.Started) (H : Type) (enc : TypeId × Value → H) :
    ReturnsInHanded {} Tryd.checked os 5 .any (fun w args => (Rows.substLiftsSpec.pre enc Tryd.prog Tryd.f5 [] false w args ∧ laidMetH Tryd.prog theLaid w) ∧ sizedMet enc Tryd.prog Tryd.f5 (OpenSpec.ofChange Rows.substLiftsSpec) false w args)
      (Rows.substLiftsSpec.post enc Tryd.prog Tryd.f5 false true false false) := by
  refine returnsInHanded_of_change_and (C := Tryd.checked) (X := fun w _ => laidMetH Tryd.prog theLaid w) (fun _ _ _ hh h => h.of_heap hh) own started (by kernel_rfl) Tryd.func5
    (ChangeSpec.witness_shaped (enc := enc) (C := Tryd.checked) (os := os) (X := fun w _ => laidMetH Tryd.prog theLaid w) false (World.laidAll Tryd.prog os theLaid) #[.slice none 0 0, .int .u8 0, .int .u8 0, .int .u8 0] 8 (World.laidAll_os _ _ _)
      (World.shaped_of_ZipB (by kernel_rfl) (by kernel_rfl)) (by kernel_rfl) (by kernel_rfl) (by kernel_rfl)
      (by rw [MakeChecks.laidMetH_plain _ _ _ (by kernel_rfl)]; exact laidMet_laidAll _ (by kernel_rfl) (by kernel_rfl))) ?_
  intro W base args ds gs before hval0 hW _ _ hL _
  have hW' := hW
  obtain ⟨p, q, hA0, hV, rfl, _, _⟩ := hW
  have hA : DataW.TrodAll enc Tryd.prog W 0 (fun _ => true) true [22, 5, 5, 5] args.toList ds p := hA0
  obtain ⟨rfl, rfl⟩ := trodVars_none hV
  obtain ⟨v0, vs1, d0, ds1, p0, q1, hargs, rfl, rfl, h0, hA1⟩ := trodAll_cons hA
  obtain ⟨v1, vs2, d1, ds2, p1, q2, rfl, rfl, rfl, h1, hA2⟩ := trodAll_cons hA1
  obtain ⟨v2, vs3, d2, ds3, p2, q3, rfl, rfl, rfl, h2, hA3⟩ := trodAll_cons hA2
  obtain ⟨v3, vs4, d3, ds4, p3, q4, rfl, rfl, rfl, h3, hA4⟩ := trodAll_cons hA3
  obtain ⟨rfl, rfl, rfl⟩ := trodAll_nil hA4
  obtain rfl : args = #[v0, v1, v2, v3] := by cases args; simp_all
  obtain ⟨keep0, x0, hv0, w0⟩ := arg_ints (show Tryd.prog.underlying 22 = some (.slice 3) by kernel_rfl) (by kernel_rfl) (by kernel_rfl) h0 (hval0 0 22 v0 rfl rfl)
  obtain ⟨keep1, x1, hv1, w1⟩ := arg_int (show Tryd.prog.underlying 5 = some (.int .u8) by kernel_rfl) h1 (hval0 1 5 v1 rfl rfl)
  obtain ⟨keep2, x2, hv2, w2⟩ := arg_int (show Tryd.prog.underlying 5 = some (.int .u8) by kernel_rfl) h2 (hval0 2 5 v2 rfl rfl)
  obtain ⟨keep3, x3, hv3, w3⟩ := arg_int (show Tryd.prog.underlying 5 = some (.int .u8) by kernel_rfl) h3 (hval0 3 5 v3 rfl rfl)
  refine (law_calls (substLifts_c x0 x1 x2 x3 (u8_of w1) (u8_of w2) (u8_of w3)) (ar_glob hL) (vs := [v0, v1, v2, v3]) rfl ?_).mono fun e W' ⟨he, hold, hos, hout⟩ => ?_
  · intro i v c hv hc
    match i with
    | 0 => simp at hv hc; subst hv; subst hc; exact hv0
    | 1 => simp at hv hc; subst hv; subst hc; exact hv1
    | 2 => simp at hv hc; subst hv; subst hc; exact hv2
    | 3 => simp at hv hc; subst hv; subst hc; exact hv3
    | i + 4 => simp at hv
  subst he
  refine ⟨_, rfl, _, _, _, [], (p0 ++ (p1 ++ (p2 ++ (p3 ++ [])))), [], hW', ?_, ?_, ?_, kept_of_old hold hos hout _, fun h => by cases h⟩
  · exact trodAll_mk1 (shut_bool (show Tryd.prog.underlying 4 = some .bool by kernel_rfl) true)
  · have hb : ∀ b, b < W.heap.size → (fun b : Nat => decide (b < W.heap.size)) b = true := fun b hb => by simpa using hb
    exact (trodAll_cons_mk (keep0 W' _ hold hb) (trodAll_cons_mk (keep1 W' _ hold hb) (trodAll_cons_mk (keep2 W' _ hold hb) (trodAll_cons_mk (keep3 W' _ hold hb) trodAll_mk0))))
  · rfl
theorem substLifts_holds : Rows.SubstLiftsSaid :=
  OpenClaim.holds_of_wide 5 Tryd.f5 rfl rfl rfl rfl rfl rfl rfl ⟨rfl, rfl, rfl, rfl, rfl⟩ rfl rfl rfl rfl rfl (by kernel_rfl) Tryd.func5 (by kernel_rfl)
    (of_decide_eq_true (by kernel_rfl)) (by unfold Func.isWrapper; rw [if_neg (of_decide_eq_false (by kernel_rfl))]; exact ⟨rfl, rfl⟩)
    (fun os started H enc _ => substLifts_lifted os started H enc)
theorem substLifts_card : Rows.SubstLiftsCardSaid :=
  Claim7.holds_tied_plain_at .later [] [.data] true (true, "6a57295edd68f264630ecdddfff75aa01ec5e44b58d5111844902d6159e27983") false
    substLifts_holds (fun _ h => by cases h) (by kernel_rfl) (fun _ h => by cases h) substLifts_row_tie rfl ⟨rfl, rfl⟩ (by kernel_rfl) rfl
    (fun f fn hf hfn => by
      obtain rfl : f = 5 := Option.some.inj ((show Tryd.prog.funcNamed "proofprograms/proofprogramslaw03.SubstLifts" = some 5 by kernel_rfl).symm.trans hf) |>.symm
      obtain rfl : fn = Tryd.f5 := (Option.some.inj (Tryd.func5.symm.trans hfn)).symm
      exact ⟨by kernel_rfl, fun j t ht => by
        rw [Tryd.params5] at ht
        rcases j with _ | _ | _ | _ | j
        · obtain rfl : 22 = t := by simpa using ht
          exact (show Tryd.prog.wantsStandIn 22 = false by kernel_rfl)
        · obtain rfl : 5 = t := by simpa using ht
          exact (show Tryd.prog.wantsStandIn 5 = false by kernel_rfl)
        · obtain rfl : 5 = t := by simpa using ht
          exact (show Tryd.prog.wantsStandIn 5 = false by kernel_rfl)
        · obtain rfl : 5 = t := by simpa using ht
          exact (show Tryd.prog.wantsStandIn 5 = false by kernel_rfl)
        · simp at ht⟩)
    (by kernel_rfl)
#print axioms substLifts_card
end Go.Proofs.YtocnpbcbengkdaaDoor
