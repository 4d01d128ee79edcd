/- The law SubstDoes of layer 3 returns true for every list of numbers, any two terms and any two numbers, without any condition. -/
import Derived.Test.YtldcgffbdlphfaaGreatDoorK1
import Derived.Test.YtldcgffbdlphfaaGreatDoorST1
import Derived.Test.YtldcgffbdlphfaaGreatDoorA2
namespace Go.Proofs.YtldcgffbdlphfaaGreatDoor
open Go Go.Ab Go.ChangeShapes Go.WideShapes Go.ChangeAt Go.RowKit
set_option maxRecDepth 100000
set_option maxHeartbeats 4000000
set_option linter.all false
def dataT : DataT Tryz.prog := { ti := 3, ty := 25, tys := 23, tm := 28, tms := 26, h0 := by kernel_rfl, h1 := by kernel_rfl, h2 := by kernel_rfl, h3 := by kernel_rfl, h4 := by kernel_rfl, h5 := by kernel_rfl, h6 := by kernel_rfl, h7 := by kernel_rfl, h8 := by kernel_rfl }
theorem substDoes_lifted (os : Os) (started : os.Started) (H : Type) (enc : TypeId × Value → H) :
    ReturnsInHanded {} Tryz.checked os 3 .any (fun w args => (Rows.substDoesSpec.pre enc Tryz.prog Tryz.f3 [] false w args ∧ laidMetH Tryz.prog theLaid w) ∧ sizedMet enc Tryz.prog Tryz.f3 (OpenSpec.ofChange Rows.substDoesSpec) false w args)
      (Rows.substDoesSpec.post enc Tryz.prog Tryz.f3 false true false false) := by
  refine returnsInHanded_of_change_and (C := Tryz.checked) (X := fun w _ => laidMetH Tryz.prog theLaid w) (fun _ _ _ hh h => h.of_heap hh) own started (by kernel_rfl) Tryz.func3
    (ChangeSpec.witness_shaped (enc := enc) (C := Tryz.checked) (os := os) (X := fun w _ => laidMetH Tryz.prog theLaid w) false (World.laidAll Tryz.prog os theLaid) #[.slice none 0 0, .agg #[.int .i64 0, .int .i64 0, .int .i64 0, .slice none 0 0, .slice none 0 0], .agg #[.int .i64 0, .int .i64 0, .int .i64 0, .slice none 0 0, .slice none 0 0], .int .i64 0, .int .i64 0] 8 (World.laidAll_os _ _ _)
      (World.shaped_of_ZipB (by kernel_rfl) (by kernel_rfl)) (by kernel_rfl) (by kernel_rfl) (by kernel_rfl)
      (by rw [MakeChecks.laidMetH_plain _ _ _ (by kernel_rfl)]; exact laidMet_laidAll _ (by kernel_rfl) (by kernel_rfl))) ?_
  intro W base args ds gs before hval0 hW _ _ hL _
  have hW' := hW
  obtain ⟨p, q, hA0, hV, rfl, _, _⟩ := hW
  have hA : DataW.TrodAll enc Tryz.prog W 0 (fun _ => true) true [22, 28, 28, 3, 3] args.toList ds p := hA0
  obtain ⟨rfl, rfl⟩ := trodVars_none hV
  obtain ⟨v0, vs1, d0, ds1, p0, q1, hargs, rfl, rfl, h0, hA1⟩ := trodAll_cons hA
  obtain ⟨v1, vs2, d1, ds2, p1, q2, rfl, rfl, rfl, h1, hA2⟩ := trodAll_cons hA1
  obtain ⟨v2, vs3, d2, ds3, p2, q3, rfl, rfl, rfl, h2, hA3⟩ := trodAll_cons hA2
  obtain ⟨v3, vs4, d3, ds4, p3, q4, rfl, rfl, rfl, h3, hA4⟩ := trodAll_cons hA3
  obtain ⟨v4, vs5, d4, ds5, p4, q5, rfl, rfl, rfl, h4, hA5⟩ := trodAll_cons hA4
  obtain ⟨rfl, rfl, rfl⟩ := trodAll_nil hA5
  obtain rfl : args = #[v0, v1, v2, v3, v4] := by cases args; simp_all
  obtain ⟨keep0, x0, hv0, w0⟩ := arg_ints (show Tryz.prog.underlying 22 = some (.slice 3) by kernel_rfl) (by kernel_rfl) (by kernel_rfl) h0 (hval0 0 22 v0 rfl rfl)
  obtain ⟨keep1, x1, hv1, w1⟩ := arg_tmw dataT h1 (hval0 1 28 v1 rfl rfl)
  obtain ⟨keep2, x2, hv2, w2⟩ := arg_tmw dataT h2 (hval0 2 28 v2 rfl rfl)
  obtain ⟨keep3, x3, hv3, w3⟩ := arg_int (show Tryz.prog.underlying 3 = some (.int .i64) by kernel_rfl) h3 (hval0 3 3 v3 rfl rfl)
  obtain ⟨keep4, x4, hv4, w4⟩ := arg_int (show Tryz.prog.underlying 3 = some (.int .i64) by kernel_rfl) h4 (hval0 4 3 v4 rfl rfl)
  refine (law_calls (substDoes_c x0 x1 x2 x3 x4 w1 w2) (ar_glob hL) (vs := [v0, v1, v2, v3, v4]) rfl ?_).mono fun e W' ⟨he, hold, hos, hout⟩ => ?_
  · intro i v c hv hc
    match i with
    | 0 => simp at hv hc; subst hv; subst hc; exact hv0
    | 1 => simp at hv hc; subst hv; subst hc; exact hv1
    | 2 => simp at hv hc; subst hv; subst hc; exact hv2
    | 3 => simp at hv hc; subst hv; subst hc; exact hv3
    | 4 => simp at hv hc; subst hv; subst hc; exact hv4
    | i + 5 => simp at hv
  subst he
  refine ⟨_, rfl, _, _, _, [], (p0 ++ (p1 ++ (p2 ++ (p3 ++ (p4 ++ []))))), [], hW', ?_, ?_, ?_, kept_of_old hold hos hout _, fun h => by cases h⟩
  · exact trodAll_mk1 (shut_bool (show Tryz.prog.underlying 4 = some .bool by kernel_rfl) true)
  · have hb : ∀ b, b < W.heap.size → (fun b : Nat => decide (b < W.heap.size)) b = true := fun b hb => by simpa using hb
    exact (trodAll_cons_mk (keep0 W' _ hold hb) (trodAll_cons_mk (keep1 W' _ hold hb) (trodAll_cons_mk (keep2 W' _ hold hb) (trodAll_cons_mk (keep3 W' _ hold hb) (trodAll_cons_mk (keep4 W' _ hold hb) trodAll_mk0)))))
  · rfl
theorem substDoes_holds : Rows.SubstDoesSaid :=
  OpenClaim.holds_of_wide 3 Tryz.f3 rfl rfl rfl rfl rfl rfl rfl ⟨rfl, rfl, rfl, rfl, rfl⟩ rfl rfl rfl rfl rfl (by kernel_rfl) Tryz.func3 (by kernel_rfl)
    (of_decide_eq_true (by kernel_rfl)) (by unfold Func.isWrapper; rw [if_neg (of_decide_eq_false (by kernel_rfl))]; exact ⟨rfl, rfl⟩)
    (fun os started H enc _ => substDoes_lifted os started H enc)
theorem substDoes_card : Rows.SubstDoesCardSaid :=
  Claim7.holds_tied_plain_at .later [] [.data] true (true, "fd9a2d7e03a22725e162ecb70fb7dd5d8f7eb80733f1f4cb89af338e6a7dd8c3") false
    substDoes_holds (fun _ h => by cases h) (by kernel_rfl) (fun _ h => by cases h) substDoes_row_tie rfl ⟨rfl, rfl⟩ (by kernel_rfl) rfl
    (fun f fn hf hfn => by
      obtain rfl : f = 3 := Option.some.inj ((show Tryz.prog.funcNamed "proofprograms/proofprogramslaw03.SubstDoes" = some 3 by kernel_rfl).symm.trans hf) |>.symm
      obtain rfl : fn = Tryz.f3 := (Option.some.inj (Tryz.func3.symm.trans hfn)).symm
      exact ⟨by kernel_rfl, fun j t ht => by
        rw [Tryz.params3] at ht
        rcases j with _ | _ | _ | _ | _ | j
        · obtain rfl : 22 = t := by simpa using ht
          exact (show Tryz.prog.wantsStandIn 22 = false by kernel_rfl)
        · obtain rfl : 28 = t := by simpa using ht
          exact (show Tryz.prog.wantsStandIn 28 = false by kernel_rfl)
        · obtain rfl : 28 = t := by simpa using ht
          exact (show Tryz.prog.wantsStandIn 28 = false by kernel_rfl)
        · obtain rfl : 3 = t := by simpa using ht
          exact (show Tryz.prog.wantsStandIn 3 = false by kernel_rfl)
        · obtain rfl : 3 = t := by simpa using ht
          exact (show Tryz.prog.wantsStandIn 3 = false by kernel_rfl)
        · simp at ht⟩)
    (by kernel_rfl)
#print axioms substDoes_card
end Go.Proofs.YtldcgffbdlphfaaGreatDoor
