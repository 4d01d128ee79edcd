/- What matches, what is filled in and the parts of formulas are as the second form says, or the error, for every input, without conditions. -/
import Derived.Test.YthenpnfgkgglcaaGreatDoorA2
import Derived.Test.YthenpnfgkgglcaaGreatDoorS1
import Derived.Test.YthenpnfgkgglcaaGreatDoorCards
import Derived.Test.YthenpnfgkgglcaaGreatDoorTie
import Derived.ProofKit
import Derived.OpenShut
import Derived.LaidMore
import Derived.Lay
import Derived.SevenTiedAt
import Derived.Stop.Joined
import Derived.Handed
import Derived.JoinedOf
import Derived.Test.YthenpnfgkgglcaaGreatDoorS3
namespace Go.Proofs.YthenpnfgkgglcaaGreatDoor
open Go Go.Ab Go.ChangeShapes Go.WideShapes Go.ChangeAt Go.RowKit
set_option maxRecDepth 100000
set_option linter.all false
theorem own : ownKnob Tryz.prog.godebug = none := by kernel_rfl
abbrev theLaid : List (String × DataW Unit) := [("proofprograms/tree.arities", Rows.laid_proofprograms_tree_arities)]
def arInts : List Int := [0, 0, 1, 2, 0, 1, 3, 0, 2, 3, 2, 1, 1, 0]
theorem ar_cell {W : World} (h : laidMetH Tryz.prog theLaid W) (r : Nat) (hr : r < 14) : W.cell? ⟨0, r, none⟩ = some (.int .i64 (arInts.getD r 0)) := by
  rw [MakeChecks.laidMetH_plain _ _ _ (by kernel_rfl)] at h
  obtain ⟨ps, ⟨g, t, cs, fuel, p, q, hg, ht, hv, hd, _, _⟩, _, _⟩ := h
  obtain rfl := Option.some.inj ((show Tryz.prog.globalNamed "proofprograms/tree.arities" = some 0 by kernel_rfl).symm.trans hg)
  obtain rfl := Option.some.inj ((show (Tryz.prog.globals[0]?).map (·.type) = some 170 by kernel_rfl).symm.trans ht)
  obtain ⟨xs, m, _, ex, _, hl, hel⟩ := DataW.trod_array (show Tryz.prog.underlying 170 = some (.array 14 3) by kernel_rfl) hd
  have c5 : Tryz.prog.cellsOf 3 = 1 := by kernel_rfl
  have hE := hel r hr
  rw [c5, Nat.mul_one, List.getElem?_eq_getElem (by omega)] at hE
  obtain ⟨z, e1, e2, _⟩ := DataW.trod_int (show Tryz.prog.underlying 3 = some (.int .i64) by kernel_rfl) hE
  have hlen : arInts.length = 14 := rfl
  have e3 : (xs.map (·.1)) = arInts.map fun n => .lit (.int .i64 n) := (DataW.agg.inj (Prod.mk.inj ex).1).symm
  have e4 : (xs.map (·.1))[r]? = (arInts.map fun n => (DataW.lit (.int .i64 n) : DataW Unit))[r]? := by rw [e3]
  rw [List.getElem?_map, List.getElem?_map, List.getElem?_eq_getElem (by omega : r < xs.length), List.getElem?_eq_getElem (by omega : r < arInts.length), e2] at e4
  have hz : z = arInts.getD r 0 := by
    simp only [Option.map_some, Option.some.injEq, DataW.lit.injEq, Lit.int.injEq, true_and] at e4
    rw [e4, List.getD, List.getElem?_eq_getElem (by omega : r < arInts.length)]; rfl
  rw [World.var?_cell hg hv r, ← hz]
  have : cs.toList[r]? = some (.int .i64 z) := by
    have h0 : ((cs.toList.drop r).take 1)[0]? = some (.int .i64 z) := by rw [e1]; rfl
    simpa using h0
  simpa using this
theorem ar_glob {W : World} (h : laidMetH Tryz.prog theLaid W) : ∀ p ∈ Go.Ab.E.G, ∀ (j : Nat) c, p.2[j]? = some c → ∃ v, W.cell? ⟨p.1, j, none⟩ = some v ∧ DRel (allM W) W v c := by
  intro p hp j c hc
  have hp' : p = (0, arV) := by simpa [Go.Ab.E] using hp
  subst hp'
  have hj : j < 14 := by
    have := (List.getElem?_eq_some_iff.1 hc).1
    simpa [arV] using this
  refine ⟨_, ar_cell h j hj, ?_⟩
  have e : arV[j]? = some (.int .i64 (arInts.getD j 0)) := by
    have : arV = arInts.map V.i := rfl
    rw [this, List.getElem?_map, List.getD_eq_getElem?_getD, List.getElem?_eq_getElem (by simpa [arInts] using hj)]
    rfl
  rw [e] at hc
  cases hc
  exact .int _ _
end Go.Proofs.YthenpnfgkgglcaaGreatDoor
namespace Go.Proofs.YthenpnfgkgglcaaGreatDoor
open Go Go.Ab Go.ChangeShapes Go.WideShapes Go.ChangeAt Go.RowKit
set_option maxRecDepth 100000
set_option maxHeartbeats 4000000
set_option linter.all false
def dataT : DataT Tryz.prog := { ti := 3, ty := 29, tys := 27, tm := 46, tms := 30, h0 := by kernel_rfl, h1 := by kernel_rfl, h2 := by kernel_rfl, h3 := by kernel_rfl, h4 := by kernel_rfl, h5 := by kernel_rfl, h6 := by kernel_rfl, h7 := by kernel_rfl, h8 := by kernel_rfl }
def formT : FormT Tryz.prog := { dataT with fm := 33, fms := 31, k1 := by kernel_rfl, k2 := by kernel_rfl, k3 := by kernel_rfl, k4 := by kernel_rfl }
theorem elaborateDoes_lifted (os : Os) (started : os.Started) (H : Type) (enc : TypeId × Value → H) :
    ReturnsInHanded {} Tryz.checked os 4 .any (fun w args => (Rows.elaborateDoesSpec.pre enc Tryz.prog Tryz.f4 [] false w args ∧ laidMetH Tryz.prog theLaid w) ∧ sizedMet enc Tryz.prog Tryz.f4 (OpenSpec.ofChange Rows.elaborateDoesSpec) false w args)
      (Rows.elaborateDoesSpec.post enc Tryz.prog Tryz.f4 false true false false) := by
  refine returnsInHanded_of_change_and (C := Tryz.checked) (X := fun w _ => laidMetH Tryz.prog theLaid w) (fun _ _ _ hh h => h.of_heap hh) own started (by kernel_rfl) Tryz.func4
    (ChangeSpec.witness_shaped (enc := enc) (C := Tryz.checked) (os := os) (X := fun w _ => laidMetH Tryz.prog theLaid w) false (World.laidAll Tryz.prog os theLaid) #[.slice none 0 0, .agg #[.int .i64 0, .int .i64 0, .slice none 0 0, .slice none 0 0, .slice none 0 0], .agg #[.int .i64 0, .int .i64 0, .slice none 0 0, .slice none 0 0, .slice none 0 0], .int .i64 0, .slice none 0 0] 8 (World.laidAll_os _ _ _)
      (World.shaped_of_ZipB (by kernel_rfl) (by kernel_rfl)) (by kernel_rfl) (by kernel_rfl) (by kernel_rfl)
      (by rw [MakeChecks.laidMetH_plain _ _ _ (by kernel_rfl)]; exact laidMet_laidAll _ (by kernel_rfl) (by kernel_rfl))) ?_
  intro W base args ds gs before hval0 hW _ _ hL _
  have hW' := hW
  obtain ⟨p, q, hA0, hV, rfl, _, _⟩ := hW
  have hA : DataW.TrodAll enc Tryz.prog W 0 (fun _ => true) true [22, 33, 33, 3, 30] args.toList ds p := hA0
  obtain ⟨rfl, rfl⟩ := trodVars_none hV
  obtain ⟨v0, vs1, d0, ds1, p0, q1, hargs, rfl, rfl, h0, hA1⟩ := trodAll_cons hA
  obtain ⟨v1, vs2, d1, ds2, p1, q2, rfl, rfl, rfl, h1, hA2⟩ := trodAll_cons hA1
  obtain ⟨v2, vs3, d2, ds3, p2, q3, rfl, rfl, rfl, h2, hA3⟩ := trodAll_cons hA2
  obtain ⟨v3, vs4, d3, ds4, p3, q4, rfl, rfl, rfl, h3, hA4⟩ := trodAll_cons hA3
  obtain ⟨v4, vs5, d4, ds5, p4, q5, rfl, rfl, rfl, h4, hA5⟩ := trodAll_cons hA4
  obtain ⟨rfl, rfl, rfl⟩ := trodAll_nil hA5
  obtain rfl : args = #[v0, v1, v2, v3, v4] := by cases args; simp_all
  obtain ⟨keep0, x0, hv0, w0⟩ := arg_ints (show Tryz.prog.underlying 22 = some (.slice 3) by kernel_rfl) (by kernel_rfl) (by kernel_rfl) h0 (hval0 0 22 v0 rfl rfl)
  obtain ⟨keep1, x1, hv1⟩ := arg_fm formT h1 (hval0 1 33 v1 rfl rfl)
  obtain ⟨keep2, x2, hv2⟩ := arg_fm formT h2 (hval0 2 33 v2 rfl rfl)
  obtain ⟨keep3, x3, hv3, w3⟩ := arg_int (show Tryz.prog.underlying 3 = some (.int .i64) by kernel_rfl) h3 (hval0 3 3 v3 rfl rfl)
  obtain ⟨keep4, x4, hv4, w4⟩ := arg_tms dataT h4 (hval0 4 30 v4 rfl rfl)
  refine (law_calls (elaborateDoes_c x0 x1 x2 x3 x4 (i64_of w3) (Nat.le_trans w4 (by decide))) (ar_glob hL) (vs := [v0, v1, v2, v3, v4]) rfl ?_).mono fun e W' ⟨he, hold, hos, hout⟩ => ?_
  · intro i v c hv hc
    match i with
    | 0 => simp at hv hc; subst hv; subst hc; exact hv0
    | 1 => simp at hv hc; subst hv; subst hc; exact hv1
    | 2 => simp at hv hc; subst hv; subst hc; exact hv2
    | 3 => simp at hv hc; subst hv; subst hc; exact hv3
    | 4 => simp at hv hc; subst hv; subst hc; exact hv4
    | i + 5 => simp at hv
  subst he
  refine ⟨_, rfl, _, _, _, [], (p0 ++ (p1 ++ (p2 ++ (p3 ++ (p4 ++ []))))), [], hW', ?_, ?_, ?_, kept_of_old hold hos hout _, fun h => by cases h⟩
  · exact trodAll_mk1 (shut_bool (show Tryz.prog.underlying 4 = some .bool by kernel_rfl) true)
  · have hb : ∀ b, b < W.heap.size → (fun b : Nat => decide (b < W.heap.size)) b = true := fun b hb => by simpa using hb
    exact (trodAll_cons_mk (keep0 W' _ hold hb) (trodAll_cons_mk (keep1 W' _ hold hb) (trodAll_cons_mk (keep2 W' _ hold hb) (trodAll_cons_mk (keep3 W' _ hold hb) (trodAll_cons_mk (keep4 W' _ hold hb) trodAll_mk0)))))
  · rfl
theorem elaborateDoes_holds : Rows.ElaborateDoesSaid :=
  OpenClaim.holds_of_wide 4 Tryz.f4 rfl rfl rfl rfl rfl rfl rfl ⟨rfl, rfl, rfl, rfl, rfl⟩ rfl rfl rfl rfl rfl (by kernel_rfl) Tryz.func4 (by kernel_rfl)
    (of_decide_eq_true (by kernel_rfl)) (by unfold Func.isWrapper; rw [if_neg (of_decide_eq_false (by kernel_rfl))]; exact ⟨rfl, rfl⟩)
    (fun os started H enc _ => elaborateDoes_lifted os started H enc)
theorem elaborateDoes_card : Rows.ElaborateDoesCardSaid :=
  Claim7.holds_tied_plain_at .later [] [.data] true (true, "b9bd7cb05c48b02301b4af0a5955b210a3421a1934e646202b6e2d3bb8004561") false
    elaborateDoes_holds (fun _ h => by cases h) (by kernel_rfl) (fun _ h => by cases h) elaborateDoes_row_tie rfl ⟨rfl, rfl⟩ (by kernel_rfl) rfl
    (fun f fn hf hfn => by
      obtain rfl : f = 4 := Option.some.inj ((show Tryz.prog.funcNamed "proofprograms/proofprogramslaw18.ElaborateDoes" = some 4 by kernel_rfl).symm.trans hf) |>.symm
      obtain rfl : fn = Tryz.f4 := (Option.some.inj (Tryz.func4.symm.trans hfn)).symm
      exact ⟨by kernel_rfl, fun j t ht => by
        rw [Tryz.params4] at ht
        rcases j with _ | _ | _ | _ | _ | j
        · obtain rfl : 22 = t := by simpa using ht
          exact (show Tryz.prog.wantsStandIn 22 = false by kernel_rfl)
        · obtain rfl : 33 = t := by simpa using ht
          exact (show Tryz.prog.wantsStandIn 33 = false by kernel_rfl)
        · obtain rfl : 33 = t := by simpa using ht
          exact (show Tryz.prog.wantsStandIn 33 = false by kernel_rfl)
        · obtain rfl : 3 = t := by simpa using ht
          exact (show Tryz.prog.wantsStandIn 3 = false by kernel_rfl)
        · obtain rfl : 30 = t := by simpa using ht
          exact (show Tryz.prog.wantsStandIn 30 = false by kernel_rfl)
        · simp at ht⟩)
    (by kernel_rfl)
#print axioms elaborateDoes_card
end Go.Proofs.YthenpnfgkgglcaaGreatDoor
