/- The statement SimplifyEquation holds for every list of numbers, without conditions. -/
import Derived.Test.YthjlnifaijcfdaaGreatDoorA2
import Derived.Test.YthjlnifaijcfdaaGreatDoorS1
import Derived.Test.YthjlnifaijcfdaaGreatDoorCards
import Derived.Test.YthjlnifaijcfdaaGreatDoorTie
import Derived.ProofKit
import Derived.OpenShut
import Derived.LaidMore
import Derived.Lay
import Derived.SevenTiedAt
import Derived.Stop.Joined
import Derived.Handed
import Derived.JoinedOf
import Derived.Test.YthjlnifaijcfdaaGreatDoorS3
namespace Go.Proofs.YthjlnifaijcfdaaGreatDoor
open Go Go.Ab Go.ChangeShapes Go.WideShapes Go.ChangeAt Go.RowKit
set_option maxRecDepth 100000
set_option linter.all false
theorem own : ownKnob Tryz.prog.godebug = none := by kernel_rfl
abbrev theLaid : List (String × DataW Unit) := [("proofprograms/tree.arities", Rows.laid_proofprograms_tree_arities)]
def arInts : List Int := [0, 0, 1, 2, 0, 1, 3, 0, 2, 3, 2, 1, 1, 0]
theorem ar_cell {W : World} (h : laidMetH Tryz.prog theLaid W) (r : Nat) (hr : r < 14) : W.cell? ⟨0, r, none⟩ = some (.int .i64 (arInts.getD r 0)) := by
  rw [MakeChecks.laidMetH_plain _ _ _ (by kernel_rfl)] at h
  obtain ⟨ps, ⟨g, t, cs, fuel, p, q, hg, ht, hv, hd, _, _⟩, _, _⟩ := h
  obtain rfl := Option.some.inj ((show Tryz.prog.globalNamed "proofprograms/tree.arities" = some 0 by kernel_rfl).symm.trans hg)
  obtain rfl := Option.some.inj ((show (Tryz.prog.globals[0]?).map (·.type) = some 198 by kernel_rfl).symm.trans ht)
  obtain ⟨xs, m, _, ex, _, hl, hel⟩ := DataW.trod_array (show Tryz.prog.underlying 198 = some (.array 14 3) by kernel_rfl) hd
  have c5 : Tryz.prog.cellsOf 3 = 1 := by kernel_rfl
  have hE := hel r hr
  rw [c5, Nat.mul_one, List.getElem?_eq_getElem (by omega)] at hE
  obtain ⟨z, e1, e2, _⟩ := DataW.trod_int (show Tryz.prog.underlying 3 = some (.int .i64) by kernel_rfl) hE
  have hlen : arInts.length = 14 := rfl
  have e3 : (xs.map (·.1)) = arInts.map fun n => .lit (.int .i64 n) := (DataW.agg.inj (Prod.mk.inj ex).1).symm
  have e4 : (xs.map (·.1))[r]? = (arInts.map fun n => (DataW.lit (.int .i64 n) : DataW Unit))[r]? := by rw [e3]
  rw [List.getElem?_map, List.getElem?_map, List.getElem?_eq_getElem (by omega : r < xs.length), List.getElem?_eq_getElem (by omega : r < arInts.length), e2] at e4
  have hz : z = arInts.getD r 0 := by
    simp only [Option.map_some, Option.some.injEq, DataW.lit.injEq, Lit.int.injEq, true_and] at e4
    rw [e4, List.getD, List.getElem?_eq_getElem (by omega : r < arInts.length)]; rfl
  rw [World.var?_cell hg hv r, ← hz]
  have : cs.toList[r]? = some (.int .i64 z) := by
    have h0 : ((cs.toList.drop r).take 1)[0]? = some (.int .i64 z) := by rw [e1]; rfl
    simpa using h0
  simpa using this
theorem ar_glob {W : World} (h : laidMetH Tryz.prog theLaid W) : ∀ p ∈ Go.Ab.E.G, ∀ (j : Nat) c, p.2[j]? = some c → ∃ v, W.cell? ⟨p.1, j, none⟩ = some v ∧ DRel (allM W) W v c := by
  intro p hp j c hc
  have hp' : p = (0, arV) := by simpa [Go.Ab.E] using hp
  subst hp'
  have hj : j < 14 := by
    have := (List.getElem?_eq_some_iff.1 hc).1
    simpa [arV] using this
  refine ⟨_, ar_cell h j hj, ?_⟩
  have e : arV[j]? = some (.int .i64 (arInts.getD j 0)) := by
    have : arV = arInts.map V.i := rfl
    rw [this, List.getElem?_map, List.getD_eq_getElem?_getD, List.getElem?_eq_getElem (by simpa [arInts] using hj)]
    rfl
  rw [e] at hc
  cases hc
  exact .int _ _
theorem ints_good {H : Type} {enc : TypeId × Value → H} {W : World} (n : Nat) : Go.Ab.Good enc Tryz.prog W n 22 (fun vs => ∃ ys : List Int, vs = [.slice .any (.t .int ys)] ∧ ys.length ≤ maxLen) :=
  good_ints (show Tryz.prog.underlying 22 = some (.slice 3) by kernel_rfl) (by kernel_rfl) (by kernel_rfl) n
end Go.Proofs.YthjlnifaijcfdaaGreatDoor
namespace Go.Proofs.YthjlnifaijcfdaaGreatDoor
open Go Go.Ab Go.ChangeShapes Go.WideShapes Go.ChangeAt Go.RowKit
set_option maxRecDepth 100000
set_option maxHeartbeats 4000000
set_option linter.all false
theorem simplifyEquation_lifted (os : Os) (started : os.Started) (H : Type) (enc : TypeId × Value → H) :
    ReturnsInHanded {} Tryz.checked os 4 .any (fun w args => (Rows.simplifyEquationSpec.pre enc Tryz.prog Tryz.f4 [] false w args ∧ laidMetH Tryz.prog theLaid w) ∧ sizedMet enc Tryz.prog Tryz.f4 (OpenSpec.ofChange Rows.simplifyEquationSpec) false w args)
      (Rows.simplifyEquationSpec.post enc Tryz.prog Tryz.f4 false true false false) := by
  refine returnsInHanded_of_change_and (C := Tryz.checked) (X := fun w _ => laidMetH Tryz.prog theLaid w) (fun _ _ _ hh h => h.of_heap hh) own started (by kernel_rfl) Tryz.func4
    (ChangeSpec.witness_shaped (enc := enc) (C := Tryz.checked) (os := os) (X := fun w _ => laidMetH Tryz.prog theLaid w) false (World.laidAll Tryz.prog os theLaid) #[.slice none 0 0] 8 (World.laidAll_os _ _ _)
      (World.shaped_of_ZipB (by kernel_rfl) (by kernel_rfl)) (by kernel_rfl) (by kernel_rfl) (by kernel_rfl)
      (by rw [MakeChecks.laidMetH_plain _ _ _ (by kernel_rfl)]; exact laidMet_laidAll _ (by kernel_rfl) (by kernel_rfl))) ?_
  intro W base args ds gs before hval0 hW _ _ hL _
  have hW' := hW
  obtain ⟨p, q, hA0, hV, rfl, _, _⟩ := hW
  have hA : DataW.TrodAll enc Tryz.prog W 0 (fun _ => true) true [22] args.toList ds p := hA0
  obtain ⟨v0, d0, rfl, rfl, h0⟩ := trodAll_one hA
  obtain ⟨rfl, rfl⟩ := trodVars_none hV
  obtain ⟨keep, vs, ⟨l, rfl, _⟩, hlen, hrel⟩ := arg_of h0 ints_good
  have hval : Value.okWide Tryz.prog W .any base 22 v0 := hval0 0 22 v0 rfl rfl
  have hcells := slice_val (show Tryz.prog.underlying 22 = some (.slice 3) by kernel_rfl) hval
  have hv0 : VRel (gh0 W) (· < 0) W v0 (.s .int l) := .data (rel_one hcells ⟨hlen, hrel⟩)
  refine (law_calls (simplifyEquation_c l) (ar_glob hL) (vs := [v0]) rfl ?_).mono fun e W' ⟨he, hold, hos, hout⟩ => ?_
  · intro i v c hv hc
    cases i with
    | zero => simp at hv hc; subst hv; subst hc; exact hv0
    | succ i => simp at hv
  subst he
  refine ⟨_, rfl, _, _, _, [], p, [], hW', ?_, ?_, ?_, kept_of_old hold hos hout _, fun h => by cases h⟩
  · exact trodAll_mk1 (shut_bool (show Tryz.prog.underlying 4 = some .bool by kernel_rfl) true)
  · exact trodAll_mk1 (keep W' _ hold fun b hb => by simpa using hb)
  · rfl
theorem simplifyEquation_holds : Rows.SimplifyEquationSaid :=
  OpenClaim.holds_of_wide 4 Tryz.f4 rfl rfl rfl rfl rfl rfl rfl ⟨rfl, rfl, rfl, rfl, rfl⟩ rfl rfl rfl rfl rfl (by kernel_rfl) Tryz.func4 (by kernel_rfl)
    (of_decide_eq_true (by kernel_rfl)) (by unfold Func.isWrapper; rw [if_neg (of_decide_eq_false (by kernel_rfl))]; exact ⟨rfl, rfl⟩)
    (fun os started H enc _ => simplifyEquation_lifted os started H enc)
theorem simplifyEquation_card : Rows.SimplifyEquationCardSaid :=
  Claim7.holds_tied_plain_at .later [] [.data] true (true, "29abb51ef3133d12216073efce66a812c59bb4fd2191b3d87a46f773e9160da0") false
    simplifyEquation_holds (fun _ h => by cases h) (by kernel_rfl) (fun _ h => by cases h) simplifyEquation_row_tie rfl ⟨rfl, rfl⟩ (by kernel_rfl) rfl
    (fun f fn hf hfn => by
      obtain rfl : f = 4 := Option.some.inj ((show Tryz.prog.funcNamed "proofprograms/proofprogramslaw36.SimplifyEquation" = some 4 by kernel_rfl).symm.trans hf) |>.symm
      obtain rfl : fn = Tryz.f4 := (Option.some.inj (Tryz.func4.symm.trans hfn)).symm
      exact ⟨by kernel_rfl, fun j t ht => by
        rw [Tryz.params4] at ht
        have h3 : t = 22 := by
          rcases j with _ | j
          · simpa using ht.symm
          · simp at ht
        subst h3
        exact (show Tryz.prog.wantsStandIn 22 = false by kernel_rfl)⟩)
    (by kernel_rfl)
#print axioms simplifyEquation_card
end Go.Proofs.YthjlnifaijcfdaaGreatDoor
