/-
  DERIVED. GIVEN WITH THE SEED: THE PROGRAM's TIES (one call each: nine closed facts by the kernel) AND EACH ROW's TIE, after the 31st guide's Derived/Test/Toyas{Tie, Card}.lean. No idea stands in it: it is a product of the set-up. Laid BY PROGRAM, IN A SANDBOX (cutbox-door.mjs). By AI agents, Wed Nov 11 2026. No macro, syntax, notation, axiom, sorry.
-/
import Derived.Test.YtjgokiomgcfclaaGreatDoorRows
import Derived.LaidByTextLater
import Derived.SevenTiedAt
import Derived.LaidSub
import Derived.LaidOnce
namespace Go.Proofs.YtjgokiomgcfclaaGreatDoor
open Go
set_option maxRecDepth 100000
theorem seatTie1 : Tryz.prog.laidByTextLater [("proofprograms/tree.rules", Rows.laid_proofprograms_tree_rules), ("proofprograms/tree.arities", Rows.laid_proofprograms_tree_arities)] [.data, .data] true :=
  Program.laidByTextLater_by_one 39 8 169 (by kernel_rfl) (by kernel_rfl) (by kernel_rfl) (by kernel_rfl) (by kernel_rfl) (by kernel_rfl) (fun _ _ => by kernel_rfl)
theorem noOwnUnsafe : Tryz.pinned.checked.prog.headLifts.contains "ownunsafe" = false := by kernel_rfl
theorem tie : Tryz.prog.laidByTextLater [("proofprograms/tree.rules", Rows.laid_proofprograms_tree_rules), ("proofprograms/tree.arities", Rows.laid_proofprograms_tree_arities)] [.data, .data] true :=
  Program.laidByTextLater.sub seatTie1 ["proofprograms/tree.rules", "proofprograms/tree.arities"] (by kernel_rfl) (by kernel_rfl)
theorem cutNumbers_row_tie : Rows.cutNumbersRow.laidByTextAt .later Tryz.pinned [.data, .data] true :=
  OpenClaim.laidByTextAt_later rfl rfl tie noOwnUnsafe
theorem tie2 : Tryz.prog.laidByTextLater [("proofprograms/tree.arities", Rows.laid_proofprograms_tree_arities)] [.data] true :=
  Program.laidByTextLater.sub seatTie1 ["proofprograms/tree.arities"] (by kernel_rfl) (by kernel_rfl)
theorem elaborateUses_row_tie : Rows.elaborateUsesRow.laidByTextAt .later Tryz.pinned [.data] true :=
  OpenClaim.laidByTextAt_later rfl rfl tie2 noOwnUnsafe
theorem cutNumbersUpto_row_tie : Rows.cutNumbersUptoRow.laidByTextAt .later Tryz.pinned [.data, .data] true :=
  OpenClaim.laidByTextAt_later rfl rfl tie noOwnUnsafe
theorem elaborateUsesUpto_row_tie : Rows.elaborateUsesUptoRow.laidByTextAt .later Tryz.pinned [.data] true :=
  OpenClaim.laidByTextAt_later rfl rfl tie2 noOwnUnsafe
end Go.Proofs.YtjgokiomgcfclaaGreatDoor
