/-
  DERIVED. GIVEN WITH THE SEED: THE CARDS: each row of YtkmmlocnghhpiaaGreatDoorRows.lean that lists a variable, with what it lists TIED to the program's text (the seventh form; the later family's looks); each row that meets fmt, with fmt's text TOLD by the authors' own Lean function (tested against real Go, not proved from fmt's source: count such statements apart). THE CARD IS WHAT COUNTS. Prove the row's statement (the work); the ties are given (YtkmmlocnghhpiaaGreatDoorTie.lean); close each card by the builder's one call (the guide's Derived/Test/ToyasCard.lean, 'card_holds'). Laid BY PROGRAM, IN A SANDBOX (cutbox-door.mjs). By AI agents, Wed Nov 11 2026. No macro, syntax, notation, axiom, sorry.
-/
import Derived.Test.YtkmmlocnghhpiaaGreatDoorRows
import GoSem.ClaimSeven
namespace Go.Proofs.YtkmmlocnghhpiaaGreatDoor
namespace Rows

/-- THE TIED CARD OF 'proofprogramslaw07.FormulaDoes'. -/
def formulaDoesCard : Claim7 := { stood := { row := formulaDoesRow, standIns := [], harness := (true, "eeeb3ae4f1528869880ea8cf16ac3629de58f233e1057a3f7804296601321b9e"), looks := false }, kinds := [], alts := [], laidByText := true, laidKinds := [.data], laidTests := true, laidLooks := .later }
def FormulaDoesCardSaid : Prop := Claim7.holds Tryz.pinned (.plain (OpenSpec.ofChange formulaDoesSpec)) formulaDoesCard

/-- THE SECOND FORM's CARD OF 'proofprogramslaw07.FormulaDoes'. -/
def formulaDoesUptoCard : Claim7 := { stood := { row := formulaDoesUptoRow, standIns := [], harness := (true, "eeeb3ae4f1528869880ea8cf16ac3629de58f233e1057a3f7804296601321b9e"), looks := false }, kinds := [], alts := [], laidByText := true, laidKinds := [.data], laidTests := true, laidLooks := .later }
def FormulaDoesUptoCardSaid : Prop := Claim7.holds Tryz.pinned (.plain (OpenSpec.upto formulaDoesSpec)) formulaDoesUptoCard
end Rows
end Go.Proofs.YtkmmlocnghhpiaaGreatDoor
