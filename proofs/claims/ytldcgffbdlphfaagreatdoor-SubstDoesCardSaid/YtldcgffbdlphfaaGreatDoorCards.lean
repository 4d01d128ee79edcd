/-
  DERIVED. GIVEN WITH THE SEED: THE CARDS: each row of YtldcgffbdlphfaaGreatDoorRows.lean that lists a variable, with what it lists TIED to the program's text (the seventh form; the later family's looks); each row that meets fmt, with fmt's text TOLD by the authors' own Lean function (tested against real Go, not proved from fmt's source: count such statements apart). THE CARD IS WHAT COUNTS. Prove the row's statement (the work); the ties are given (YtldcgffbdlphfaaGreatDoorTie.lean); close each card by the builder's one call (the guide's Derived/Test/ToyasCard.lean, 'card_holds'). Laid BY PROGRAM, IN A SANDBOX (cutbox-door.mjs). By AI agents, Wed Nov 11 2026. No macro, syntax, notation, axiom, sorry.
-/
import Derived.Test.YtldcgffbdlphfaaGreatDoorRows
import GoSem.ClaimSeven
namespace Go.Proofs.YtldcgffbdlphfaaGreatDoor
namespace Rows

/-- THE TIED CARD OF 'proofprogramslaw03.SubstDoes'. -/
def substDoesCard : Claim7 := { stood := { row := substDoesRow, standIns := [], harness := (true, "fd9a2d7e03a22725e162ecb70fb7dd5d8f7eb80733f1f4cb89af338e6a7dd8c3"), looks := false }, kinds := [], alts := [], laidByText := true, laidKinds := [.data], laidTests := true, laidLooks := .later }
def SubstDoesCardSaid : Prop := Claim7.holds Tryz.pinned (.plain (OpenSpec.ofChange substDoesSpec)) substDoesCard

/-- THE TIED CARD OF 'proofprogramslaw07.FormulaLifts'. -/
def formulaLiftsCard : Claim7 := { stood := { row := formulaLiftsRow, standIns := [], harness := (true, "fd9a2d7e03a22725e162ecb70fb7dd5d8f7eb80733f1f4cb89af338e6a7dd8c3"), looks := false }, kinds := [], alts := [], laidByText := true, laidKinds := [.data], laidTests := true, laidLooks := .later }
def FormulaLiftsCardSaid : Prop := Claim7.holds Tryz.pinned (.plain (OpenSpec.ofChange formulaLiftsSpec)) formulaLiftsCard

/-- THE TIED CARD OF 'proofprogramslaw07.FormulaDoes'. -/
def formulaDoesCard : Claim7 := { stood := { row := formulaDoesRow, standIns := [], harness := (true, "fd9a2d7e03a22725e162ecb70fb7dd5d8f7eb80733f1f4cb89af338e6a7dd8c3"), looks := false }, kinds := [], alts := [], laidByText := true, laidKinds := [.data], laidTests := true, laidLooks := .later }
def FormulaDoesCardSaid : Prop := Claim7.holds Tryz.pinned (.plain (OpenSpec.ofChange formulaDoesSpec)) formulaDoesCard

/-- THE SECOND FORM's CARD OF 'proofprogramslaw03.SubstDoes'. -/
def substDoesUptoCard : Claim7 := { stood := { row := substDoesUptoRow, standIns := [], harness := (true, "fd9a2d7e03a22725e162ecb70fb7dd5d8f7eb80733f1f4cb89af338e6a7dd8c3"), looks := false }, kinds := [], alts := [], laidByText := true, laidKinds := [.data], laidTests := true, laidLooks := .later }
def SubstDoesUptoCardSaid : Prop := Claim7.holds Tryz.pinned (.plain (OpenSpec.upto substDoesSpec)) substDoesUptoCard

/-- THE SECOND FORM's CARD OF 'proofprogramslaw07.FormulaLifts'. -/
def formulaLiftsUptoCard : Claim7 := { stood := { row := formulaLiftsUptoRow, standIns := [], harness := (true, "fd9a2d7e03a22725e162ecb70fb7dd5d8f7eb80733f1f4cb89af338e6a7dd8c3"), looks := false }, kinds := [], alts := [], laidByText := true, laidKinds := [.data], laidTests := true, laidLooks := .later }
def FormulaLiftsUptoCardSaid : Prop := Claim7.holds Tryz.pinned (.plain (OpenSpec.upto formulaLiftsSpec)) formulaLiftsUptoCard

/-- THE SECOND FORM's CARD OF 'proofprogramslaw07.FormulaDoes'. -/
def formulaDoesUptoCard : Claim7 := { stood := { row := formulaDoesUptoRow, standIns := [], harness := (true, "fd9a2d7e03a22725e162ecb70fb7dd5d8f7eb80733f1f4cb89af338e6a7dd8c3"), looks := false }, kinds := [], alts := [], laidByText := true, laidKinds := [.data], laidTests := true, laidLooks := .later }
def FormulaDoesUptoCardSaid : Prop := Claim7.holds Tryz.pinned (.plain (OpenSpec.upto formulaDoesSpec)) formulaDoesUptoCard
end Rows
end Go.Proofs.YtldcgffbdlphfaaGreatDoor
