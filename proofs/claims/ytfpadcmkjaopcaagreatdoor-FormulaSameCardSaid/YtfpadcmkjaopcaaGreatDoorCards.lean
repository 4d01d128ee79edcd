/-
  DERIVED. GIVEN WITH THE SEED: THE CARDS: each row of YtfpadcmkjaopcaaGreatDoorRows.lean that lists a variable, with what it lists TIED to the program's text (the seventh form; the later family's looks); each row that meets fmt, with fmt's text TOLD by the authors' own Lean function (tested against real Go, not proved from fmt's source: count such statements apart). THE CARD IS WHAT COUNTS. Prove the row's statement (the work); the ties are given (YtfpadcmkjaopcaaGreatDoorTie.lean); close each card by the builder's one call (the guide's Derived/Test/ToyasCard.lean, 'card_holds'). Laid BY PROGRAM, IN A SANDBOX (cutbox-door.mjs). By AI agents, Wed Nov 11 2026. No macro, syntax, notation, axiom, sorry.
-/
import Derived.Test.YtfpadcmkjaopcaaGreatDoorRows
import GoSem.ClaimSeven
namespace Go.Proofs.YtfpadcmkjaopcaaGreatDoor
namespace Rows

/-- THE TIED CARD OF 'proofprogramslaw07.FormulaSame'. -/
def formulaSameCard : Claim7 := { stood := { row := formulaSameRow, standIns := [], harness := (true, "f74608a3050b30dc68a23871518a0eac700f1711e3424dc2059c7765c979816f"), looks := false }, kinds := [], alts := [], laidByText := true, laidKinds := [.data], laidTests := true, laidLooks := .later }
def FormulaSameCardSaid : Prop := Claim7.holds Tryz.pinned (.plain (OpenSpec.ofChange formulaSameSpec)) formulaSameCard

/-- THE SECOND FORM's CARD OF 'proofprogramslaw07.FormulaSame'. -/
def formulaSameUptoCard : Claim7 := { stood := { row := formulaSameUptoRow, standIns := [], harness := (true, "f74608a3050b30dc68a23871518a0eac700f1711e3424dc2059c7765c979816f"), looks := false }, kinds := [], alts := [], laidByText := true, laidKinds := [.data], laidTests := true, laidLooks := .later }
def FormulaSameUptoCardSaid : Prop := Claim7.holds Tryz.pinned (.plain (OpenSpec.upto formulaSameSpec)) formulaSameUptoCard
end Rows
end Go.Proofs.YtfpadcmkjaopcaaGreatDoor
