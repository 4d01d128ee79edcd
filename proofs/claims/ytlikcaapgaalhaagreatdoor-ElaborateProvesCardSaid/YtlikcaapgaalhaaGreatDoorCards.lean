/-
  DERIVED. GIVEN WITH THE SEED: THE CARDS: each row of YtlikcaapgaalhaaGreatDoorRows.lean that lists a variable, with what it lists TIED to the program's text (the seventh form; the later family's looks); each row that meets fmt, with fmt's text TOLD by the authors' own Lean function (tested against real Go, not proved from fmt's source: count such statements apart). THE CARD IS WHAT COUNTS. Prove the row's statement (the work); the ties are given (YtlikcaapgaalhaaGreatDoorTie.lean); close each card by the builder's one call (the guide's Derived/Test/ToyasCard.lean, 'card_holds'). Laid BY PROGRAM, IN A SANDBOX (cutbox-door.mjs). By AI agents, Wed Nov 11 2026. No macro, syntax, notation, axiom, sorry.
-/
import Derived.Test.YtlikcaapgaalhaaGreatDoorRows
import GoSem.ClaimSeven
namespace Go.Proofs.YtlikcaapgaalhaaGreatDoor
namespace Rows

/-- THE TIED CARD OF 'proofprogramslaw18.ElaborateProves'. -/
def elaborateProvesCard : Claim7 := { stood := { row := elaborateProvesRow, standIns := [], harness := (true, "9473fe4b48f79c15500518ba8e3269b2122b68a24d2f4581c20d7b0c23046f53"), looks := false }, kinds := [], alts := [], laidByText := true, laidKinds := [.data], laidTests := true, laidLooks := .later }
def ElaborateProvesCardSaid : Prop := Claim7.holds Tryz.pinned (.plain (OpenSpec.ofChange elaborateProvesSpec)) elaborateProvesCard

/-- THE SECOND FORM's CARD OF 'proofprogramslaw18.ElaborateProves'. -/
def elaborateProvesUptoCard : Claim7 := { stood := { row := elaborateProvesUptoRow, standIns := [], harness := (true, "9473fe4b48f79c15500518ba8e3269b2122b68a24d2f4581c20d7b0c23046f53"), looks := false }, kinds := [], alts := [], laidByText := true, laidKinds := [.data], laidTests := true, laidLooks := .later }
def ElaborateProvesUptoCardSaid : Prop := Claim7.holds Tryz.pinned (.plain (OpenSpec.upto elaborateProvesSpec)) elaborateProvesUptoCard
end Rows
end Go.Proofs.YtlikcaapgaalhaaGreatDoor
