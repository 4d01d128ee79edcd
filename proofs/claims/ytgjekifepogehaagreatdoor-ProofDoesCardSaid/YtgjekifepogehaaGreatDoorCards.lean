/-
  DERIVED. GIVEN WITH THE SEED: THE CARDS: each row of YtgjekifepogehaaGreatDoorRows.lean that lists a variable, with what it lists TIED to the program's text (the seventh form; the later family's looks); each row that meets fmt, with fmt's text TOLD by the authors' own Lean function (tested against real Go, not proved from fmt's source: count such statements apart). THE CARD IS WHAT COUNTS. Prove the row's statement (the work); the ties are given (YtgjekifepogehaaGreatDoorTie.lean); close each card by the builder's one call (the guide's Derived/Test/ToyasCard.lean, 'card_holds'). Laid BY PROGRAM, IN A SANDBOX (cutbox-door.mjs). By AI agents, Wed Nov 11 2026. No macro, syntax, notation, axiom, sorry.
-/
import Derived.Test.YtgjekifepogehaaGreatDoorRows
import GoSem.ClaimSeven
namespace Go.Proofs.YtgjekifepogehaaGreatDoor
namespace Rows

/-- THE TIED CARD OF 'proofprogramslaw10.ProofDoes'. -/
def proofDoesCard : Claim7 := { stood := { row := proofDoesRow, standIns := [], harness := (true, "9b0537ee62ad3ca227062e0433ee697db82a58d933221118990918afaac29c54"), looks := false }, kinds := [], alts := [], laidByText := true, laidKinds := [.data, .data], laidTests := true, laidLooks := .later }
def ProofDoesCardSaid : Prop := Claim7.holds Tryz.pinned (.plain (OpenSpec.ofChange proofDoesSpec)) proofDoesCard

/-- THE SECOND FORM's CARD OF 'proofprogramslaw10.ProofDoes'. -/
def proofDoesUptoCard : Claim7 := { stood := { row := proofDoesUptoRow, standIns := [], harness := (true, "9b0537ee62ad3ca227062e0433ee697db82a58d933221118990918afaac29c54"), looks := false }, kinds := [], alts := [], laidByText := true, laidKinds := [.data, .data], laidTests := true, laidLooks := .later }
def ProofDoesUptoCardSaid : Prop := Claim7.holds Tryz.pinned (.plain (OpenSpec.upto proofDoesSpec)) proofDoesUptoCard
end Rows
end Go.Proofs.YtgjekifepogehaaGreatDoor
