/-
  DERIVED. GIVEN WITH THE SEED: THE CARDS: each row of YtjgokiomgcfclaaGreatDoorRows.lean that lists a variable, with what it lists TIED to the program's text (the seventh form; the later family's looks); each row that meets fmt, with fmt's text TOLD by the authors' own Lean function (tested against real Go, not proved from fmt's source: count such statements apart). THE CARD IS WHAT COUNTS. Prove the row's statement (the work); the ties are given (YtjgokiomgcfclaaGreatDoorTie.lean); close each card by the builder's one call (the guide's Derived/Test/ToyasCard.lean, 'card_holds'). Laid BY PROGRAM, IN A SANDBOX (cutbox-door.mjs). By AI agents, Wed Nov 11 2026. No macro, syntax, notation, axiom, sorry.
-/
import Derived.Test.YtjgokiomgcfclaaGreatDoorRows
import GoSem.ClaimSeven
namespace Go.Proofs.YtjgokiomgcfclaaGreatDoor
namespace Rows

/-- THE TIED CARD OF 'proofprogramslaw13.CutNumbers'. -/
def cutNumbersCard : Claim7 := { stood := { row := cutNumbersRow, standIns := [], harness := (true, "47d0cfe3fcc9ee1d203e39f306871a1c6c0c73c69253e50471d240c4d1f721ff"), looks := false }, kinds := [], alts := [], laidByText := true, laidKinds := [.data, .data], laidTests := true, laidLooks := .later }
def CutNumbersCardSaid : Prop := Claim7.holds Tryz.pinned (.plain (OpenSpec.ofChange cutNumbersSpec)) cutNumbersCard

/-- THE TIED CARD OF 'proofprogramslaw18.ElaborateUses'. -/
def elaborateUsesCard : Claim7 := { stood := { row := elaborateUsesRow, standIns := [], harness := (true, "47d0cfe3fcc9ee1d203e39f306871a1c6c0c73c69253e50471d240c4d1f721ff"), looks := false }, kinds := [], alts := [], laidByText := true, laidKinds := [.data], laidTests := true, laidLooks := .later }
def ElaborateUsesCardSaid : Prop := Claim7.holds Tryz.pinned (.plain (OpenSpec.ofChange elaborateUsesSpec)) elaborateUsesCard

/-- THE SECOND FORM's CARD OF 'proofprogramslaw13.CutNumbers'. -/
def cutNumbersUptoCard : Claim7 := { stood := { row := cutNumbersUptoRow, standIns := [], harness := (true, "47d0cfe3fcc9ee1d203e39f306871a1c6c0c73c69253e50471d240c4d1f721ff"), looks := false }, kinds := [], alts := [], laidByText := true, laidKinds := [.data, .data], laidTests := true, laidLooks := .later }
def CutNumbersUptoCardSaid : Prop := Claim7.holds Tryz.pinned (.plain (OpenSpec.upto cutNumbersSpec)) cutNumbersUptoCard

/-- THE SECOND FORM's CARD OF 'proofprogramslaw18.ElaborateUses'. -/
def elaborateUsesUptoCard : Claim7 := { stood := { row := elaborateUsesUptoRow, standIns := [], harness := (true, "47d0cfe3fcc9ee1d203e39f306871a1c6c0c73c69253e50471d240c4d1f721ff"), looks := false }, kinds := [], alts := [], laidByText := true, laidKinds := [.data], laidTests := true, laidLooks := .later }
def ElaborateUsesUptoCardSaid : Prop := Claim7.holds Tryz.pinned (.plain (OpenSpec.upto elaborateUsesSpec)) elaborateUsesUptoCard
end Rows
end Go.Proofs.YtjgokiomgcfclaaGreatDoor
