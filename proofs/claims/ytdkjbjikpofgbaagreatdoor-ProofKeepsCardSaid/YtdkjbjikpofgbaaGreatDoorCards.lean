/-
  DERIVED. GIVEN WITH THE SEED: THE CARDS: each row of YtdkjbjikpofgbaaGreatDoorRows.lean that lists a variable, with what it lists TIED to the program's text (the seventh form; the later family's looks); each row that meets fmt, with fmt's text TOLD by the authors' own Lean function (tested against real Go, not proved from fmt's source: count such statements apart). THE CARD IS WHAT COUNTS. Prove the row's statement (the work); the ties are given (YtdkjbjikpofgbaaGreatDoorTie.lean); close each card by the builder's one call (the guide's Derived/Test/ToyasCard.lean, 'card_holds'). Laid BY PROGRAM, IN A SANDBOX (cutbox-door.mjs). By AI agents, Wed Nov 11 2026. No macro, syntax, notation, axiom, sorry.
-/
import Derived.Test.YtdkjbjikpofgbaaGreatDoorRows
import GoSem.ClaimSeven
namespace Go.Proofs.YtdkjbjikpofgbaaGreatDoor
namespace Rows

/-- THE TIED CARD OF 'proofprogramslaw10.ProofKeeps'. -/
def proofKeepsCard : Claim7 := { stood := { row := proofKeepsRow, standIns := [], harness := (true, "581ff70e0c5d560e3bcd33da27d967088fc471e906cc3d1bccf45eca8ab0ce47"), looks := false }, kinds := [], alts := [], laidByText := true, laidKinds := [.data, .data], laidTests := true, laidLooks := .later }
def ProofKeepsCardSaid : Prop := Claim7.holds Tryz.pinned (.plain (OpenSpec.ofChange proofKeepsSpec)) proofKeepsCard

/-- THE TIED CARD OF 'proofprogramslaw10.ProofCommutes'. -/
def proofCommutesCard : Claim7 := { stood := { row := proofCommutesRow, standIns := [], harness := (true, "581ff70e0c5d560e3bcd33da27d967088fc471e906cc3d1bccf45eca8ab0ce47"), looks := false }, kinds := [], alts := [], laidByText := true, laidKinds := [.data, .data], laidTests := true, laidLooks := .later }
def ProofCommutesCardSaid : Prop := Claim7.holds Tryz.pinned (.plain (OpenSpec.ofChange proofCommutesSpec)) proofCommutesCard

/-- THE TIED CARD OF 'proofprogramslaw13.CutParts'. -/
def cutPartsCard : Claim7 := { stood := { row := cutPartsRow, standIns := [], harness := (true, "581ff70e0c5d560e3bcd33da27d967088fc471e906cc3d1bccf45eca8ab0ce47"), looks := false }, kinds := [], alts := [], laidByText := true, laidKinds := [.data, .data], laidTests := true, laidLooks := .later }
def CutPartsCardSaid : Prop := Claim7.holds Tryz.pinned (.plain (OpenSpec.ofChange cutPartsSpec)) cutPartsCard

/-- THE SECOND FORM's CARD OF 'proofprogramslaw10.ProofKeeps'. -/
def proofKeepsUptoCard : Claim7 := { stood := { row := proofKeepsUptoRow, standIns := [], harness := (true, "581ff70e0c5d560e3bcd33da27d967088fc471e906cc3d1bccf45eca8ab0ce47"), looks := false }, kinds := [], alts := [], laidByText := true, laidKinds := [.data, .data], laidTests := true, laidLooks := .later }
def ProofKeepsUptoCardSaid : Prop := Claim7.holds Tryz.pinned (.plain (OpenSpec.upto proofKeepsSpec)) proofKeepsUptoCard

/-- THE SECOND FORM's CARD OF 'proofprogramslaw10.ProofCommutes'. -/
def proofCommutesUptoCard : Claim7 := { stood := { row := proofCommutesUptoRow, standIns := [], harness := (true, "581ff70e0c5d560e3bcd33da27d967088fc471e906cc3d1bccf45eca8ab0ce47"), looks := false }, kinds := [], alts := [], laidByText := true, laidKinds := [.data, .data], laidTests := true, laidLooks := .later }
def ProofCommutesUptoCardSaid : Prop := Claim7.holds Tryz.pinned (.plain (OpenSpec.upto proofCommutesSpec)) proofCommutesUptoCard

/-- THE SECOND FORM's CARD OF 'proofprogramslaw13.CutParts'. -/
def cutPartsUptoCard : Claim7 := { stood := { row := cutPartsUptoRow, standIns := [], harness := (true, "581ff70e0c5d560e3bcd33da27d967088fc471e906cc3d1bccf45eca8ab0ce47"), looks := false }, kinds := [], alts := [], laidByText := true, laidKinds := [.data, .data], laidTests := true, laidLooks := .later }
def CutPartsUptoCardSaid : Prop := Claim7.holds Tryz.pinned (.plain (OpenSpec.upto cutPartsSpec)) cutPartsUptoCard
end Rows
end Go.Proofs.YtdkjbjikpofgbaaGreatDoor
