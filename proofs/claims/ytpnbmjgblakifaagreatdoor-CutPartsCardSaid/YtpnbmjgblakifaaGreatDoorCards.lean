/-
  DERIVED. GIVEN WITH THE SEED: THE CARDS: each row of YtpnbmjgblakifaaGreatDoorRows.lean that lists a variable, with what it lists TIED to the program's text (the seventh form; the later family's looks); each row that meets fmt, with fmt's text TOLD by the authors' own Lean function (tested against real Go, not proved from fmt's source: count such statements apart). THE CARD IS WHAT COUNTS. Prove the row's statement (the work); the ties are given (YtpnbmjgblakifaaGreatDoorTie.lean); close each card by the builder's one call (the guide's Derived/Test/ToyasCard.lean, 'card_holds'). Laid BY PROGRAM, IN A SANDBOX (cutbox-door.mjs). By AI agents, Wed Nov 11 2026. No macro, syntax, notation, axiom, sorry.
-/
import Derived.Test.YtpnbmjgblakifaaGreatDoorRows
import GoSem.ClaimSeven
namespace Go.Proofs.YtpnbmjgblakifaaGreatDoor
namespace Rows

/-- THE TIED CARD OF 'proofprogramslaw13.CutParts'. -/
def cutPartsCard : Claim7 := { stood := { row := cutPartsRow, standIns := [], harness := (true, "d0d6d8c5a65b6ae25beaef759cb0ce1b692a7f3706d01de77cc24003f5ab04a0"), looks := false }, kinds := [], alts := [], laidByText := true, laidKinds := [.data, .data], laidTests := true, laidLooks := .later }
def CutPartsCardSaid : Prop := Claim7.holds Tryz.pinned (.plain (OpenSpec.ofChange cutPartsSpec)) cutPartsCard

/-- THE TIED CARD OF 'proofprogramslaw13.CutDoes'. -/
def cutDoesCard : Claim7 := { stood := { row := cutDoesRow, standIns := [], harness := (true, "d0d6d8c5a65b6ae25beaef759cb0ce1b692a7f3706d01de77cc24003f5ab04a0"), looks := false }, kinds := [], alts := [], laidByText := true, laidKinds := [.data, .data], laidTests := true, laidLooks := .later }
def CutDoesCardSaid : Prop := Claim7.holds Tryz.pinned (.plain (OpenSpec.ofChange cutDoesSpec)) cutDoesCard

/-- THE TIED CARD OF 'proofprogramslaw13.CutEnds'. -/
def cutEndsCard : Claim7 := { stood := { row := cutEndsRow, standIns := [], harness := (true, "d0d6d8c5a65b6ae25beaef759cb0ce1b692a7f3706d01de77cc24003f5ab04a0"), looks := false }, kinds := [], alts := [], laidByText := true, laidKinds := [.data, .data], laidTests := true, laidLooks := .later }
def CutEndsCardSaid : Prop := Claim7.holds Tryz.pinned (.plain (OpenSpec.ofChange cutEndsSpec)) cutEndsCard

/-- THE TIED CARD OF 'proofprogramslaw10.ProofCommutes'. -/
def proofCommutesCard : Claim7 := { stood := { row := proofCommutesRow, standIns := [], harness := (true, "d0d6d8c5a65b6ae25beaef759cb0ce1b692a7f3706d01de77cc24003f5ab04a0"), looks := false }, kinds := [], alts := [], laidByText := true, laidKinds := [.data, .data], laidTests := true, laidLooks := .later }
def ProofCommutesCardSaid : Prop := Claim7.holds Tryz.pinned (.plain (OpenSpec.ofChange proofCommutesSpec)) proofCommutesCard

/-- THE SECOND FORM's CARD OF 'proofprogramslaw13.CutParts'. -/
def cutPartsUptoCard : Claim7 := { stood := { row := cutPartsUptoRow, standIns := [], harness := (true, "d0d6d8c5a65b6ae25beaef759cb0ce1b692a7f3706d01de77cc24003f5ab04a0"), looks := false }, kinds := [], alts := [], laidByText := true, laidKinds := [.data, .data], laidTests := true, laidLooks := .later }
def CutPartsUptoCardSaid : Prop := Claim7.holds Tryz.pinned (.plain (OpenSpec.upto cutPartsSpec)) cutPartsUptoCard

/-- THE SECOND FORM's CARD OF 'proofprogramslaw13.CutDoes'. -/
def cutDoesUptoCard : Claim7 := { stood := { row := cutDoesUptoRow, standIns := [], harness := (true, "d0d6d8c5a65b6ae25beaef759cb0ce1b692a7f3706d01de77cc24003f5ab04a0"), looks := false }, kinds := [], alts := [], laidByText := true, laidKinds := [.data, .data], laidTests := true, laidLooks := .later }
def CutDoesUptoCardSaid : Prop := Claim7.holds Tryz.pinned (.plain (OpenSpec.upto cutDoesSpec)) cutDoesUptoCard

/-- THE SECOND FORM's CARD OF 'proofprogramslaw13.CutEnds'. -/
def cutEndsUptoCard : Claim7 := { stood := { row := cutEndsUptoRow, standIns := [], harness := (true, "d0d6d8c5a65b6ae25beaef759cb0ce1b692a7f3706d01de77cc24003f5ab04a0"), looks := false }, kinds := [], alts := [], laidByText := true, laidKinds := [.data, .data], laidTests := true, laidLooks := .later }
def CutEndsUptoCardSaid : Prop := Claim7.holds Tryz.pinned (.plain (OpenSpec.upto cutEndsSpec)) cutEndsUptoCard

/-- THE SECOND FORM's CARD OF 'proofprogramslaw10.ProofCommutes'. -/
def proofCommutesUptoCard : Claim7 := { stood := { row := proofCommutesUptoRow, standIns := [], harness := (true, "d0d6d8c5a65b6ae25beaef759cb0ce1b692a7f3706d01de77cc24003f5ab04a0"), looks := false }, kinds := [], alts := [], laidByText := true, laidKinds := [.data, .data], laidTests := true, laidLooks := .later }
def ProofCommutesUptoCardSaid : Prop := Claim7.holds Tryz.pinned (.plain (OpenSpec.upto proofCommutesSpec)) proofCommutesUptoCard
end Rows
end Go.Proofs.YtpnbmjgblakifaaGreatDoor
