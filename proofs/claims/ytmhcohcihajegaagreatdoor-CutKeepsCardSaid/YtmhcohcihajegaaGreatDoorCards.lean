/-
  DERIVED. GIVEN WITH THE SEED: THE CARDS: each row of YtmhcohcihajegaaGreatDoorRows.lean that lists a variable, with what it lists TIED to the program's text (the seventh form; the later family's looks); each row that meets fmt, with fmt's text TOLD by the authors' own Lean function (tested against real Go, not proved from fmt's source: count such statements apart). THE CARD IS WHAT COUNTS. Prove the row's statement (the work); the ties are given (YtmhcohcihajegaaGreatDoorTie.lean); close each card by the builder's one call (the guide's Derived/Test/ToyasCard.lean, 'card_holds'). Laid BY PROGRAM, IN A SANDBOX (cutbox-door.mjs). By AI agents, Wed Nov 11 2026. No macro, syntax, notation, axiom, sorry.
-/
import Derived.Test.YtmhcohcihajegaaGreatDoorRows
import GoSem.ClaimSeven
namespace Go.Proofs.YtmhcohcihajegaaGreatDoor
namespace Rows

/-- THE TIED CARD OF 'proofprogramslaw13.CutKeeps'. -/
def cutKeepsCard : Claim7 := { stood := { row := cutKeepsRow, standIns := [], harness := (true, "0c33ae3af875ef1e7c13afb9d366c1650ef161c3be40d04d93c7f1c9e5102eb4"), looks := false }, kinds := [], alts := [], laidByText := true, laidKinds := [.data, .data], laidTests := true, laidLooks := .later }
def CutKeepsCardSaid : Prop := Claim7.holds Tryz.pinned (.plain (OpenSpec.ofChange cutKeepsSpec)) cutKeepsCard

/-- THE TIED CARD OF 'proofprogramslaw10.ProofHyps'. -/
def proofHypsCard : Claim7 := { stood := { row := proofHypsRow, standIns := [], harness := (true, "0c33ae3af875ef1e7c13afb9d366c1650ef161c3be40d04d93c7f1c9e5102eb4"), looks := false }, kinds := [], alts := [], laidByText := true, laidKinds := [.data, .data], laidTests := true, laidLooks := .later }
def ProofHypsCardSaid : Prop := Claim7.holds Tryz.pinned (.plain (OpenSpec.ofChange proofHypsSpec)) proofHypsCard

/-- THE TIED CARD OF 'proofprogramslaw10.ProofLifts'. -/
def proofLiftsCard : Claim7 := { stood := { row := proofLiftsRow, standIns := [], harness := (true, "0c33ae3af875ef1e7c13afb9d366c1650ef161c3be40d04d93c7f1c9e5102eb4"), looks := false }, kinds := [], alts := [], laidByText := true, laidKinds := [.data, .data], laidTests := true, laidLooks := .later }
def ProofLiftsCardSaid : Prop := Claim7.holds Tryz.pinned (.plain (OpenSpec.ofChange proofLiftsSpec)) proofLiftsCard

/-- THE SECOND FORM's CARD OF 'proofprogramslaw13.CutKeeps'. -/
def cutKeepsUptoCard : Claim7 := { stood := { row := cutKeepsUptoRow, standIns := [], harness := (true, "0c33ae3af875ef1e7c13afb9d366c1650ef161c3be40d04d93c7f1c9e5102eb4"), looks := false }, kinds := [], alts := [], laidByText := true, laidKinds := [.data, .data], laidTests := true, laidLooks := .later }
def CutKeepsUptoCardSaid : Prop := Claim7.holds Tryz.pinned (.plain (OpenSpec.upto cutKeepsSpec)) cutKeepsUptoCard

/-- THE SECOND FORM's CARD OF 'proofprogramslaw10.ProofHyps'. -/
def proofHypsUptoCard : Claim7 := { stood := { row := proofHypsUptoRow, standIns := [], harness := (true, "0c33ae3af875ef1e7c13afb9d366c1650ef161c3be40d04d93c7f1c9e5102eb4"), looks := false }, kinds := [], alts := [], laidByText := true, laidKinds := [.data, .data], laidTests := true, laidLooks := .later }
def ProofHypsUptoCardSaid : Prop := Claim7.holds Tryz.pinned (.plain (OpenSpec.upto proofHypsSpec)) proofHypsUptoCard

/-- THE SECOND FORM's CARD OF 'proofprogramslaw10.ProofLifts'. -/
def proofLiftsUptoCard : Claim7 := { stood := { row := proofLiftsUptoRow, standIns := [], harness := (true, "0c33ae3af875ef1e7c13afb9d366c1650ef161c3be40d04d93c7f1c9e5102eb4"), looks := false }, kinds := [], alts := [], laidByText := true, laidKinds := [.data, .data], laidTests := true, laidLooks := .later }
def ProofLiftsUptoCardSaid : Prop := Claim7.holds Tryz.pinned (.plain (OpenSpec.upto proofLiftsSpec)) proofLiftsUptoCard
end Rows
end Go.Proofs.YtmhcohcihajegaaGreatDoor
