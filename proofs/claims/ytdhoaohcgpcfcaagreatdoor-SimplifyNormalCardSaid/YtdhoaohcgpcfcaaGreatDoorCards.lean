/-
  DERIVED. GIVEN WITH THE SEED: THE CARDS: each row of YtdhoaohcgpcfcaaGreatDoorRows.lean that lists a variable, with what it lists TIED to the program's text (the seventh form; the later family's looks); each row that meets fmt, with fmt's text TOLD by the authors' own Lean function (tested against real Go, not proved from fmt's source: count such statements apart). THE CARD IS WHAT COUNTS. Prove the row's statement (the work); the ties are given (YtdhoaohcgpcfcaaGreatDoorTie.lean); close each card by the builder's one call (the guide's Derived/Test/ToyasCard.lean, 'card_holds'). Laid BY PROGRAM, IN A SANDBOX (cutbox-door.mjs). By AI agents, Wed Nov 11 2026. No macro, syntax, notation, axiom, sorry.
-/
import Derived.Test.YtdhoaohcgpcfcaaGreatDoorRows
import GoSem.ClaimSeven
namespace Go.Proofs.YtdhoaohcgpcfcaaGreatDoor
namespace Rows

/-- THE TIED CARD OF 'proofprogramslaw36.SimplifyNormal'. -/
def simplifyNormalCard : Claim7 := { stood := { row := simplifyNormalRow, standIns := [], harness := (true, "9ccc07477bad0ebfd3dd095e8cae5ae0e0a58c207bb336130bdc779c0f686d97"), looks := false }, kinds := [], alts := [], laidByText := true, laidKinds := [.data], laidTests := true, laidLooks := .later }
def SimplifyNormalCardSaid : Prop := Claim7.holds Tryz.pinned (.plain (OpenSpec.ofChange simplifyNormalSpec)) simplifyNormalCard

/-- THE SECOND FORM's CARD OF 'proofprogramslaw36.SimplifyNormal'. -/
def simplifyNormalUptoCard : Claim7 := { stood := { row := simplifyNormalUptoRow, standIns := [], harness := (true, "9ccc07477bad0ebfd3dd095e8cae5ae0e0a58c207bb336130bdc779c0f686d97"), looks := false }, kinds := [], alts := [], laidByText := true, laidKinds := [.data], laidTests := true, laidLooks := .later }
def SimplifyNormalUptoCardSaid : Prop := Claim7.holds Tryz.pinned (.plain (OpenSpec.upto simplifyNormalSpec)) simplifyNormalUptoCard
end Rows
end Go.Proofs.YtdhoaohcgpcfcaaGreatDoor
