/-
  DERIVED. GIVEN WITH THE SEED: THE CARDS: each row of YtcohcngdoeadgaaGreatDoorRows.lean that lists a variable, with what it lists TIED to the program's text (the seventh form; the later family's looks); each row that meets fmt, with fmt's text TOLD by the authors' own Lean function (tested against real Go, not proved from fmt's source: count such statements apart). THE CARD IS WHAT COUNTS. Prove the row's statement (the work); the ties are given (YtcohcngdoeadgaaGreatDoorTie.lean); close each card by the builder's one call (the guide's Derived/Test/ToyasCard.lean, 'card_holds'). Laid BY PROGRAM, IN A SANDBOX (cutbox-door.mjs). By AI agents, Wed Nov 11 2026. No macro, syntax, notation, axiom, sorry.
-/
import Derived.Test.YtcohcngdoeadgaaGreatDoorRows
import GoSem.ClaimSeven
namespace Go.Proofs.YtcohcngdoeadgaaGreatDoor
namespace Rows

/-- THE TIED CARD OF 'proofprogramslaw07.FormulaMatches'. -/
def formulaMatchesCard : Claim7 := { stood := { row := formulaMatchesRow, standIns := [], harness := (true, "8f465d3f14033c29cc712671a4e2cca30cac2ff8e6348454720f22290db61464"), looks := false }, kinds := [], alts := [], laidByText := true, laidKinds := [.data], laidTests := true, laidLooks := .later }
def FormulaMatchesCardSaid : Prop := Claim7.holds Tryz.pinned (.plain (OpenSpec.ofChange formulaMatchesSpec)) formulaMatchesCard

/-- THE TIED CARD OF 'proofprogramslaw07.FormulaOrder'. -/
def formulaOrderCard : Claim7 := { stood := { row := formulaOrderRow, standIns := [], harness := (true, "8f465d3f14033c29cc712671a4e2cca30cac2ff8e6348454720f22290db61464"), looks := false }, kinds := [], alts := [], laidByText := true, laidKinds := [.data], laidTests := true, laidLooks := .later }
def FormulaOrderCardSaid : Prop := Claim7.holds Tryz.pinned (.plain (OpenSpec.ofChange formulaOrderSpec)) formulaOrderCard

/-- THE SECOND FORM's CARD OF 'proofprogramslaw07.FormulaMatches'. -/
def formulaMatchesUptoCard : Claim7 := { stood := { row := formulaMatchesUptoRow, standIns := [], harness := (true, "8f465d3f14033c29cc712671a4e2cca30cac2ff8e6348454720f22290db61464"), looks := false }, kinds := [], alts := [], laidByText := true, laidKinds := [.data], laidTests := true, laidLooks := .later }
def FormulaMatchesUptoCardSaid : Prop := Claim7.holds Tryz.pinned (.plain (OpenSpec.upto formulaMatchesSpec)) formulaMatchesUptoCard

/-- THE SECOND FORM's CARD OF 'proofprogramslaw07.FormulaOrder'. -/
def formulaOrderUptoCard : Claim7 := { stood := { row := formulaOrderUptoRow, standIns := [], harness := (true, "8f465d3f14033c29cc712671a4e2cca30cac2ff8e6348454720f22290db61464"), looks := false }, kinds := [], alts := [], laidByText := true, laidKinds := [.data], laidTests := true, laidLooks := .later }
def FormulaOrderUptoCardSaid : Prop := Claim7.holds Tryz.pinned (.plain (OpenSpec.upto formulaOrderSpec)) formulaOrderUptoCard
end Rows
end Go.Proofs.YtcohcngdoeadgaaGreatDoor
