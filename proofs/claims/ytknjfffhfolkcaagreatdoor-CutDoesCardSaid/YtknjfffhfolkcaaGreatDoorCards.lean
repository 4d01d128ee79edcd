/-
  DERIVED. GIVEN WITH THE SEED: THE CARDS: each row of YtknjfffhfolkcaaGreatDoorRows.lean that lists a variable, with what it lists TIED to the program's text (the seventh form; the later family's looks); each row that meets fmt, with fmt's text TOLD by the authors' own Lean function (tested against real Go, not proved from fmt's source: count such statements apart). THE CARD IS WHAT COUNTS. Prove the row's statement (the work); the ties are given (YtknjfffhfolkcaaGreatDoorTie.lean); close each card by the builder's one call (the guide's Derived/Test/ToyasCard.lean, 'card_holds'). Laid BY PROGRAM, IN A SANDBOX (cutbox-door.mjs). By AI agents, Wed Nov 11 2026. No macro, syntax, notation, axiom, sorry.
-/
import Derived.Test.YtknjfffhfolkcaaGreatDoorRows
import GoSem.ClaimSeven
namespace Go.Proofs.YtknjfffhfolkcaaGreatDoor
namespace Rows

/-- THE TIED CARD OF 'proofprogramslaw13.CutDoes'. -/
def cutDoesCard : Claim7 := { stood := { row := cutDoesRow, standIns := [], harness := (true, "5bbaf39df632df3d1653bbaac17aeb2652654ee208bd95ff100db931f2f33386"), looks := false }, kinds := [], alts := [], laidByText := true, laidKinds := [.data, .data], laidTests := true, laidLooks := .later }
def CutDoesCardSaid : Prop := Claim7.holds Tryz.pinned (.plain (OpenSpec.ofChange cutDoesSpec)) cutDoesCard

/-- THE SECOND FORM's CARD OF 'proofprogramslaw13.CutDoes'. -/
def cutDoesUptoCard : Claim7 := { stood := { row := cutDoesUptoRow, standIns := [], harness := (true, "5bbaf39df632df3d1653bbaac17aeb2652654ee208bd95ff100db931f2f33386"), looks := false }, kinds := [], alts := [], laidByText := true, laidKinds := [.data, .data], laidTests := true, laidLooks := .later }
def CutDoesUptoCardSaid : Prop := Claim7.holds Tryz.pinned (.plain (OpenSpec.upto cutDoesSpec)) cutDoesUptoCard
end Rows
end Go.Proofs.YtknjfffhfolkcaaGreatDoor
