/-
  DERIVED. GIVEN WITH THE SEED: THE CARDS: each row of YthenpnfgkgglcaaGreatDoorRows.lean that lists a variable, with what it lists TIED to the program's text (the seventh form; the later family's looks); each row that meets fmt, with fmt's text TOLD by the authors' own Lean function (tested against real Go, not proved from fmt's source: count such statements apart). THE CARD IS WHAT COUNTS. Prove the row's statement (the work); the ties are given (YthenpnfgkgglcaaGreatDoorTie.lean); close each card by the builder's one call (the guide's Derived/Test/ToyasCard.lean, 'card_holds'). Laid BY PROGRAM, IN A SANDBOX (cutbox-door.mjs). By AI agents, Wed Nov 11 2026. No macro, syntax, notation, axiom, sorry.
-/
import Derived.Test.YthenpnfgkgglcaaGreatDoorRows
import GoSem.ClaimSeven
namespace Go.Proofs.YthenpnfgkgglcaaGreatDoor
namespace Rows

/-- THE TIED CARD OF 'proofprogramslaw18.ElaborateBack'. -/
def elaborateBackCard : Claim7 := { stood := { row := elaborateBackRow, standIns := [], harness := (true, "b9bd7cb05c48b02301b4af0a5955b210a3421a1934e646202b6e2d3bb8004561"), looks := false }, kinds := [], alts := [], laidByText := true, laidKinds := [.data], laidTests := true, laidLooks := .later }
def ElaborateBackCardSaid : Prop := Claim7.holds Tryz.pinned (.plain (OpenSpec.ofChange elaborateBackSpec)) elaborateBackCard

/-- THE TIED CARD OF 'proofprogramslaw18.ElaborateDoes'. -/
def elaborateDoesCard : Claim7 := { stood := { row := elaborateDoesRow, standIns := [], harness := (true, "b9bd7cb05c48b02301b4af0a5955b210a3421a1934e646202b6e2d3bb8004561"), looks := false }, kinds := [], alts := [], laidByText := true, laidKinds := [.data], laidTests := true, laidLooks := .later }
def ElaborateDoesCardSaid : Prop := Claim7.holds Tryz.pinned (.plain (OpenSpec.ofChange elaborateDoesSpec)) elaborateDoesCard

/-- THE TIED CARD OF 'proofprogramslaw36.SimplifyShorter'. -/
def simplifyShorterCard : Claim7 := { stood := { row := simplifyShorterRow, standIns := [], harness := (true, "b9bd7cb05c48b02301b4af0a5955b210a3421a1934e646202b6e2d3bb8004561"), looks := false }, kinds := [], alts := [], laidByText := true, laidKinds := [.data], laidTests := true, laidLooks := .later }
def SimplifyShorterCardSaid : Prop := Claim7.holds Tryz.pinned (.plain (OpenSpec.ofChange simplifyShorterSpec)) simplifyShorterCard

/-- THE SECOND FORM's CARD OF 'proofprogramslaw18.ElaborateBack'. -/
def elaborateBackUptoCard : Claim7 := { stood := { row := elaborateBackUptoRow, standIns := [], harness := (true, "b9bd7cb05c48b02301b4af0a5955b210a3421a1934e646202b6e2d3bb8004561"), looks := false }, kinds := [], alts := [], laidByText := true, laidKinds := [.data], laidTests := true, laidLooks := .later }
def ElaborateBackUptoCardSaid : Prop := Claim7.holds Tryz.pinned (.plain (OpenSpec.upto elaborateBackSpec)) elaborateBackUptoCard

/-- THE SECOND FORM's CARD OF 'proofprogramslaw18.ElaborateDoes'. -/
def elaborateDoesUptoCard : Claim7 := { stood := { row := elaborateDoesUptoRow, standIns := [], harness := (true, "b9bd7cb05c48b02301b4af0a5955b210a3421a1934e646202b6e2d3bb8004561"), looks := false }, kinds := [], alts := [], laidByText := true, laidKinds := [.data], laidTests := true, laidLooks := .later }
def ElaborateDoesUptoCardSaid : Prop := Claim7.holds Tryz.pinned (.plain (OpenSpec.upto elaborateDoesSpec)) elaborateDoesUptoCard

/-- THE SECOND FORM's CARD OF 'proofprogramslaw36.SimplifyShorter'. -/
def simplifyShorterUptoCard : Claim7 := { stood := { row := simplifyShorterUptoRow, standIns := [], harness := (true, "b9bd7cb05c48b02301b4af0a5955b210a3421a1934e646202b6e2d3bb8004561"), looks := false }, kinds := [], alts := [], laidByText := true, laidKinds := [.data], laidTests := true, laidLooks := .later }
def SimplifyShorterUptoCardSaid : Prop := Claim7.holds Tryz.pinned (.plain (OpenSpec.upto simplifyShorterSpec)) simplifyShorterUptoCard
end Rows
end Go.Proofs.YthenpnfgkgglcaaGreatDoor
