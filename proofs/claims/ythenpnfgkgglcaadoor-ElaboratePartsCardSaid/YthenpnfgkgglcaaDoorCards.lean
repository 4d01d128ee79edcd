/-
  DERIVED. GIVEN WITH THE SEED: THE CARDS: each row of YthenpnfgkgglcaaDoorRows.lean that lists a variable, with what it lists TIED to the program's text (the seventh form; the later family's looks); each row that meets fmt, with fmt's text TOLD by the authors' own Lean function (tested against real Go, not proved from fmt's source: count such statements apart). THE CARD IS WHAT COUNTS. Prove the row's statement (the work); the ties are given (YthenpnfgkgglcaaDoorTie.lean); close each card by the builder's one call (the guide's Derived/Test/ToyasCard.lean, 'card_holds'). Laid BY PROGRAM, IN A SANDBOX (cutbox-door.mjs). By AI agents, Wed Nov 11 2026. No macro, syntax, notation, axiom, sorry.
-/
import Derived.Test.YthenpnfgkgglcaaDoorRows
import GoSem.ClaimSeven
namespace Go.Proofs.YthenpnfgkgglcaaDoor
namespace Rows

/-- THE TIED CARD OF 'proofprogramslaw18.ElaborateParts'. -/
def elaboratePartsCard : Claim7 := { stood := { row := elaboratePartsRow, standIns := [], harness := (true, "618dd828d06f86346c766c7dcca63d0fb3b9c265a8516d148c6bbd7fb040519c"), looks := false }, kinds := [], alts := [], laidByText := true, laidKinds := [.data], laidTests := true, laidLooks := .later }
def ElaboratePartsCardSaid : Prop := Claim7.holds Tryd.pinned (.plain (OpenSpec.ofChange elaboratePartsSpec)) elaboratePartsCard

/-- THE TIED CARD OF 'proofprogramslaw36.SimplifyPairs'. -/
def simplifyPairsCard : Claim7 := { stood := { row := simplifyPairsRow, standIns := [], harness := (true, "618dd828d06f86346c766c7dcca63d0fb3b9c265a8516d148c6bbd7fb040519c"), looks := false }, kinds := [], alts := [], laidByText := true, laidKinds := [.data], laidTests := true, laidLooks := .later }
def SimplifyPairsCardSaid : Prop := Claim7.holds Tryd.pinned (.plain (OpenSpec.ofChange simplifyPairsSpec)) simplifyPairsCard

/-- THE SECOND FORM's CARD OF 'proofprogramslaw18.ElaborateParts'. -/
def elaboratePartsUptoCard : Claim7 := { stood := { row := elaboratePartsUptoRow, standIns := [], harness := (true, "618dd828d06f86346c766c7dcca63d0fb3b9c265a8516d148c6bbd7fb040519c"), looks := false }, kinds := [], alts := [], laidByText := true, laidKinds := [.data], laidTests := true, laidLooks := .later }
def ElaboratePartsUptoCardSaid : Prop := Claim7.holds Tryd.pinned (.plain (OpenSpec.upto elaboratePartsSpec)) elaboratePartsUptoCard

/-- THE SECOND FORM's CARD OF 'proofprogramslaw36.SimplifyPairs'. -/
def simplifyPairsUptoCard : Claim7 := { stood := { row := simplifyPairsUptoRow, standIns := [], harness := (true, "618dd828d06f86346c766c7dcca63d0fb3b9c265a8516d148c6bbd7fb040519c"), looks := false }, kinds := [], alts := [], laidByText := true, laidKinds := [.data], laidTests := true, laidLooks := .later }
def SimplifyPairsUptoCardSaid : Prop := Claim7.holds Tryd.pinned (.plain (OpenSpec.upto simplifyPairsSpec)) simplifyPairsUptoCard
end Rows
end Go.Proofs.YthenpnfgkgglcaaDoor
