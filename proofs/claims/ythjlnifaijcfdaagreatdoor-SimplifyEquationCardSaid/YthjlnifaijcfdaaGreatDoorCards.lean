/-
  DERIVED. GIVEN WITH THE SEED: THE CARDS: each row of YthjlnifaijcfdaaGreatDoorRows.lean that lists a variable, with what it lists TIED to the program's text (the seventh form; the later family's looks); each row that meets fmt, with fmt's text TOLD by the authors' own Lean function (tested against real Go, not proved from fmt's source: count such statements apart). THE CARD IS WHAT COUNTS. Prove the row's statement (the work); the ties are given (YthjlnifaijcfdaaGreatDoorTie.lean); close each card by the builder's one call (the guide's Derived/Test/ToyasCard.lean, 'card_holds'). Laid BY PROGRAM, IN A SANDBOX (cutbox-door.mjs). By AI agents, Wed Nov 11 2026. No macro, syntax, notation, axiom, sorry.
-/
import Derived.Test.YthjlnifaijcfdaaGreatDoorRows
import GoSem.ClaimSeven
namespace Go.Proofs.YthjlnifaijcfdaaGreatDoor
namespace Rows

/-- THE TIED CARD OF 'proofprogramslaw36.SimplifyNormal'. -/
def simplifyNormalCard : Claim7 := { stood := { row := simplifyNormalRow, standIns := [], harness := (true, "29abb51ef3133d12216073efce66a812c59bb4fd2191b3d87a46f773e9160da0"), looks := false }, kinds := [], alts := [], laidByText := true, laidKinds := [.data], laidTests := true, laidLooks := .later }
def SimplifyNormalCardSaid : Prop := Claim7.holds Tryz.pinned (.plain (OpenSpec.ofChange simplifyNormalSpec)) simplifyNormalCard

/-- THE TIED CARD OF 'proofprogramslaw36.SimplifyEquation'. -/
def simplifyEquationCard : Claim7 := { stood := { row := simplifyEquationRow, standIns := [], harness := (true, "29abb51ef3133d12216073efce66a812c59bb4fd2191b3d87a46f773e9160da0"), looks := false }, kinds := [], alts := [], laidByText := true, laidKinds := [.data], laidTests := true, laidLooks := .later }
def SimplifyEquationCardSaid : Prop := Claim7.holds Tryz.pinned (.plain (OpenSpec.ofChange simplifyEquationSpec)) simplifyEquationCard

/-- THE SECOND FORM's CARD OF 'proofprogramslaw36.SimplifyNormal'. -/
def simplifyNormalUptoCard : Claim7 := { stood := { row := simplifyNormalUptoRow, standIns := [], harness := (true, "29abb51ef3133d12216073efce66a812c59bb4fd2191b3d87a46f773e9160da0"), looks := false }, kinds := [], alts := [], laidByText := true, laidKinds := [.data], laidTests := true, laidLooks := .later }
def SimplifyNormalUptoCardSaid : Prop := Claim7.holds Tryz.pinned (.plain (OpenSpec.upto simplifyNormalSpec)) simplifyNormalUptoCard

/-- THE SECOND FORM's CARD OF 'proofprogramslaw36.SimplifyEquation'. -/
def simplifyEquationUptoCard : Claim7 := { stood := { row := simplifyEquationUptoRow, standIns := [], harness := (true, "29abb51ef3133d12216073efce66a812c59bb4fd2191b3d87a46f773e9160da0"), looks := false }, kinds := [], alts := [], laidByText := true, laidKinds := [.data], laidTests := true, laidLooks := .later }
def SimplifyEquationUptoCardSaid : Prop := Claim7.holds Tryz.pinned (.plain (OpenSpec.upto simplifyEquationSpec)) simplifyEquationUptoCard
end Rows
end Go.Proofs.YthjlnifaijcfdaaGreatDoor
