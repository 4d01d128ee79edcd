/-
  DERIVED. GIVEN WITH THE SEED: THE CARDS: each row of YteenjilpjblgeaaGreatDoorRows.lean that lists a variable, with what it lists TIED to the program's text (the seventh form; the later family's looks); each row that meets fmt, with fmt's text TOLD by the authors' own Lean function (tested against real Go, not proved from fmt's source: count such statements apart). THE CARD IS WHAT COUNTS. Prove the row's statement (the work); the ties are given (YteenjilpjblgeaaGreatDoorTie.lean); close each card by the builder's one call (the guide's Derived/Test/ToyasCard.lean, 'card_holds'). Laid BY PROGRAM, IN A SANDBOX (cutbox-door.mjs). By AI agents, Wed Nov 11 2026. No macro, syntax, notation, axiom, sorry.
-/
import Derived.Test.YteenjilpjblgeaaGreatDoorRows
import GoSem.ClaimSeven
namespace Go.Proofs.YteenjilpjblgeaaGreatDoor
namespace Rows

/-- THE TIED CARD OF 'proofprogramslaw12.DeriveEquality'. -/
def deriveEqualityCard : Claim7 := { stood := { row := deriveEqualityRow, standIns := [], harness := (true, "f37a174f95bda1adb09d26273a02e400ee9f4088aab95fb28b34515500708dde"), looks := true }, kinds := [], alts := [], laidByText := true, laidKinds := [.data, .data], laidTests := true, laidLooks := .later }
def DeriveEqualityCardSaid : Prop := Claim7.holds Tryz.pinned (.plain (OpenSpec.ofChange deriveEqualitySpec)) deriveEqualityCard

/-- THE TIED CARD OF 'proofprogramslaw12.DeriveErrors'. -/
def deriveErrorsCard : Claim7 := { stood := { row := deriveErrorsRow, standIns := [], harness := (true, "f37a174f95bda1adb09d26273a02e400ee9f4088aab95fb28b34515500708dde"), looks := true }, kinds := [], alts := [], laidByText := true, laidKinds := [.data, .data], laidTests := true, laidLooks := .later }
def DeriveErrorsCardSaid : Prop := Claim7.holds Tryz.pinned (.plain (OpenSpec.ofChange deriveErrorsSpec)) deriveErrorsCard

/-- THE SECOND FORM's CARD OF 'proofprogramslaw12.DeriveEquality'. -/
def deriveEqualityUptoCard : Claim7 := { stood := { row := deriveEqualityUptoRow, standIns := [], harness := (true, "f37a174f95bda1adb09d26273a02e400ee9f4088aab95fb28b34515500708dde"), looks := true }, kinds := [], alts := [], laidByText := true, laidKinds := [.data, .data], laidTests := true, laidLooks := .later }
def DeriveEqualityUptoCardSaid : Prop := Claim7.holds Tryz.pinned (.plain (OpenSpec.upto deriveEqualitySpec)) deriveEqualityUptoCard

/-- THE SECOND FORM's CARD OF 'proofprogramslaw12.DeriveErrors'. -/
def deriveErrorsUptoCard : Claim7 := { stood := { row := deriveErrorsUptoRow, standIns := [], harness := (true, "f37a174f95bda1adb09d26273a02e400ee9f4088aab95fb28b34515500708dde"), looks := true }, kinds := [], alts := [], laidByText := true, laidKinds := [.data, .data], laidTests := true, laidLooks := .later }
def DeriveErrorsUptoCardSaid : Prop := Claim7.holds Tryz.pinned (.plain (OpenSpec.upto deriveErrorsSpec)) deriveErrorsUptoCard
end Rows
end Go.Proofs.YteenjilpjblgeaaGreatDoor
