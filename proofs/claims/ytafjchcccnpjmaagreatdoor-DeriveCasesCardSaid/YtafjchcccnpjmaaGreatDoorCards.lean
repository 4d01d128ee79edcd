/-
  DERIVED. GIVEN WITH THE SEED: THE CARDS: each row of YtafjchcccnpjmaaGreatDoorRows.lean that lists a variable, with what it lists TIED to the program's text (the seventh form; the later family's looks); each row that meets fmt, with fmt's text TOLD by the authors' own Lean function (tested against real Go, not proved from fmt's source: count such statements apart). THE CARD IS WHAT COUNTS. Prove the row's statement (the work); the ties are given (YtafjchcccnpjmaaGreatDoorTie.lean); close each card by the builder's one call (the guide's Derived/Test/ToyasCard.lean, 'card_holds'). Laid BY PROGRAM, IN A SANDBOX (cutbox-door.mjs). By AI agents, Wed Nov 11 2026. No macro, syntax, notation, axiom, sorry.
-/
import Derived.Test.YtafjchcccnpjmaaGreatDoorRows
import GoSem.ClaimSeven
namespace Go.Proofs.YtafjchcccnpjmaaGreatDoor
namespace Rows

/-- THE TIED CARD OF 'proofprogramslaw12.DeriveEquations'. -/
def deriveEquationsCard : Claim7 := { stood := { row := deriveEquationsRow, standIns := [], harness := (true, "32cdb10dc6656e10a32ad318e2a73a407da7b96832794a470cb2d1fb9cabd595"), looks := true }, kinds := [], alts := [], laidByText := true, laidKinds := [.data, .data], laidTests := true, laidLooks := .later }
def DeriveEquationsCardSaid : Prop := Claim7.holds Tryz.pinned (.plain (OpenSpec.ofChange deriveEquationsSpec)) deriveEquationsCard

/-- THE TIED CARD OF 'proofprogramslaw12.DeriveNumbers'. -/
def deriveNumbersCard : Claim7 := { stood := { row := deriveNumbersRow, standIns := [], harness := (true, "32cdb10dc6656e10a32ad318e2a73a407da7b96832794a470cb2d1fb9cabd595"), looks := true }, kinds := [], alts := [], laidByText := true, laidKinds := [.data, .data], laidTests := true, laidLooks := .later }
def DeriveNumbersCardSaid : Prop := Claim7.holds Tryz.pinned (.plain (OpenSpec.ofChange deriveNumbersSpec)) deriveNumbersCard

/-- THE TIED CARD OF 'proofprogramslaw12.DeriveCases'. -/
def deriveCasesCard : Claim7 := { stood := { row := deriveCasesRow, standIns := [], harness := (true, "32cdb10dc6656e10a32ad318e2a73a407da7b96832794a470cb2d1fb9cabd595"), looks := true }, kinds := [], alts := [], laidByText := true, laidKinds := [.data, .data], laidTests := true, laidLooks := .later }
def DeriveCasesCardSaid : Prop := Claim7.holds Tryz.pinned (.plain (OpenSpec.ofChange deriveCasesSpec)) deriveCasesCard

/-- THE SECOND FORM's CARD OF 'proofprogramslaw12.DeriveEquations'. -/
def deriveEquationsUptoCard : Claim7 := { stood := { row := deriveEquationsUptoRow, standIns := [], harness := (true, "32cdb10dc6656e10a32ad318e2a73a407da7b96832794a470cb2d1fb9cabd595"), looks := true }, kinds := [], alts := [], laidByText := true, laidKinds := [.data, .data], laidTests := true, laidLooks := .later }
def DeriveEquationsUptoCardSaid : Prop := Claim7.holds Tryz.pinned (.plain (OpenSpec.upto deriveEquationsSpec)) deriveEquationsUptoCard

/-- THE SECOND FORM's CARD OF 'proofprogramslaw12.DeriveNumbers'. -/
def deriveNumbersUptoCard : Claim7 := { stood := { row := deriveNumbersUptoRow, standIns := [], harness := (true, "32cdb10dc6656e10a32ad318e2a73a407da7b96832794a470cb2d1fb9cabd595"), looks := true }, kinds := [], alts := [], laidByText := true, laidKinds := [.data, .data], laidTests := true, laidLooks := .later }
def DeriveNumbersUptoCardSaid : Prop := Claim7.holds Tryz.pinned (.plain (OpenSpec.upto deriveNumbersSpec)) deriveNumbersUptoCard

/-- THE SECOND FORM's CARD OF 'proofprogramslaw12.DeriveCases'. -/
def deriveCasesUptoCard : Claim7 := { stood := { row := deriveCasesUptoRow, standIns := [], harness := (true, "32cdb10dc6656e10a32ad318e2a73a407da7b96832794a470cb2d1fb9cabd595"), looks := true }, kinds := [], alts := [], laidByText := true, laidKinds := [.data, .data], laidTests := true, laidLooks := .later }
def DeriveCasesUptoCardSaid : Prop := Claim7.holds Tryz.pinned (.plain (OpenSpec.upto deriveCasesSpec)) deriveCasesUptoCard
end Rows
end Go.Proofs.YtafjchcccnpjmaaGreatDoor
