/-
  DERIVED. GIVEN WITH THE SEED: THE CARDS: each row of YthlkampfjlkniaaGreatDoorRows.lean that lists a variable, with what it lists TIED to the program's text (the seventh form; the later family's looks); each row that meets fmt, with fmt's text TOLD by the authors' own Lean function (tested against real Go, not proved from fmt's source: count such statements apart). THE CARD IS WHAT COUNTS. Prove the row's statement (the work); the ties are given (YthlkampfjlkniaaGreatDoorTie.lean); close each card by the builder's one call (the guide's Derived/Test/ToyasCard.lean, 'card_holds'). Laid BY PROGRAM, IN A SANDBOX (cutbox-door.mjs). By AI agents, Wed Nov 11 2026. No macro, syntax, notation, axiom, sorry.
-/
import Derived.Test.YthlkampfjlkniaaGreatDoorRows
import GoSem.ClaimSeven
namespace Go.Proofs.YthlkampfjlkniaaGreatDoor
namespace Rows

/-- THE TIED CARD OF 'proofprogramslaw12.DeriveFalse'. -/
def deriveFalseCard : Claim7 := { stood := { row := deriveFalseRow, standIns := [], harness := (true, "5d042460c1aafbb44b3ac00403caafb2d08c31edd5743cbf66546627bafeee94"), looks := true }, kinds := [], alts := [], laidByText := true, laidKinds := [.data, .data], laidTests := true, laidLooks := .later }
def DeriveFalseCardSaid : Prop := Claim7.holds Tryz.pinned (.plain (OpenSpec.ofChange deriveFalseSpec)) deriveFalseCard

/-- THE TIED CARD OF 'proofprogramslaw12.DeriveOr'. -/
def deriveOrCard : Claim7 := { stood := { row := deriveOrRow, standIns := [], harness := (true, "5d042460c1aafbb44b3ac00403caafb2d08c31edd5743cbf66546627bafeee94"), looks := true }, kinds := [], alts := [], laidByText := true, laidKinds := [.data, .data], laidTests := true, laidLooks := .later }
def DeriveOrCardSaid : Prop := Claim7.holds Tryz.pinned (.plain (OpenSpec.ofChange deriveOrSpec)) deriveOrCard

/-- THE TIED CARD OF 'proofprogramslaw12.DeriveEquality'. -/
def deriveEqualityCard : Claim7 := { stood := { row := deriveEqualityRow, standIns := [], harness := (true, "5d042460c1aafbb44b3ac00403caafb2d08c31edd5743cbf66546627bafeee94"), looks := true }, kinds := [], alts := [], laidByText := true, laidKinds := [.data, .data], laidTests := true, laidLooks := .later }
def DeriveEqualityCardSaid : Prop := Claim7.holds Tryz.pinned (.plain (OpenSpec.ofChange deriveEqualitySpec)) deriveEqualityCard

/-- THE SECOND FORM's CARD OF 'proofprogramslaw12.DeriveFalse'. -/
def deriveFalseUptoCard : Claim7 := { stood := { row := deriveFalseUptoRow, standIns := [], harness := (true, "5d042460c1aafbb44b3ac00403caafb2d08c31edd5743cbf66546627bafeee94"), looks := true }, kinds := [], alts := [], laidByText := true, laidKinds := [.data, .data], laidTests := true, laidLooks := .later }
def DeriveFalseUptoCardSaid : Prop := Claim7.holds Tryz.pinned (.plain (OpenSpec.upto deriveFalseSpec)) deriveFalseUptoCard

/-- THE SECOND FORM's CARD OF 'proofprogramslaw12.DeriveOr'. -/
def deriveOrUptoCard : Claim7 := { stood := { row := deriveOrUptoRow, standIns := [], harness := (true, "5d042460c1aafbb44b3ac00403caafb2d08c31edd5743cbf66546627bafeee94"), looks := true }, kinds := [], alts := [], laidByText := true, laidKinds := [.data, .data], laidTests := true, laidLooks := .later }
def DeriveOrUptoCardSaid : Prop := Claim7.holds Tryz.pinned (.plain (OpenSpec.upto deriveOrSpec)) deriveOrUptoCard

/-- THE SECOND FORM's CARD OF 'proofprogramslaw12.DeriveEquality'. -/
def deriveEqualityUptoCard : Claim7 := { stood := { row := deriveEqualityUptoRow, standIns := [], harness := (true, "5d042460c1aafbb44b3ac00403caafb2d08c31edd5743cbf66546627bafeee94"), looks := true }, kinds := [], alts := [], laidByText := true, laidKinds := [.data, .data], laidTests := true, laidLooks := .later }
def DeriveEqualityUptoCardSaid : Prop := Claim7.holds Tryz.pinned (.plain (OpenSpec.upto deriveEqualitySpec)) deriveEqualityUptoCard
end Rows
end Go.Proofs.YthlkampfjlkniaaGreatDoor
