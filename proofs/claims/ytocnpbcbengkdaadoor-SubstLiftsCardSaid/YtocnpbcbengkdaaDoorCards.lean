/-
  DERIVED. GIVEN WITH THE SEED: THE CARDS: each row of YtocnpbcbengkdaaDoorRows.lean that lists a variable, with what it lists TIED to the program's text (the seventh form; the later family's looks); each row that meets fmt, with fmt's text TOLD by the authors' own Lean function (tested against real Go, not proved from fmt's source: count such statements apart). THE CARD IS WHAT COUNTS. Prove the row's statement (the work); the ties are given (YtocnpbcbengkdaaDoorTie.lean); close each card by the builder's one call (the guide's Derived/Test/ToyasCard.lean, 'card_holds'). Laid BY PROGRAM, IN A SANDBOX (cutbox-door.mjs). By AI agents, Wed Nov 11 2026. No macro, syntax, notation, axiom, sorry.
-/
import Derived.Test.YtocnpbcbengkdaaDoorRows
import GoSem.ClaimSeven
namespace Go.Proofs.YtocnpbcbengkdaaDoor
namespace Rows

/-- THE TIED CARD OF 'proofprogramslaw02.TermsDoes'. -/
def termsDoesCard : Claim7 := { stood := { row := termsDoesRow, standIns := [], harness := (true, "6a57295edd68f264630ecdddfff75aa01ec5e44b58d5111844902d6159e27983"), looks := false }, kinds := [], alts := [], laidByText := true, laidKinds := [.data], laidTests := true, laidLooks := .later }
def TermsDoesCardSaid : Prop := Claim7.holds Tryd.pinned (.plain (OpenSpec.ofChange termsDoesSpec)) termsDoesCard

/-- THE TIED CARD OF 'proofprogramslaw03.SubstSizes'. -/
def substSizesCard : Claim7 := { stood := { row := substSizesRow, standIns := [], harness := (true, "6a57295edd68f264630ecdddfff75aa01ec5e44b58d5111844902d6159e27983"), looks := false }, kinds := [], alts := [], laidByText := true, laidKinds := [.data], laidTests := true, laidLooks := .later }
def SubstSizesCardSaid : Prop := Claim7.holds Tryd.pinned (.plain (OpenSpec.ofChange substSizesSpec)) substSizesCard

/-- THE TIED CARD OF 'proofprogramslaw03.SubstLifts'. -/
def substLiftsCard : Claim7 := { stood := { row := substLiftsRow, standIns := [], harness := (true, "6a57295edd68f264630ecdddfff75aa01ec5e44b58d5111844902d6159e27983"), looks := false }, kinds := [], alts := [], laidByText := true, laidKinds := [.data], laidTests := true, laidLooks := .later }
def SubstLiftsCardSaid : Prop := Claim7.holds Tryd.pinned (.plain (OpenSpec.ofChange substLiftsSpec)) substLiftsCard

/-- THE SECOND FORM's CARD OF 'proofprogramslaw02.TermsDoes'. -/
def termsDoesUptoCard : Claim7 := { stood := { row := termsDoesUptoRow, standIns := [], harness := (true, "6a57295edd68f264630ecdddfff75aa01ec5e44b58d5111844902d6159e27983"), looks := false }, kinds := [], alts := [], laidByText := true, laidKinds := [.data], laidTests := true, laidLooks := .later }
def TermsDoesUptoCardSaid : Prop := Claim7.holds Tryd.pinned (.plain (OpenSpec.upto termsDoesSpec)) termsDoesUptoCard

/-- THE SECOND FORM's CARD OF 'proofprogramslaw03.SubstSizes'. -/
def substSizesUptoCard : Claim7 := { stood := { row := substSizesUptoRow, standIns := [], harness := (true, "6a57295edd68f264630ecdddfff75aa01ec5e44b58d5111844902d6159e27983"), looks := false }, kinds := [], alts := [], laidByText := true, laidKinds := [.data], laidTests := true, laidLooks := .later }
def SubstSizesUptoCardSaid : Prop := Claim7.holds Tryd.pinned (.plain (OpenSpec.upto substSizesSpec)) substSizesUptoCard

/-- THE SECOND FORM's CARD OF 'proofprogramslaw03.SubstLifts'. -/
def substLiftsUptoCard : Claim7 := { stood := { row := substLiftsUptoRow, standIns := [], harness := (true, "6a57295edd68f264630ecdddfff75aa01ec5e44b58d5111844902d6159e27983"), looks := false }, kinds := [], alts := [], laidByText := true, laidKinds := [.data], laidTests := true, laidLooks := .later }
def SubstLiftsUptoCardSaid : Prop := Claim7.holds Tryd.pinned (.plain (OpenSpec.upto substLiftsSpec)) substLiftsUptoCard
end Rows
end Go.Proofs.YtocnpbcbengkdaaDoor
