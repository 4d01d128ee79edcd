/-
  DERIVED. GIVEN WITH THE SEED: THE CARDS: each row of YtgonpippjmmipaaDoorRows.lean that lists a variable, with what it lists TIED to the program's text (the seventh form; the later family's looks); each row that meets fmt, with fmt's text TOLD by the authors' own Lean function (tested against real Go, not proved from fmt's source: count such statements apart). THE CARD IS WHAT COUNTS. Prove the row's statement (the work); the ties are given (YtgonpippjmmipaaDoorTie.lean); close each card by the builder's one call (the guide's Derived/Test/ToyasCard.lean, 'card_holds'). Laid BY PROGRAM, IN A SANDBOX (cutbox-door.mjs). By AI agents, Wed Nov 11 2026. No macro, syntax, notation, axiom, sorry.
-/
import Derived.Test.YtgonpippjmmipaaDoorRows
import GoSem.ClaimSeven
namespace Go.Proofs.YtgonpippjmmipaaDoor
namespace Rows

/-- THE TIED CARD OF 'proofprogramslaw03.SubstTypes'. -/
def substTypesCard : Claim7 := { stood := { row := substTypesRow, standIns := [], harness := (true, "4eccbe0597a7099bccf09d07cf0e08e9fd1daf2473a8111409ecf51e59d70371"), looks := false }, kinds := [], alts := [], laidByText := true, laidKinds := [.data], laidTests := true, laidLooks := .later }
def SubstTypesCardSaid : Prop := Claim7.holds Tryd.pinned (.plain (OpenSpec.ofChange substTypesSpec)) substTypesCard

/-- THE TIED CARD OF 'proofprogramslaw02.TermsTypes'. -/
def termsTypesCard : Claim7 := { stood := { row := termsTypesRow, standIns := [], harness := (true, "4eccbe0597a7099bccf09d07cf0e08e9fd1daf2473a8111409ecf51e59d70371"), looks := false }, kinds := [], alts := [], laidByText := true, laidKinds := [.data], laidTests := true, laidLooks := .later }
def TermsTypesCardSaid : Prop := Claim7.holds Tryd.pinned (.plain (OpenSpec.ofChange termsTypesSpec)) termsTypesCard

/-- THE TIED CARD OF 'proofprogramslaw02.TermsRefused'. -/
def termsRefusedCard : Claim7 := { stood := { row := termsRefusedRow, standIns := [], harness := (true, "4eccbe0597a7099bccf09d07cf0e08e9fd1daf2473a8111409ecf51e59d70371"), looks := false }, kinds := [], alts := [], laidByText := true, laidKinds := [.data], laidTests := true, laidLooks := .later }
def TermsRefusedCardSaid : Prop := Claim7.holds Tryd.pinned (.plain (OpenSpec.ofChange termsRefusedSpec)) termsRefusedCard

/-- THE TIED CARD OF 'proofprogramslaw02.TermsSizes'. -/
def termsSizesCard : Claim7 := { stood := { row := termsSizesRow, standIns := [], harness := (true, "4eccbe0597a7099bccf09d07cf0e08e9fd1daf2473a8111409ecf51e59d70371"), looks := false }, kinds := [], alts := [], laidByText := true, laidKinds := [.data], laidTests := true, laidLooks := .later }
def TermsSizesCardSaid : Prop := Claim7.holds Tryd.pinned (.plain (OpenSpec.ofChange termsSizesSpec)) termsSizesCard

/-- THE TIED CARD OF 'proofprogramslaw02.TermsDefaults'. -/
def termsDefaultsCard : Claim7 := { stood := { row := termsDefaultsRow, standIns := [], harness := (true, "4eccbe0597a7099bccf09d07cf0e08e9fd1daf2473a8111409ecf51e59d70371"), looks := false }, kinds := [], alts := [], laidByText := true, laidKinds := [.data], laidTests := true, laidLooks := .later }
def TermsDefaultsCardSaid : Prop := Claim7.holds Tryd.pinned (.plain (OpenSpec.ofChange termsDefaultsSpec)) termsDefaultsCard

/-- THE TIED CARD OF 'proofprogramslaw02.TermsDoes'. -/
def termsDoesCard : Claim7 := { stood := { row := termsDoesRow, standIns := [], harness := (true, "4eccbe0597a7099bccf09d07cf0e08e9fd1daf2473a8111409ecf51e59d70371"), looks := false }, kinds := [], alts := [], laidByText := true, laidKinds := [.data], laidTests := true, laidLooks := .later }
def TermsDoesCardSaid : Prop := Claim7.holds Tryd.pinned (.plain (OpenSpec.ofChange termsDoesSpec)) termsDoesCard

/-- THE SECOND FORM's CARD OF 'proofprogramslaw03.SubstTypes'. -/
def substTypesUptoCard : Claim7 := { stood := { row := substTypesUptoRow, standIns := [], harness := (true, "4eccbe0597a7099bccf09d07cf0e08e9fd1daf2473a8111409ecf51e59d70371"), looks := false }, kinds := [], alts := [], laidByText := true, laidKinds := [.data], laidTests := true, laidLooks := .later }
def SubstTypesUptoCardSaid : Prop := Claim7.holds Tryd.pinned (.plain (OpenSpec.upto substTypesSpec)) substTypesUptoCard

/-- THE SECOND FORM's CARD OF 'proofprogramslaw02.TermsTypes'. -/
def termsTypesUptoCard : Claim7 := { stood := { row := termsTypesUptoRow, standIns := [], harness := (true, "4eccbe0597a7099bccf09d07cf0e08e9fd1daf2473a8111409ecf51e59d70371"), looks := false }, kinds := [], alts := [], laidByText := true, laidKinds := [.data], laidTests := true, laidLooks := .later }
def TermsTypesUptoCardSaid : Prop := Claim7.holds Tryd.pinned (.plain (OpenSpec.upto termsTypesSpec)) termsTypesUptoCard

/-- THE SECOND FORM's CARD OF 'proofprogramslaw02.TermsRefused'. -/
def termsRefusedUptoCard : Claim7 := { stood := { row := termsRefusedUptoRow, standIns := [], harness := (true, "4eccbe0597a7099bccf09d07cf0e08e9fd1daf2473a8111409ecf51e59d70371"), looks := false }, kinds := [], alts := [], laidByText := true, laidKinds := [.data], laidTests := true, laidLooks := .later }
def TermsRefusedUptoCardSaid : Prop := Claim7.holds Tryd.pinned (.plain (OpenSpec.upto termsRefusedSpec)) termsRefusedUptoCard

/-- THE SECOND FORM's CARD OF 'proofprogramslaw02.TermsSizes'. -/
def termsSizesUptoCard : Claim7 := { stood := { row := termsSizesUptoRow, standIns := [], harness := (true, "4eccbe0597a7099bccf09d07cf0e08e9fd1daf2473a8111409ecf51e59d70371"), looks := false }, kinds := [], alts := [], laidByText := true, laidKinds := [.data], laidTests := true, laidLooks := .later }
def TermsSizesUptoCardSaid : Prop := Claim7.holds Tryd.pinned (.plain (OpenSpec.upto termsSizesSpec)) termsSizesUptoCard

/-- THE SECOND FORM's CARD OF 'proofprogramslaw02.TermsDefaults'. -/
def termsDefaultsUptoCard : Claim7 := { stood := { row := termsDefaultsUptoRow, standIns := [], harness := (true, "4eccbe0597a7099bccf09d07cf0e08e9fd1daf2473a8111409ecf51e59d70371"), looks := false }, kinds := [], alts := [], laidByText := true, laidKinds := [.data], laidTests := true, laidLooks := .later }
def TermsDefaultsUptoCardSaid : Prop := Claim7.holds Tryd.pinned (.plain (OpenSpec.upto termsDefaultsSpec)) termsDefaultsUptoCard

/-- THE SECOND FORM's CARD OF 'proofprogramslaw02.TermsDoes'. -/
def termsDoesUptoCard : Claim7 := { stood := { row := termsDoesUptoRow, standIns := [], harness := (true, "4eccbe0597a7099bccf09d07cf0e08e9fd1daf2473a8111409ecf51e59d70371"), looks := false }, kinds := [], alts := [], laidByText := true, laidKinds := [.data], laidTests := true, laidLooks := .later }
def TermsDoesUptoCardSaid : Prop := Claim7.holds Tryd.pinned (.plain (OpenSpec.upto termsDoesSpec)) termsDoesUptoCard
end Rows
end Go.Proofs.YtgonpippjmmipaaDoor
