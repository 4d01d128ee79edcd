/-
  DERIVED. GIVEN WITH THE SEED: THE CARDS: each row of YtecbeopjdkdboaaDoorRows.lean that lists a variable, with what it lists TIED to the program's text (the seventh form; the later family's looks); each row that meets fmt, with fmt's text TOLD by the authors' own Lean function (tested against real Go, not proved from fmt's source: count such statements apart). THE CARD IS WHAT COUNTS. Prove the row's statement (the work); the ties are given (YtecbeopjdkdboaaDoorTie.lean); close each card by the builder's one call (the guide's Derived/Test/ToyasCard.lean, 'card_holds'). Laid BY PROGRAM, IN A SANDBOX (cutbox-door.mjs). By AI agents, Wed Nov 11 2026. No macro, syntax, notation, axiom, sorry.
-/
import Derived.Test.YtecbeopjdkdboaaDoorRows
import GoSem.ClaimSeven
namespace Go.Proofs.YtecbeopjdkdboaaDoor
namespace Rows

/-- THE TIED CARD OF 'proofprogramslaw02.TermsDoes'. -/
def termsDoesCard : Claim7 := { stood := { row := termsDoesRow, standIns := [], harness := (true, "d50dd329b939ce0055ef22d47cb0452b91a8eea7d13d0f0b8597c9e25059c7d9"), looks := false }, kinds := [], alts := [], laidByText := true, laidKinds := [.data], laidTests := true, laidLooks := .later }
def TermsDoesCardSaid : Prop := Claim7.holds Tryd.pinned (.plain (OpenSpec.ofChange termsDoesSpec)) termsDoesCard

/-- THE SECOND FORM's CARD OF 'proofprogramslaw02.TermsDoes'. -/
def termsDoesUptoCard : Claim7 := { stood := { row := termsDoesUptoRow, standIns := [], harness := (true, "d50dd329b939ce0055ef22d47cb0452b91a8eea7d13d0f0b8597c9e25059c7d9"), looks := false }, kinds := [], alts := [], laidByText := true, laidKinds := [.data], laidTests := true, laidLooks := .later }
def TermsDoesUptoCardSaid : Prop := Claim7.holds Tryd.pinned (.plain (OpenSpec.upto termsDoesSpec)) termsDoesUptoCard
end Rows
end Go.Proofs.YtecbeopjdkdboaaDoor
