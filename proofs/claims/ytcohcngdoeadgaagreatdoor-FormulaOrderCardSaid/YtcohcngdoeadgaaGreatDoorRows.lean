/-
  NARROWER THAN 'FOR EVERY INPUT', by the rows' own cells (each row's printed sentence says how): FormulaMatches: loops, laid · FormulaOrder: laid.
  DERIVED. THE GIVEN ROWS OF THIS SEAT. 2 by the template 'for every input the law returns true; each argument reads behind the call as it read before'; 0 by the template 'total and deterministic' (their statements: YtcohcngdoeadgaaGreatDoorTotals.lean).
  GIVEN WITH THE SEED: the statements are not yours to turn. If you find one false, say at which input.
  Laid BY PROGRAM, IN A SANDBOX (cutbox-rows.mjs): the forced cells as the released guide's own fill.sh prints them over the translation d7f867a1bb7403bd… (all of the seat's roots in one cut). By AI agents, Wed Nov 11 2026. No macro, syntax, notation, axiom, sorry.
-/
import Derived.Test.YtcohcngdoeadgaaGreatDoorChecked
import GoSem.Claim
import GoSem.ClaimJoined
import GoSem.ClaimMapViews
import Derived.JoinedTies
import Derived.KernelRfl
namespace Go.Proofs.YtcohcngdoeadgaaGreatDoor
/- THE CELL 'sum', in the pinned program and in every row, IS THE sha256 OF THE DUMP (.gsa) THAT YtcohcngdoeadgaaGreatDoorProg.lean LOADS. Nothing in Lean hashes anything: it is a label: what it is worth is what the hold of that sum in a sandbox is worth. -/
noncomputable def Tryz.pinned : Pinned := { name := "ytcohcngdoeadgaagreatdoor", sum := "d7f867a1bb7403bd8a9cd18e8dc386c217ce298ffaa3a1fbde464b2dace4b419", checked := Tryz.checked }
namespace Rows
def none {H : Type} : Left H := { results := [], args := [] }

/- WHAT THE LISTED PACKAGE-LEVEL VARIABLES READ AS WHEN THE CALL BEGINS. Each datum BY PROGRAM (the guide's laid-datum.mjs) off the statement by which the dump's own 'gosem.cut.vars' lays the variable. In a bare row this is a premise. The card (YtcohcngdoeadgaaGreatDoorCards.lean) ties it to the program's text. -/
def laid_proofprograms_tree_arities {H : Type} : DataW H := .agg [.lit (.int .i64 0), .lit (.int .i64 0), .lit (.int .i64 1), .lit (.int .i64 2), .lit (.int .i64 0), .lit (.int .i64 1), .lit (.int .i64 3), .lit (.int .i64 0), .lit (.int .i64 2), .lit (.int .i64 3), .lit (.int .i64 2), .lit (.int .i64 1), .lit (.int .i64 1), .lit (.int .i64 0)]

/-- 'proofprogramslaw07.FormulaMatches': WHATEVER THE INPUT: true; the input reads as it did. -/
def formulaMatchesSpec : ChangeSpec := { name := "formulaMatches", fn := fun _ => fun
  | [d1, d2, d3] => { results := [.lit (.bool true)], args := [d1, d2, d3] }
  | _ => none }
def formulaMatchesRow : OpenClaim := { program := "ytcohcngdoeadgaagreatdoor", sum := "d7f867a1bb7403bd8a9cd18e8dc386c217ce298ffaa3a1fbde464b2dace4b419", func := "proofprograms/proofprogramslaw07.FormulaMatches", spec := "formulaMatches", unfollowed := true, recurses := true, named := ["proofprograms/tree.arities"], loops := true, apart := false, laid := [("proofprograms/tree.arities", laid_proofprograms_tree_arities)] }
def FormulaMatchesSaid : Prop := formulaMatchesRow.holds Tryz.pinned (OpenSpec.ofChange formulaMatchesSpec)

/-- ITS FALSE NEIGHBOUR: 'it returns false'. Refute it at one input. -/
def formulaMatchesWrong : ChangeSpec := { name := "formulaMatches", fn := fun _ => fun
  | [d1, d2, d3] => { results := [.lit (.bool false)], args := [d1, d2, d3] }
  | _ => none }
def FormulaMatchesWrongFalsely : Prop := formulaMatchesRow.holds Tryz.pinned (OpenSpec.ofChange formulaMatchesWrong)

/-- 'proofprogramslaw07.FormulaOrder': WHATEVER THE INPUT: true; the input reads as it did. -/
def formulaOrderSpec : ChangeSpec := { name := "formulaOrder", fn := fun _ => fun
  | [d] => { results := [.lit (.bool true)], args := [d] }
  | _ => none }
def formulaOrderRow : OpenClaim := { program := "ytcohcngdoeadgaagreatdoor", sum := "d7f867a1bb7403bd8a9cd18e8dc386c217ce298ffaa3a1fbde464b2dace4b419", func := "proofprograms/proofprogramslaw07.FormulaOrder", spec := "formulaOrder", unfollowed := true, recurses := true, named := ["proofprograms/tree.arities"], apart := false, laid := [("proofprograms/tree.arities", laid_proofprograms_tree_arities)] }
def FormulaOrderSaid : Prop := formulaOrderRow.holds Tryz.pinned (OpenSpec.ofChange formulaOrderSpec)

/-- ITS FALSE NEIGHBOUR: 'it returns false'. Refute it at one input. -/
def formulaOrderWrong : ChangeSpec := { name := "formulaOrder", fn := fun _ => fun
  | [d] => { results := [.lit (.bool false)], args := [d] }
  | _ => none }
def FormulaOrderWrongFalsely : Prop := formulaOrderRow.holds Tryz.pinned (OpenSpec.ofChange formulaOrderWrong)

/- THE SECOND FORM. 'bulk': how many values and letters a reading holds, each counted each time it is reached (what is shared counts as often as it is met; a slice's spare places count too). A statement '..UptoSaid' is the law's where the arguments, and the package variables that the reading takes, are together of bulk at most 1048576: NARROWER than '..Said'. Prove '..Said' where nothing that the law and all that it calls make is longer than what came in: it says more and counts as full. Else prove '..UptoSaid'. A law counts once. -/
mutual
def uptoBulk {H : Type} : DataW H → Nat
  | .lit (.string bytes) => bytes.length + 1
  | .lit _ => 1
  | .nil => 1
  | .ptr d => uptoBulk d + 1
  | .slice elems spare => uptoBulkAll elems + uptoBulkAll spare + 1
  | .agg parts => uptoBulkAll parts + 1
  | .iface _ d => uptoBulk d + 1
  | .map entries => uptoBulkEntries entries + 1
  | .held _ => 1
def uptoBulkAll {H : Type} : List (DataW H) → Nat
  | [] => 0
  | d :: r => uptoBulk d + uptoBulkAll r
def uptoBulkEntries {H : Type} : List (Lit × DataW H) → Nat
  | [] => 0
  | x :: r => uptoBulkEntry x + uptoBulkEntries r
def uptoBulkEntry {H : Type} : Lit × DataW H → Nat
  | (.string bytes, d) => bytes.length + uptoBulk d + 1
  | (_, d) => uptoBulk d + 1
 end
def uptoSmall : (H : Type) → List (DataW H) → Bool := fun _ ds => decide (uptoBulkAll ds ≤ 1048576)
def OpenSpec.upto (s : _root_.Go.ChangeSpec) : _root_.Go.OpenSpec := { _root_.Go.OpenSpec.ofChange s with cond := some uptoSmall }

/-- 'proofprogramslaw07.FormulaMatches', WHERE WHAT IT READS IS OF BULK AT MOST 1048576: true; the input reads as it did. -/
def formulaMatchesUptoRow : OpenClaim := { program := "ytcohcngdoeadgaagreatdoor", sum := "d7f867a1bb7403bd8a9cd18e8dc386c217ce298ffaa3a1fbde464b2dace4b419", func := "proofprograms/proofprogramslaw07.FormulaMatches", spec := "formulaMatches", unfollowed := true, recurses := true, named := ["proofprograms/tree.arities"], loops := true, apart := false, laid := [("proofprograms/tree.arities", laid_proofprograms_tree_arities)], narrowed := true }
def FormulaMatchesUptoSaid : Prop := formulaMatchesUptoRow.holds Tryz.pinned (OpenSpec.upto formulaMatchesSpec)

/-- 'proofprogramslaw07.FormulaOrder', WHERE WHAT IT READS IS OF BULK AT MOST 1048576: true; the input reads as it did. -/
def formulaOrderUptoRow : OpenClaim := { program := "ytcohcngdoeadgaagreatdoor", sum := "d7f867a1bb7403bd8a9cd18e8dc386c217ce298ffaa3a1fbde464b2dace4b419", func := "proofprograms/proofprogramslaw07.FormulaOrder", spec := "formulaOrder", unfollowed := true, recurses := true, named := ["proofprograms/tree.arities"], apart := false, laid := [("proofprograms/tree.arities", laid_proofprograms_tree_arities)], narrowed := true }
def FormulaOrderUptoSaid : Prop := formulaOrderUptoRow.holds Tryz.pinned (OpenSpec.upto formulaOrderSpec)

end Rows
end Go.Proofs.YtcohcngdoeadgaaGreatDoor
