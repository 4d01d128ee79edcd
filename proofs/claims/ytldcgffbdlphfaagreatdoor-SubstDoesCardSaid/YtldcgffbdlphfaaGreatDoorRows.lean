/-
  NARROWER THAN 'FOR EVERY INPUT', by the rows' own cells (each row's printed sentence says how): SubstDoes: loops, laid · FormulaLifts: laid · FormulaDoes: loops, laid.
  DERIVED. THE GIVEN ROWS OF THIS SEAT. 3 by the template 'for every input the law returns true; each argument reads behind the call as it read before'; 0 by the template 'total and deterministic' (their statements: YtldcgffbdlphfaaGreatDoorTotals.lean).
  GIVEN WITH THE SEED: the statements are not yours to turn. If you find one false, say at which input.
  Laid BY PROGRAM, IN A SANDBOX (cutbox-rows.mjs): the forced cells as the released guide's own fill.sh prints them over the translation b55d601cb9de671f… (all of the seat's roots in one cut). By AI agents, Wed Nov 11 2026. No macro, syntax, notation, axiom, sorry.
-/
import Derived.Test.YtldcgffbdlphfaaGreatDoorChecked
import GoSem.Claim
import GoSem.ClaimJoined
import GoSem.ClaimMapViews
import Derived.JoinedTies
import Derived.KernelRfl
namespace Go.Proofs.YtldcgffbdlphfaaGreatDoor
/- THE CELL 'sum', in the pinned program and in every row, IS THE sha256 OF THE DUMP (.gsa) THAT YtldcgffbdlphfaaGreatDoorProg.lean LOADS. Nothing in Lean hashes anything: it is a label: what it is worth is what the hold of that sum in a sandbox is worth. -/
noncomputable def Tryz.pinned : Pinned := { name := "ytldcgffbdlphfaagreatdoor", sum := "b55d601cb9de671f640237bbfcff81d465b36cfaf2875aa2bf578bbc6fc476c6", checked := Tryz.checked }
namespace Rows
def none {H : Type} : Left H := { results := [], args := [] }

/- WHAT THE LISTED PACKAGE-LEVEL VARIABLES READ AS WHEN THE CALL BEGINS. Each datum BY PROGRAM (the guide's laid-datum.mjs) off the statement by which the dump's own 'gosem.cut.vars' lays the variable. In a bare row this is a premise. The card (YtldcgffbdlphfaaGreatDoorCards.lean) ties it to the program's text. -/
def laid_proofprograms_tree_arities {H : Type} : DataW H := .agg [.lit (.int .i64 0), .lit (.int .i64 0), .lit (.int .i64 1), .lit (.int .i64 2), .lit (.int .i64 0), .lit (.int .i64 1), .lit (.int .i64 3), .lit (.int .i64 0), .lit (.int .i64 2), .lit (.int .i64 3), .lit (.int .i64 2), .lit (.int .i64 1), .lit (.int .i64 1), .lit (.int .i64 0)]

/-- 'proofprogramslaw03.SubstDoes': WHATEVER THE INPUT: true; the input reads as it did. -/
def substDoesSpec : ChangeSpec := { name := "substDoes", fn := fun _ => fun
  | [d1, d2, d3, d4, d5] => { results := [.lit (.bool true)], args := [d1, d2, d3, d4, d5] }
  | _ => none }
def substDoesRow : OpenClaim := { program := "ytldcgffbdlphfaagreatdoor", sum := "b55d601cb9de671f640237bbfcff81d465b36cfaf2875aa2bf578bbc6fc476c6", func := "proofprograms/proofprogramslaw03.SubstDoes", spec := "substDoes", unfollowed := true, recurses := true, named := ["proofprograms/tree.arities"], loops := true, apart := false, laid := [("proofprograms/tree.arities", laid_proofprograms_tree_arities)] }
def SubstDoesSaid : Prop := substDoesRow.holds Tryz.pinned (OpenSpec.ofChange substDoesSpec)

/-- ITS FALSE NEIGHBOUR: 'it returns false'. Refute it at one input. -/
def substDoesWrong : ChangeSpec := { name := "substDoes", fn := fun _ => fun
  | [d1, d2, d3, d4, d5] => { results := [.lit (.bool false)], args := [d1, d2, d3, d4, d5] }
  | _ => none }
def SubstDoesWrongFalsely : Prop := substDoesRow.holds Tryz.pinned (OpenSpec.ofChange substDoesWrong)

/-- 'proofprogramslaw07.FormulaLifts': WHATEVER THE INPUT: true; the input reads as it did. -/
def formulaLiftsSpec : ChangeSpec := { name := "formulaLifts", fn := fun _ => fun
  | [d] => { results := [.lit (.bool true)], args := [d] }
  | _ => none }
def formulaLiftsRow : OpenClaim := { program := "ytldcgffbdlphfaagreatdoor", sum := "b55d601cb9de671f640237bbfcff81d465b36cfaf2875aa2bf578bbc6fc476c6", func := "proofprograms/proofprogramslaw07.FormulaLifts", spec := "formulaLifts", unfollowed := true, recurses := true, named := ["proofprograms/tree.arities"], apart := false, laid := [("proofprograms/tree.arities", laid_proofprograms_tree_arities)] }
def FormulaLiftsSaid : Prop := formulaLiftsRow.holds Tryz.pinned (OpenSpec.ofChange formulaLiftsSpec)

/-- ITS FALSE NEIGHBOUR: 'it returns false'. Refute it at one input. -/
def formulaLiftsWrong : ChangeSpec := { name := "formulaLifts", fn := fun _ => fun
  | [d] => { results := [.lit (.bool false)], args := [d] }
  | _ => none }
def FormulaLiftsWrongFalsely : Prop := formulaLiftsRow.holds Tryz.pinned (OpenSpec.ofChange formulaLiftsWrong)

/-- 'proofprogramslaw07.FormulaDoes': WHATEVER THE INPUT: true; the input reads as it did. -/
def formulaDoesSpec : ChangeSpec := { name := "formulaDoes", fn := fun _ => fun
  | [d1, d2, d3, d4, d5, d6, d7] => { results := [.lit (.bool true)], args := [d1, d2, d3, d4, d5, d6, d7] }
  | _ => none }
def formulaDoesRow : OpenClaim := { program := "ytldcgffbdlphfaagreatdoor", sum := "b55d601cb9de671f640237bbfcff81d465b36cfaf2875aa2bf578bbc6fc476c6", func := "proofprograms/proofprogramslaw07.FormulaDoes", spec := "formulaDoes", unfollowed := true, recurses := true, named := ["proofprograms/tree.arities"], loops := true, apart := false, laid := [("proofprograms/tree.arities", laid_proofprograms_tree_arities)] }
def FormulaDoesSaid : Prop := formulaDoesRow.holds Tryz.pinned (OpenSpec.ofChange formulaDoesSpec)

/-- ITS FALSE NEIGHBOUR: 'it returns false'. Refute it at one input. -/
def formulaDoesWrong : ChangeSpec := { name := "formulaDoes", fn := fun _ => fun
  | [d1, d2, d3, d4, d5, d6, d7] => { results := [.lit (.bool false)], args := [d1, d2, d3, d4, d5, d6, d7] }
  | _ => none }
def FormulaDoesWrongFalsely : Prop := formulaDoesRow.holds Tryz.pinned (OpenSpec.ofChange formulaDoesWrong)

/- THE SECOND FORM. 'bulk': how many values and letters a reading holds, each counted each time it is reached (what is shared counts as often as it is met; a slice's spare places count too). A statement '..UptoSaid' is the law's where the arguments, and the package variables that the reading takes, are together of bulk at most 1048576: NARROWER than '..Said'. Prove '..Said' where nothing that the law and all that it calls make is longer than what came in: it says more and counts as full. Else prove '..UptoSaid'. A law counts once. -/
mutual
def uptoBulk {H : Type} : DataW H → Nat
  | .lit (.string bytes) => bytes.length + 1
  | .lit _ => 1
  | .nil => 1
  | .ptr d => uptoBulk d + 1
  | .slice elems spare => uptoBulkAll elems + uptoBulkAll spare + 1
  | .agg parts => uptoBulkAll parts + 1
  | .iface _ d => uptoBulk d + 1
  | .map entries => uptoBulkEntries entries + 1
  | .held _ => 1
def uptoBulkAll {H : Type} : List (DataW H) → Nat
  | [] => 0
  | d :: r => uptoBulk d + uptoBulkAll r
def uptoBulkEntries {H : Type} : List (Lit × DataW H) → Nat
  | [] => 0
  | x :: r => uptoBulkEntry x + uptoBulkEntries r
def uptoBulkEntry {H : Type} : Lit × DataW H → Nat
  | (.string bytes, d) => bytes.length + uptoBulk d + 1
  | (_, d) => uptoBulk d + 1
 end
def uptoSmall : (H : Type) → List (DataW H) → Bool := fun _ ds => decide (uptoBulkAll ds ≤ 1048576)
def OpenSpec.upto (s : _root_.Go.ChangeSpec) : _root_.Go.OpenSpec := { _root_.Go.OpenSpec.ofChange s with cond := some uptoSmall }

/-- 'proofprogramslaw03.SubstDoes', WHERE WHAT IT READS IS OF BULK AT MOST 1048576: true; the input reads as it did. -/
def substDoesUptoRow : OpenClaim := { program := "ytldcgffbdlphfaagreatdoor", sum := "b55d601cb9de671f640237bbfcff81d465b36cfaf2875aa2bf578bbc6fc476c6", func := "proofprograms/proofprogramslaw03.SubstDoes", spec := "substDoes", unfollowed := true, recurses := true, named := ["proofprograms/tree.arities"], loops := true, apart := false, laid := [("proofprograms/tree.arities", laid_proofprograms_tree_arities)], narrowed := true }
def SubstDoesUptoSaid : Prop := substDoesUptoRow.holds Tryz.pinned (OpenSpec.upto substDoesSpec)

/-- 'proofprogramslaw07.FormulaLifts', WHERE WHAT IT READS IS OF BULK AT MOST 1048576: true; the input reads as it did. -/
def formulaLiftsUptoRow : OpenClaim := { program := "ytldcgffbdlphfaagreatdoor", sum := "b55d601cb9de671f640237bbfcff81d465b36cfaf2875aa2bf578bbc6fc476c6", func := "proofprograms/proofprogramslaw07.FormulaLifts", spec := "formulaLifts", unfollowed := true, recurses := true, named := ["proofprograms/tree.arities"], apart := false, laid := [("proofprograms/tree.arities", laid_proofprograms_tree_arities)], narrowed := true }
def FormulaLiftsUptoSaid : Prop := formulaLiftsUptoRow.holds Tryz.pinned (OpenSpec.upto formulaLiftsSpec)

/-- 'proofprogramslaw07.FormulaDoes', WHERE WHAT IT READS IS OF BULK AT MOST 1048576: true; the input reads as it did. -/
def formulaDoesUptoRow : OpenClaim := { program := "ytldcgffbdlphfaagreatdoor", sum := "b55d601cb9de671f640237bbfcff81d465b36cfaf2875aa2bf578bbc6fc476c6", func := "proofprograms/proofprogramslaw07.FormulaDoes", spec := "formulaDoes", unfollowed := true, recurses := true, named := ["proofprograms/tree.arities"], loops := true, apart := false, laid := [("proofprograms/tree.arities", laid_proofprograms_tree_arities)], narrowed := true }
def FormulaDoesUptoSaid : Prop := formulaDoesUptoRow.holds Tryz.pinned (OpenSpec.upto formulaDoesSpec)

end Rows
end Go.Proofs.YtldcgffbdlphfaaGreatDoor
