/-
  NARROWER THAN 'FOR EVERY INPUT', by the rows' own cells (each row's printed sentence says how): DeriveEquations: laid · DeriveNumbers: laid · DeriveCases: laid.
  DERIVED. THE GIVEN ROWS OF THIS SEAT. 3 by the template 'for every input the law returns true; each argument reads behind the call as it read before'; 0 by the template 'total and deterministic' (their statements: YtafjchcccnpjmaaGreatDoorTotals.lean).
  GIVEN WITH THE SEED: the statements are not yours to turn. If you find one false, say at which input.
  Laid BY PROGRAM, IN A SANDBOX (cutbox-rows.mjs): the forced cells as the released guide's own fill.sh prints them over the translation e4a3ca3c1c1ea5d9… (all of the seat's roots in one cut). By AI agents, Wed Nov 11 2026. No macro, syntax, notation, axiom, sorry.
-/
import Derived.Test.YtafjchcccnpjmaaGreatDoorChecked
import GoSem.Claim
import GoSem.ClaimJoined
import GoSem.ClaimMapViews
import Derived.JoinedTies
import Derived.KernelRfl
namespace Go.Proofs.YtafjchcccnpjmaaGreatDoor
/- THE CELL 'sum', in the pinned program and in every row, IS THE sha256 OF THE DUMP (.gsa) THAT YtafjchcccnpjmaaGreatDoorProg.lean LOADS. Nothing in Lean hashes anything: it is a label: what it is worth is what the hold of that sum in a sandbox is worth. -/
noncomputable def Tryz.pinned : Pinned := { name := "ytafjchcccnpjmaagreatdoor", sum := "e4a3ca3c1c1ea5d96817319845aa6040c0689ee40606c5979a6e9be680b2e0db", checked := Tryz.checked }
namespace Rows
def none {H : Type} : Left H := { results := [], args := [] }

/- WHAT THE LISTED PACKAGE-LEVEL VARIABLES READ AS WHEN THE CALL BEGINS. Each datum BY PROGRAM (the guide's laid-datum.mjs) off the statement by which the dump's own 'gosem.cut.vars' lays the variable. In a bare row this is a premise. The card (YtafjchcccnpjmaaGreatDoorCards.lean) ties it to the program's text. -/
def laid_proofprograms_tree_rules {H : Type} : DataW H := .agg [.agg [.lit (.bool false), .lit (.bool false), .lit (.int .i64 0), .lit (.int .i64 0), .lit (.int .i64 0), .lit (.int .i64 0), .lit (.int .i64 0), .lit (.int .i64 0)], .agg [.lit (.bool true), .lit (.bool false), .lit (.int .i64 0), .lit (.int .i64 0), .lit (.int .i64 0), .lit (.int .i64 0), .lit (.int .i64 0), .lit (.int .i64 0)], .agg [.lit (.bool true), .lit (.bool false), .lit (.int .i64 0), .lit (.int .i64 0), .lit (.int .i64 0), .lit (.int .i64 0), .lit (.int .i64 0), .lit (.int .i64 0)], .agg [.lit (.bool false), .lit (.bool false), .lit (.int .i64 0), .lit (.int .i64 0), .lit (.int .i64 2), .lit (.int .i64 0), .lit (.int .i64 0), .lit (.int .i64 0)], .agg [.lit (.bool false), .lit (.bool false), .lit (.int .i64 0), .lit (.int .i64 0), .lit (.int .i64 1), .lit (.int .i64 0), .lit (.int .i64 0), .lit (.int .i64 0)], .agg [.lit (.bool false), .lit (.bool false), .lit (.int .i64 0), .lit (.int .i64 0), .lit (.int .i64 1), .lit (.int .i64 0), .lit (.int .i64 0), .lit (.int .i64 0)], .agg [.lit (.bool false), .lit (.bool false), .lit (.int .i64 0), .lit (.int .i64 1), .lit (.int .i64 1), .lit (.int .i64 0), .lit (.int .i64 0), .lit (.int .i64 1)], .agg [.lit (.bool false), .lit (.bool false), .lit (.int .i64 0), .lit (.int .i64 0), .lit (.int .i64 2), .lit (.int .i64 0), .lit (.int .i64 0), .lit (.int .i64 0)], .agg [.lit (.bool false), .lit (.bool true), .lit (.int .i64 0), .lit (.int .i64 0), .lit (.int .i64 1), .lit (.int .i64 0), .lit (.int .i64 1), .lit (.int .i64 0)], .agg [.lit (.bool false), .lit (.bool false), .lit (.int .i64 1), .lit (.int .i64 0), .lit (.int .i64 1), .lit (.int .i64 0), .lit (.int .i64 0), .lit (.int .i64 0)], .agg [.lit (.bool false), .lit (.bool false), .lit (.int .i64 1), .lit (.int .i64 1), .lit (.int .i64 1), .lit (.int .i64 0), .lit (.int .i64 0), .lit (.int .i64 0)], .agg [.lit (.bool false), .lit (.bool false), .lit (.int .i64 0), .lit (.int .i64 0), .lit (.int .i64 2), .lit (.int .i64 0), .lit (.int .i64 1), .lit (.int .i64 1)], .agg [.lit (.bool false), .lit (.bool true), .lit (.int .i64 0), .lit (.int .i64 0), .lit (.int .i64 1), .lit (.int .i64 0), .lit (.int .i64 1), .lit (.int .i64 0)], .agg [.lit (.bool false), .lit (.bool false), .lit (.int .i64 1), .lit (.int .i64 0), .lit (.int .i64 1), .lit (.int .i64 0), .lit (.int .i64 0), .lit (.int .i64 0)], .agg [.lit (.bool false), .lit (.bool false), .lit (.int .i64 1), .lit (.int .i64 1), .lit (.int .i64 1), .lit (.int .i64 0), .lit (.int .i64 0), .lit (.int .i64 0)], .agg [.lit (.bool false), .lit (.bool false), .lit (.int .i64 0), .lit (.int .i64 0), .lit (.int .i64 2), .lit (.int .i64 0), .lit (.int .i64 1), .lit (.int .i64 1)], .agg [.lit (.bool false), .lit (.bool false), .lit (.int .i64 1), .lit (.int .i64 1), .lit (.int .i64 2), .lit (.int .i64 1), .lit (.int .i64 1), .lit (.int .i64 1)], .agg [.lit (.bool false), .lit (.bool false), .lit (.int .i64 1), .lit (.int .i64 1), .lit (.int .i64 2), .lit (.int .i64 1), .lit (.int .i64 2), .lit (.int .i64 1)], .agg [.lit (.bool false), .lit (.bool false), .lit (.int .i64 1), .lit (.int .i64 0), .lit (.int .i64 0), .lit (.int .i64 0), .lit (.int .i64 0), .lit (.int .i64 0)], .agg [.lit (.bool false), .lit (.bool false), .lit (.int .i64 0), .lit (.int .i64 1), .lit (.int .i64 2), .lit (.int .i64 1), .lit (.int .i64 0), .lit (.int .i64 0)], .agg [.lit (.bool false), .lit (.bool false), .lit (.int .i64 0), .lit (.int .i64 0), .lit (.int .i64 1), .lit (.int .i64 0), .lit (.int .i64 0), .lit (.int .i64 0)]]
def laid_proofprograms_tree_arities {H : Type} : DataW H := .agg [.lit (.int .i64 0), .lit (.int .i64 0), .lit (.int .i64 1), .lit (.int .i64 2), .lit (.int .i64 0), .lit (.int .i64 1), .lit (.int .i64 3), .lit (.int .i64 0), .lit (.int .i64 2), .lit (.int .i64 3), .lit (.int .i64 2), .lit (.int .i64 1), .lit (.int .i64 1), .lit (.int .i64 0)]

/-- 'proofprogramslaw12.DeriveEquations': WHATEVER THE INPUT: true; the input reads as it did. -/
def deriveEquationsSpec : ChangeSpec := { name := "deriveEquations", fn := fun _ => fun
  | [d] => { results := [.lit (.bool true)], args := [d] }
  | _ => none }
def deriveEquationsRow : OpenClaim := { program := "ytafjchcccnpjmaagreatdoor", sum := "e4a3ca3c1c1ea5d96817319845aa6040c0689ee40606c5979a6e9be680b2e0db", func := "proofprograms/proofprogramslaw12.DeriveEquations", spec := "deriveEquations", unfollowed := true, recurses := true, named := ["proofprograms/tree.arities", "proofprograms/tree.rules"], apart := false, laid := [("proofprograms/tree.rules", laid_proofprograms_tree_rules), ("proofprograms/tree.arities", laid_proofprograms_tree_arities)] }
def DeriveEquationsSaid : Prop := deriveEquationsRow.holds Tryz.pinned (OpenSpec.ofChange deriveEquationsSpec)

/-- ITS FALSE NEIGHBOUR: 'it returns false'. Refute it at one input. -/
def deriveEquationsWrong : ChangeSpec := { name := "deriveEquations", fn := fun _ => fun
  | [d] => { results := [.lit (.bool false)], args := [d] }
  | _ => none }
def DeriveEquationsWrongFalsely : Prop := deriveEquationsRow.holds Tryz.pinned (OpenSpec.ofChange deriveEquationsWrong)

/-- 'proofprogramslaw12.DeriveNumbers': WHATEVER THE INPUT: true; the input reads as it did. -/
def deriveNumbersSpec : ChangeSpec := { name := "deriveNumbers", fn := fun _ => fun
  | [d] => { results := [.lit (.bool true)], args := [d] }
  | _ => none }
def deriveNumbersRow : OpenClaim := { program := "ytafjchcccnpjmaagreatdoor", sum := "e4a3ca3c1c1ea5d96817319845aa6040c0689ee40606c5979a6e9be680b2e0db", func := "proofprograms/proofprogramslaw12.DeriveNumbers", spec := "deriveNumbers", unfollowed := true, recurses := true, named := ["proofprograms/tree.arities", "proofprograms/tree.rules"], apart := false, laid := [("proofprograms/tree.rules", laid_proofprograms_tree_rules), ("proofprograms/tree.arities", laid_proofprograms_tree_arities)] }
def DeriveNumbersSaid : Prop := deriveNumbersRow.holds Tryz.pinned (OpenSpec.ofChange deriveNumbersSpec)

/-- ITS FALSE NEIGHBOUR: 'it returns false'. Refute it at one input. -/
def deriveNumbersWrong : ChangeSpec := { name := "deriveNumbers", fn := fun _ => fun
  | [d] => { results := [.lit (.bool false)], args := [d] }
  | _ => none }
def DeriveNumbersWrongFalsely : Prop := deriveNumbersRow.holds Tryz.pinned (OpenSpec.ofChange deriveNumbersWrong)

/-- 'proofprogramslaw12.DeriveCases': WHATEVER THE INPUT: true; the input reads as it did. -/
def deriveCasesSpec : ChangeSpec := { name := "deriveCases", fn := fun _ => fun
  | [d] => { results := [.lit (.bool true)], args := [d] }
  | _ => none }
def deriveCasesRow : OpenClaim := { program := "ytafjchcccnpjmaagreatdoor", sum := "e4a3ca3c1c1ea5d96817319845aa6040c0689ee40606c5979a6e9be680b2e0db", func := "proofprograms/proofprogramslaw12.DeriveCases", spec := "deriveCases", unfollowed := true, recurses := true, named := ["proofprograms/tree.arities", "proofprograms/tree.rules"], apart := false, laid := [("proofprograms/tree.rules", laid_proofprograms_tree_rules), ("proofprograms/tree.arities", laid_proofprograms_tree_arities)] }
def DeriveCasesSaid : Prop := deriveCasesRow.holds Tryz.pinned (OpenSpec.ofChange deriveCasesSpec)

/-- ITS FALSE NEIGHBOUR: 'it returns false'. Refute it at one input. -/
def deriveCasesWrong : ChangeSpec := { name := "deriveCases", fn := fun _ => fun
  | [d] => { results := [.lit (.bool false)], args := [d] }
  | _ => none }
def DeriveCasesWrongFalsely : Prop := deriveCasesRow.holds Tryz.pinned (OpenSpec.ofChange deriveCasesWrong)

/- THE SECOND FORM. 'bulk': how many values and letters a reading holds, each counted each time it is reached (what is shared counts as often as it is met; a slice's spare places count too). A statement '..UptoSaid' is the law's where the arguments, and the package variables that the reading takes, are together of bulk at most 1048576: NARROWER than '..Said'. Prove '..Said' where nothing that the law and all that it calls make is longer than what came in: it says more and counts as full. Else prove '..UptoSaid'. A law counts once. -/
mutual
def uptoBulk {H : Type} : DataW H → Nat
  | .lit (.string bytes) => bytes.length + 1
  | .lit _ => 1
  | .nil => 1
  | .ptr d => uptoBulk d + 1
  | .slice elems spare => uptoBulkAll elems + uptoBulkAll spare + 1
  | .agg parts => uptoBulkAll parts + 1
  | .iface _ d => uptoBulk d + 1
  | .map entries => uptoBulkEntries entries + 1
  | .held _ => 1
def uptoBulkAll {H : Type} : List (DataW H) → Nat
  | [] => 0
  | d :: r => uptoBulk d + uptoBulkAll r
def uptoBulkEntries {H : Type} : List (Lit × DataW H) → Nat
  | [] => 0
  | x :: r => uptoBulkEntry x + uptoBulkEntries r
def uptoBulkEntry {H : Type} : Lit × DataW H → Nat
  | (.string bytes, d) => bytes.length + uptoBulk d + 1
  | (_, d) => uptoBulk d + 1
 end
def uptoSmall : (H : Type) → List (DataW H) → Bool := fun _ ds => decide (uptoBulkAll ds ≤ 1048576)
def OpenSpec.upto (s : _root_.Go.ChangeSpec) : _root_.Go.OpenSpec := { _root_.Go.OpenSpec.ofChange s with cond := some uptoSmall }

/-- 'proofprogramslaw12.DeriveEquations', WHERE WHAT IT READS IS OF BULK AT MOST 1048576: true; the input reads as it did. -/
def deriveEquationsUptoRow : OpenClaim := { program := "ytafjchcccnpjmaagreatdoor", sum := "e4a3ca3c1c1ea5d96817319845aa6040c0689ee40606c5979a6e9be680b2e0db", func := "proofprograms/proofprogramslaw12.DeriveEquations", spec := "deriveEquations", unfollowed := true, recurses := true, named := ["proofprograms/tree.arities", "proofprograms/tree.rules"], apart := false, laid := [("proofprograms/tree.rules", laid_proofprograms_tree_rules), ("proofprograms/tree.arities", laid_proofprograms_tree_arities)], narrowed := true }
def DeriveEquationsUptoSaid : Prop := deriveEquationsUptoRow.holds Tryz.pinned (OpenSpec.upto deriveEquationsSpec)

/-- 'proofprogramslaw12.DeriveNumbers', WHERE WHAT IT READS IS OF BULK AT MOST 1048576: true; the input reads as it did. -/
def deriveNumbersUptoRow : OpenClaim := { program := "ytafjchcccnpjmaagreatdoor", sum := "e4a3ca3c1c1ea5d96817319845aa6040c0689ee40606c5979a6e9be680b2e0db", func := "proofprograms/proofprogramslaw12.DeriveNumbers", spec := "deriveNumbers", unfollowed := true, recurses := true, named := ["proofprograms/tree.arities", "proofprograms/tree.rules"], apart := false, laid := [("proofprograms/tree.rules", laid_proofprograms_tree_rules), ("proofprograms/tree.arities", laid_proofprograms_tree_arities)], narrowed := true }
def DeriveNumbersUptoSaid : Prop := deriveNumbersUptoRow.holds Tryz.pinned (OpenSpec.upto deriveNumbersSpec)

/-- 'proofprogramslaw12.DeriveCases', WHERE WHAT IT READS IS OF BULK AT MOST 1048576: true; the input reads as it did. -/
def deriveCasesUptoRow : OpenClaim := { program := "ytafjchcccnpjmaagreatdoor", sum := "e4a3ca3c1c1ea5d96817319845aa6040c0689ee40606c5979a6e9be680b2e0db", func := "proofprograms/proofprogramslaw12.DeriveCases", spec := "deriveCases", unfollowed := true, recurses := true, named := ["proofprograms/tree.arities", "proofprograms/tree.rules"], apart := false, laid := [("proofprograms/tree.rules", laid_proofprograms_tree_rules), ("proofprograms/tree.arities", laid_proofprograms_tree_arities)], narrowed := true }
def DeriveCasesUptoSaid : Prop := deriveCasesUptoRow.holds Tryz.pinned (OpenSpec.upto deriveCasesSpec)

end Rows
end Go.Proofs.YtafjchcccnpjmaaGreatDoor
