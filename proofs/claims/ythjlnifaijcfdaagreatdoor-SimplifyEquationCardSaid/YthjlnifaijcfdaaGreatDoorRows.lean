/-
  NARROWER THAN 'FOR EVERY INPUT', by the rows' own cells (each row's printed sentence says how): SimplifyNormal: laid · SimplifyEquation: laid.
  DERIVED. THE GIVEN ROWS OF THIS SEAT. 2 by the template 'for every input the law returns true; each argument reads behind the call as it read before'; 0 by the template 'total and deterministic' (their statements: YthjlnifaijcfdaaGreatDoorTotals.lean).
  GIVEN WITH THE SEED: the statements are not yours to turn. If you find one false, say at which input.
  Laid BY PROGRAM, IN A SANDBOX (cutbox-rows.mjs): the forced cells as the released guide's own fill.sh prints them over the translation 0e813385b848ff06… (all of the seat's roots in one cut). By AI agents, Wed Nov 11 2026. No macro, syntax, notation, axiom, sorry.
-/
import Derived.Test.YthjlnifaijcfdaaGreatDoorChecked
import GoSem.Claim
import GoSem.ClaimJoined
import GoSem.ClaimMapViews
import Derived.JoinedTies
import Derived.KernelRfl
namespace Go.Proofs.YthjlnifaijcfdaaGreatDoor
/- THE CELL 'sum', in the pinned program and in every row, IS THE sha256 OF THE DUMP (.gsa) THAT YthjlnifaijcfdaaGreatDoorProg.lean LOADS. Nothing in Lean hashes anything: it is a label: what it is worth is what the hold of that sum in a sandbox is worth. -/
noncomputable def Tryz.pinned : Pinned := { name := "ythjlnifaijcfdaagreatdoor", sum := "0e813385b848ff0609fe93e2686203b718fa8235d563f4ce55d3e7104c759125", checked := Tryz.checked }
namespace Rows
def none {H : Type} : Left H := { results := [], args := [] }

/- WHAT THE LISTED PACKAGE-LEVEL VARIABLES READ AS WHEN THE CALL BEGINS. Each datum BY PROGRAM (the guide's laid-datum.mjs) off the statement by which the dump's own 'gosem.cut.vars' lays the variable. In a bare row this is a premise. The card (YthjlnifaijcfdaaGreatDoorCards.lean) ties it to the program's text. -/
def laid_proofprograms_tree_arities {H : Type} : DataW H := .agg [.lit (.int .i64 0), .lit (.int .i64 0), .lit (.int .i64 1), .lit (.int .i64 2), .lit (.int .i64 0), .lit (.int .i64 1), .lit (.int .i64 3), .lit (.int .i64 0), .lit (.int .i64 2), .lit (.int .i64 3), .lit (.int .i64 2), .lit (.int .i64 1), .lit (.int .i64 1), .lit (.int .i64 0)]

/-- 'proofprogramslaw36.SimplifyNormal': WHATEVER THE INPUT: true; the input reads as it did. -/
def simplifyNormalSpec : ChangeSpec := { name := "simplifyNormal", fn := fun _ => fun
  | [d] => { results := [.lit (.bool true)], args := [d] }
  | _ => none }
def simplifyNormalRow : OpenClaim := { program := "ythjlnifaijcfdaagreatdoor", sum := "0e813385b848ff0609fe93e2686203b718fa8235d563f4ce55d3e7104c759125", func := "proofprograms/proofprogramslaw36.SimplifyNormal", spec := "simplifyNormal", unfollowed := true, recurses := true, named := ["proofprograms/tree.arities"], apart := false, laid := [("proofprograms/tree.arities", laid_proofprograms_tree_arities)] }
def SimplifyNormalSaid : Prop := simplifyNormalRow.holds Tryz.pinned (OpenSpec.ofChange simplifyNormalSpec)

/-- ITS FALSE NEIGHBOUR: 'it returns false'. Refute it at one input. -/
def simplifyNormalWrong : ChangeSpec := { name := "simplifyNormal", fn := fun _ => fun
  | [d] => { results := [.lit (.bool false)], args := [d] }
  | _ => none }
def SimplifyNormalWrongFalsely : Prop := simplifyNormalRow.holds Tryz.pinned (OpenSpec.ofChange simplifyNormalWrong)

/-- 'proofprogramslaw36.SimplifyEquation': WHATEVER THE INPUT: true; the input reads as it did. -/
def simplifyEquationSpec : ChangeSpec := { name := "simplifyEquation", fn := fun _ => fun
  | [d] => { results := [.lit (.bool true)], args := [d] }
  | _ => none }
def simplifyEquationRow : OpenClaim := { program := "ythjlnifaijcfdaagreatdoor", sum := "0e813385b848ff0609fe93e2686203b718fa8235d563f4ce55d3e7104c759125", func := "proofprograms/proofprogramslaw36.SimplifyEquation", spec := "simplifyEquation", unfollowed := true, recurses := true, named := ["proofprograms/tree.arities"], apart := false, laid := [("proofprograms/tree.arities", laid_proofprograms_tree_arities)] }
def SimplifyEquationSaid : Prop := simplifyEquationRow.holds Tryz.pinned (OpenSpec.ofChange simplifyEquationSpec)

/-- ITS FALSE NEIGHBOUR: 'it returns false'. Refute it at one input. -/
def simplifyEquationWrong : ChangeSpec := { name := "simplifyEquation", fn := fun _ => fun
  | [d] => { results := [.lit (.bool false)], args := [d] }
  | _ => none }
def SimplifyEquationWrongFalsely : Prop := simplifyEquationRow.holds Tryz.pinned (OpenSpec.ofChange simplifyEquationWrong)

/- THE SECOND FORM. 'bulk': how many values and letters a reading holds, each counted each time it is reached (what is shared counts as often as it is met; a slice's spare places count too). A statement '..UptoSaid' is the law's where the arguments, and the package variables that the reading takes, are together of bulk at most 1048576: NARROWER than '..Said'. Prove '..Said' where nothing that the law and all that it calls make is longer than what came in: it says more and counts as full. Else prove '..UptoSaid'. A law counts once. -/
mutual
def uptoBulk {H : Type} : DataW H → Nat
  | .lit (.string bytes) => bytes.length + 1
  | .lit _ => 1
  | .nil => 1
  | .ptr d => uptoBulk d + 1
  | .slice elems spare => uptoBulkAll elems + uptoBulkAll spare + 1
  | .agg parts => uptoBulkAll parts + 1
  | .iface _ d => uptoBulk d + 1
  | .map entries => uptoBulkEntries entries + 1
  | .held _ => 1
def uptoBulkAll {H : Type} : List (DataW H) → Nat
  | [] => 0
  | d :: r => uptoBulk d + uptoBulkAll r
def uptoBulkEntries {H : Type} : List (Lit × DataW H) → Nat
  | [] => 0
  | x :: r => uptoBulkEntry x + uptoBulkEntries r
def uptoBulkEntry {H : Type} : Lit × DataW H → Nat
  | (.string bytes, d) => bytes.length + uptoBulk d + 1
  | (_, d) => uptoBulk d + 1
 end
def uptoSmall : (H : Type) → List (DataW H) → Bool := fun _ ds => decide (uptoBulkAll ds ≤ 1048576)
def OpenSpec.upto (s : _root_.Go.ChangeSpec) : _root_.Go.OpenSpec := { _root_.Go.OpenSpec.ofChange s with cond := some uptoSmall }

/-- 'proofprogramslaw36.SimplifyNormal', WHERE WHAT IT READS IS OF BULK AT MOST 1048576: true; the input reads as it did. -/
def simplifyNormalUptoRow : OpenClaim := { program := "ythjlnifaijcfdaagreatdoor", sum := "0e813385b848ff0609fe93e2686203b718fa8235d563f4ce55d3e7104c759125", func := "proofprograms/proofprogramslaw36.SimplifyNormal", spec := "simplifyNormal", unfollowed := true, recurses := true, named := ["proofprograms/tree.arities"], apart := false, laid := [("proofprograms/tree.arities", laid_proofprograms_tree_arities)], narrowed := true }
def SimplifyNormalUptoSaid : Prop := simplifyNormalUptoRow.holds Tryz.pinned (OpenSpec.upto simplifyNormalSpec)

/-- 'proofprogramslaw36.SimplifyEquation', WHERE WHAT IT READS IS OF BULK AT MOST 1048576: true; the input reads as it did. -/
def simplifyEquationUptoRow : OpenClaim := { program := "ythjlnifaijcfdaagreatdoor", sum := "0e813385b848ff0609fe93e2686203b718fa8235d563f4ce55d3e7104c759125", func := "proofprograms/proofprogramslaw36.SimplifyEquation", spec := "simplifyEquation", unfollowed := true, recurses := true, named := ["proofprograms/tree.arities"], apart := false, laid := [("proofprograms/tree.arities", laid_proofprograms_tree_arities)], narrowed := true }
def SimplifyEquationUptoSaid : Prop := simplifyEquationUptoRow.holds Tryz.pinned (OpenSpec.upto simplifyEquationSpec)

end Rows
end Go.Proofs.YthjlnifaijcfdaaGreatDoor
