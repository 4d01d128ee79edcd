/-
  NARROWER THAN 'FOR EVERY INPUT', by the rows' own cells (each row's printed sentence says how): CutParts: laid · CutDoes: loops, laid · CutEnds: laid · ProofCommutes: laid.
  DERIVED. THE GIVEN ROWS OF THIS SEAT. 4 by the template 'for every input the law returns true; each argument reads behind the call as it read before'; 0 by the template 'total and deterministic' (their statements: YtpnbmjgblakifaaGreatDoorTotals.lean).
  GIVEN WITH THE SEED: the statements are not yours to turn. If you find one false, say at which input.
  Laid BY PROGRAM, IN A SANDBOX (cutbox-rows.mjs): the forced cells as the released guide's own fill.sh prints them over the translation 8d747eef64c88dea… (all of the seat's roots in one cut). By AI agents, Wed Nov 11 2026. No macro, syntax, notation, axiom, sorry.
-/
import Derived.Test.YtpnbmjgblakifaaGreatDoorChecked
import GoSem.Claim
import GoSem.ClaimJoined
import GoSem.ClaimMapViews
import Derived.JoinedTies
import Derived.KernelRfl
namespace Go.Proofs.YtpnbmjgblakifaaGreatDoor
/- THE CELL 'sum', in the pinned program and in every row, IS THE sha256 OF THE DUMP (.gsa) THAT YtpnbmjgblakifaaGreatDoorProg.lean LOADS. Nothing in Lean hashes anything: it is a label: what it is worth is what the hold of that sum in a sandbox is worth. -/
noncomputable def Tryz.pinned : Pinned := { name := "ytpnbmjgblakifaagreatdoor", sum := "8d747eef64c88dea75263cb2047e65e63c1056f8c9dac863a5285a448446964b", checked := Tryz.checked }
namespace Rows
def none {H : Type} : Left H := { results := [], args := [] }

/- WHAT THE LISTED PACKAGE-LEVEL VARIABLES READ AS WHEN THE CALL BEGINS. Each datum BY PROGRAM (the guide's laid-datum.mjs) off the statement by which the dump's own 'gosem.cut.vars' lays the variable. In a bare row this is a premise. The card (YtpnbmjgblakifaaGreatDoorCards.lean) ties it to the program's text. -/
def laid_proofprograms_tree_rules {H : Type} : DataW H := .agg [.agg [.lit (.bool false), .lit (.bool false), .lit (.int .i64 0), .lit (.int .i64 0), .lit (.int .i64 0), .lit (.int .i64 0), .lit (.int .i64 0), .lit (.int .i64 0)], .agg [.lit (.bool true), .lit (.bool false), .lit (.int .i64 0), .lit (.int .i64 0), .lit (.int .i64 0), .lit (.int .i64 0), .lit (.int .i64 0), .lit (.int .i64 0)], .agg [.lit (.bool true), .lit (.bool false), .lit (.int .i64 0), .lit (.int .i64 0), .lit (.int .i64 0), .lit (.int .i64 0), .lit (.int .i64 0), .lit (.int .i64 0)], .agg [.lit (.bool false), .lit (.bool false), .lit (.int .i64 0), .lit (.int .i64 0), .lit (.int .i64 2), .lit (.int .i64 0), .lit (.int .i64 0), .lit (.int .i64 0)], .agg [.lit (.bool false), .lit (.bool false), .lit (.int .i64 0), .lit (.int .i64 0), .lit (.int .i64 1), .lit (.int .i64 0), .lit (.int .i64 0), .lit (.int .i64 0)], .agg [.lit (.bool false), .lit (.bool false), .lit (.int .i64 0), .lit (.int .i64 0), .lit (.int .i64 1), .lit (.int .i64 0), .lit (.int .i64 0), .lit (.int .i64 0)], .agg [.lit (.bool false), .lit (.bool false), .lit (.int .i64 0), .lit (.int .i64 1), .lit (.int .i64 1), .lit (.int .i64 0), .lit (.int .i64 0), .lit (.int .i64 1)], .agg [.lit (.bool false), .lit (.bool false), .lit (.int .i64 0), .lit (.int .i64 0), .lit (.int .i64 2), .lit (.int .i64 0), .lit (.int .i64 0), .lit (.int .i64 0)], .agg [.lit (.bool false), .lit (.bool true), .lit (.int .i64 0), .lit (.int .i64 0), .lit (.int .i64 1), .lit (.int .i64 0), .lit (.int .i64 1), .lit (.int .i64 0)], .agg [.lit (.bool false), .lit (.bool false), .lit (.int .i64 1), .lit (.int .i64 0), .lit (.int .i64 1), .lit (.int .i64 0), .lit (.int .i64 0), .lit (.int .i64 0)], .agg [.lit (.bool false), .lit (.bool false), .lit (.int .i64 1), .lit (.int .i64 1), .lit (.int .i64 1), .lit (.int .i64 0), .lit (.int .i64 0), .lit (.int .i64 0)], .agg [.lit (.bool false), .lit (.bool false), .lit (.int .i64 0), .lit (.int .i64 0), .lit (.int .i64 2), .lit (.int .i64 0), .lit (.int .i64 1), .lit (.int .i64 1)], .agg [.lit (.bool false), .lit (.bool true), .lit (.int .i64 0), .lit (.int .i64 0), .lit (.int .i64 1), .lit (.int .i64 0), .lit (.int .i64 1), .lit (.int .i64 0)], .agg [.lit (.bool false), .lit (.bool false), .lit (.int .i64 1), .lit (.int .i64 0), .lit (.int .i64 1), .lit (.int .i64 0), .lit (.int .i64 0), .lit (.int .i64 0)], .agg [.lit (.bool false), .lit (.bool false), .lit (.int .i64 1), .lit (.int .i64 1), .lit (.int .i64 1), .lit (.int .i64 0), .lit (.int .i64 0), .lit (.int .i64 0)], .agg [.lit (.bool false), .lit (.bool false), .lit (.int .i64 0), .lit (.int .i64 0), .lit (.int .i64 2), .lit (.int .i64 0), .lit (.int .i64 1), .lit (.int .i64 1)], .agg [.lit (.bool false), .lit (.bool false), .lit (.int .i64 1), .lit (.int .i64 1), .lit (.int .i64 2), .lit (.int .i64 1), .lit (.int .i64 1), .lit (.int .i64 1)], .agg [.lit (.bool false), .lit (.bool false), .lit (.int .i64 1), .lit (.int .i64 1), .lit (.int .i64 2), .lit (.int .i64 1), .lit (.int .i64 2), .lit (.int .i64 1)], .agg [.lit (.bool false), .lit (.bool false), .lit (.int .i64 1), .lit (.int .i64 0), .lit (.int .i64 0), .lit (.int .i64 0), .lit (.int .i64 0), .lit (.int .i64 0)], .agg [.lit (.bool false), .lit (.bool false), .lit (.int .i64 0), .lit (.int .i64 1), .lit (.int .i64 2), .lit (.int .i64 1), .lit (.int .i64 0), .lit (.int .i64 0)], .agg [.lit (.bool false), .lit (.bool false), .lit (.int .i64 0), .lit (.int .i64 0), .lit (.int .i64 1), .lit (.int .i64 0), .lit (.int .i64 0), .lit (.int .i64 0)]]
def laid_proofprograms_tree_arities {H : Type} : DataW H := .agg [.lit (.int .i64 0), .lit (.int .i64 0), .lit (.int .i64 1), .lit (.int .i64 2), .lit (.int .i64 0), .lit (.int .i64 1), .lit (.int .i64 3), .lit (.int .i64 0), .lit (.int .i64 2), .lit (.int .i64 3), .lit (.int .i64 2), .lit (.int .i64 1), .lit (.int .i64 1), .lit (.int .i64 0)]

/-- 'proofprogramslaw13.CutParts': WHATEVER THE INPUT: true; the input reads as it did. -/
def cutPartsSpec : ChangeSpec := { name := "cutParts", fn := fun _ => fun
  | [d] => { results := [.lit (.bool true)], args := [d] }
  | _ => none }
def cutPartsRow : OpenClaim := { program := "ytpnbmjgblakifaagreatdoor", sum := "8d747eef64c88dea75263cb2047e65e63c1056f8c9dac863a5285a448446964b", func := "proofprograms/proofprogramslaw13.CutParts", spec := "cutParts", unfollowed := true, recurses := true, named := ["proofprograms/tree.rules", "proofprograms/tree.arities"], apart := false, laid := [("proofprograms/tree.rules", laid_proofprograms_tree_rules), ("proofprograms/tree.arities", laid_proofprograms_tree_arities)] }
def CutPartsSaid : Prop := cutPartsRow.holds Tryz.pinned (OpenSpec.ofChange cutPartsSpec)

/-- ITS FALSE NEIGHBOUR: 'it returns false'. Refute it at one input. -/
def cutPartsWrong : ChangeSpec := { name := "cutParts", fn := fun _ => fun
  | [d] => { results := [.lit (.bool false)], args := [d] }
  | _ => none }
def CutPartsWrongFalsely : Prop := cutPartsRow.holds Tryz.pinned (OpenSpec.ofChange cutPartsWrong)

/-- 'proofprogramslaw13.CutDoes': WHATEVER THE INPUT: true; the input reads as it did. -/
def cutDoesSpec : ChangeSpec := { name := "cutDoes", fn := fun _ => fun
  | [d1, d2, d3] => { results := [.lit (.bool true)], args := [d1, d2, d3] }
  | _ => none }
def cutDoesRow : OpenClaim := { program := "ytpnbmjgblakifaagreatdoor", sum := "8d747eef64c88dea75263cb2047e65e63c1056f8c9dac863a5285a448446964b", func := "proofprograms/proofprogramslaw13.CutDoes", spec := "cutDoes", unfollowed := true, recurses := true, named := ["proofprograms/tree.rules", "proofprograms/tree.arities"], loops := true, apart := false, laid := [("proofprograms/tree.rules", laid_proofprograms_tree_rules), ("proofprograms/tree.arities", laid_proofprograms_tree_arities)] }
def CutDoesSaid : Prop := cutDoesRow.holds Tryz.pinned (OpenSpec.ofChange cutDoesSpec)

/-- ITS FALSE NEIGHBOUR: 'it returns false'. Refute it at one input. -/
def cutDoesWrong : ChangeSpec := { name := "cutDoes", fn := fun _ => fun
  | [d1, d2, d3] => { results := [.lit (.bool false)], args := [d1, d2, d3] }
  | _ => none }
def CutDoesWrongFalsely : Prop := cutDoesRow.holds Tryz.pinned (OpenSpec.ofChange cutDoesWrong)

/-- 'proofprogramslaw13.CutEnds': WHATEVER THE INPUT: true; the input reads as it did. -/
def cutEndsSpec : ChangeSpec := { name := "cutEnds", fn := fun _ => fun
  | [d1, d2] => { results := [.lit (.bool true)], args := [d1, d2] }
  | _ => none }
def cutEndsRow : OpenClaim := { program := "ytpnbmjgblakifaagreatdoor", sum := "8d747eef64c88dea75263cb2047e65e63c1056f8c9dac863a5285a448446964b", func := "proofprograms/proofprogramslaw13.CutEnds", spec := "cutEnds", unfollowed := true, recurses := true, named := ["proofprograms/tree.rules", "proofprograms/tree.arities"], apart := false, laid := [("proofprograms/tree.rules", laid_proofprograms_tree_rules), ("proofprograms/tree.arities", laid_proofprograms_tree_arities)] }
def CutEndsSaid : Prop := cutEndsRow.holds Tryz.pinned (OpenSpec.ofChange cutEndsSpec)

/-- ITS FALSE NEIGHBOUR: 'it returns false'. Refute it at one input. -/
def cutEndsWrong : ChangeSpec := { name := "cutEnds", fn := fun _ => fun
  | [d1, d2] => { results := [.lit (.bool false)], args := [d1, d2] }
  | _ => none }
def CutEndsWrongFalsely : Prop := cutEndsRow.holds Tryz.pinned (OpenSpec.ofChange cutEndsWrong)

/-- 'proofprogramslaw10.ProofCommutes': WHATEVER THE INPUT: true; the input reads as it did. -/
def proofCommutesSpec : ChangeSpec := { name := "proofCommutes", fn := fun _ => fun
  | [d] => { results := [.lit (.bool true)], args := [d] }
  | _ => none }
def proofCommutesRow : OpenClaim := { program := "ytpnbmjgblakifaagreatdoor", sum := "8d747eef64c88dea75263cb2047e65e63c1056f8c9dac863a5285a448446964b", func := "proofprograms/proofprogramslaw10.ProofCommutes", spec := "proofCommutes", unfollowed := true, recurses := true, named := ["proofprograms/tree.rules", "proofprograms/tree.arities"], apart := false, laid := [("proofprograms/tree.rules", laid_proofprograms_tree_rules), ("proofprograms/tree.arities", laid_proofprograms_tree_arities)] }
def ProofCommutesSaid : Prop := proofCommutesRow.holds Tryz.pinned (OpenSpec.ofChange proofCommutesSpec)

/-- ITS FALSE NEIGHBOUR: 'it returns false'. Refute it at one input. -/
def proofCommutesWrong : ChangeSpec := { name := "proofCommutes", fn := fun _ => fun
  | [d] => { results := [.lit (.bool false)], args := [d] }
  | _ => none }
def ProofCommutesWrongFalsely : Prop := proofCommutesRow.holds Tryz.pinned (OpenSpec.ofChange proofCommutesWrong)

/- THE SECOND FORM. 'bulk': how many values and letters a reading holds, each counted each time it is reached (what is shared counts as often as it is met; a slice's spare places count too). A statement '..UptoSaid' is the law's where the arguments, and the package variables that the reading takes, are together of bulk at most 1048576: NARROWER than '..Said'. Prove '..Said' where nothing that the law and all that it calls make is longer than what came in: it says more and counts as full. Else prove '..UptoSaid'. A law counts once. -/
mutual
def uptoBulk {H : Type} : DataW H → Nat
  | .lit (.string bytes) => bytes.length + 1
  | .lit _ => 1
  | .nil => 1
  | .ptr d => uptoBulk d + 1
  | .slice elems spare => uptoBulkAll elems + uptoBulkAll spare + 1
  | .agg parts => uptoBulkAll parts + 1
  | .iface _ d => uptoBulk d + 1
  | .map entries => uptoBulkEntries entries + 1
  | .held _ => 1
def uptoBulkAll {H : Type} : List (DataW H) → Nat
  | [] => 0
  | d :: r => uptoBulk d + uptoBulkAll r
def uptoBulkEntries {H : Type} : List (Lit × DataW H) → Nat
  | [] => 0
  | x :: r => uptoBulkEntry x + uptoBulkEntries r
def uptoBulkEntry {H : Type} : Lit × DataW H → Nat
  | (.string bytes, d) => bytes.length + uptoBulk d + 1
  | (_, d) => uptoBulk d + 1
 end
def uptoSmall : (H : Type) → List (DataW H) → Bool := fun _ ds => decide (uptoBulkAll ds ≤ 1048576)
def OpenSpec.upto (s : _root_.Go.ChangeSpec) : _root_.Go.OpenSpec := { _root_.Go.OpenSpec.ofChange s with cond := some uptoSmall }

/-- 'proofprogramslaw13.CutParts', WHERE WHAT IT READS IS OF BULK AT MOST 1048576: true; the input reads as it did. -/
def cutPartsUptoRow : OpenClaim := { program := "ytpnbmjgblakifaagreatdoor", sum := "8d747eef64c88dea75263cb2047e65e63c1056f8c9dac863a5285a448446964b", func := "proofprograms/proofprogramslaw13.CutParts", spec := "cutParts", unfollowed := true, recurses := true, named := ["proofprograms/tree.rules", "proofprograms/tree.arities"], apart := false, laid := [("proofprograms/tree.rules", laid_proofprograms_tree_rules), ("proofprograms/tree.arities", laid_proofprograms_tree_arities)], narrowed := true }
def CutPartsUptoSaid : Prop := cutPartsUptoRow.holds Tryz.pinned (OpenSpec.upto cutPartsSpec)

/-- 'proofprogramslaw13.CutDoes', WHERE WHAT IT READS IS OF BULK AT MOST 1048576: true; the input reads as it did. -/
def cutDoesUptoRow : OpenClaim := { program := "ytpnbmjgblakifaagreatdoor", sum := "8d747eef64c88dea75263cb2047e65e63c1056f8c9dac863a5285a448446964b", func := "proofprograms/proofprogramslaw13.CutDoes", spec := "cutDoes", unfollowed := true, recurses := true, named := ["proofprograms/tree.rules", "proofprograms/tree.arities"], loops := true, apart := false, laid := [("proofprograms/tree.rules", laid_proofprograms_tree_rules), ("proofprograms/tree.arities", laid_proofprograms_tree_arities)], narrowed := true }
def CutDoesUptoSaid : Prop := cutDoesUptoRow.holds Tryz.pinned (OpenSpec.upto cutDoesSpec)

/-- 'proofprogramslaw13.CutEnds', WHERE WHAT IT READS IS OF BULK AT MOST 1048576: true; the input reads as it did. -/
def cutEndsUptoRow : OpenClaim := { program := "ytpnbmjgblakifaagreatdoor", sum := "8d747eef64c88dea75263cb2047e65e63c1056f8c9dac863a5285a448446964b", func := "proofprograms/proofprogramslaw13.CutEnds", spec := "cutEnds", unfollowed := true, recurses := true, named := ["proofprograms/tree.rules", "proofprograms/tree.arities"], apart := false, laid := [("proofprograms/tree.rules", laid_proofprograms_tree_rules), ("proofprograms/tree.arities", laid_proofprograms_tree_arities)], narrowed := true }
def CutEndsUptoSaid : Prop := cutEndsUptoRow.holds Tryz.pinned (OpenSpec.upto cutEndsSpec)

/-- 'proofprogramslaw10.ProofCommutes', WHERE WHAT IT READS IS OF BULK AT MOST 1048576: true; the input reads as it did. -/
def proofCommutesUptoRow : OpenClaim := { program := "ytpnbmjgblakifaagreatdoor", sum := "8d747eef64c88dea75263cb2047e65e63c1056f8c9dac863a5285a448446964b", func := "proofprograms/proofprogramslaw10.ProofCommutes", spec := "proofCommutes", unfollowed := true, recurses := true, named := ["proofprograms/tree.rules", "proofprograms/tree.arities"], apart := false, laid := [("proofprograms/tree.rules", laid_proofprograms_tree_rules), ("proofprograms/tree.arities", laid_proofprograms_tree_arities)], narrowed := true }
def ProofCommutesUptoSaid : Prop := proofCommutesUptoRow.holds Tryz.pinned (OpenSpec.upto proofCommutesSpec)

end Rows
end Go.Proofs.YtpnbmjgblakifaaGreatDoor
