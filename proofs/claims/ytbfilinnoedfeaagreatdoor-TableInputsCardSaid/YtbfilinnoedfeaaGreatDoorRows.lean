/-
  NARROWER THAN 'FOR EVERY INPUT', by the rows' own cells (each row's printed sentence says how): ContestCandidates: laid · ContestAnd: laid · ContestImp: laid · TableInputs: laid.
  DERIVED. THE GIVEN ROWS OF THIS SEAT. 4 by the template 'for every input the law returns true; each argument reads behind the call as it read before'; 0 by the template 'total and deterministic' (their statements: YtbfilinnoedfeaaGreatDoorTotals.lean).
  GIVEN WITH THE SEED: the statements are not yours to turn. If you find one false, say at which input.
  Laid BY PROGRAM, IN A SANDBOX (cutbox-rows.mjs): the forced cells as the released guide's own fill.sh prints them over the translation 52435db941622e3d… (all of the seat's roots in one cut). By AI agents, Wed Nov 11 2026. No macro, syntax, notation, axiom, sorry.
-/
import Derived.Test.YtbfilinnoedfeaaGreatDoorChecked
import GoSem.Claim
import GoSem.ClaimJoined
import GoSem.ClaimMapViews
import Derived.JoinedTies
import Derived.KernelRfl
namespace Go.Proofs.YtbfilinnoedfeaaGreatDoor
/- THE CELL 'sum', in the pinned program and in every row, IS THE sha256 OF THE DUMP (.gsa) THAT YtbfilinnoedfeaaGreatDoorProg.lean LOADS. Nothing in Lean hashes anything: it is a label: what it is worth is what the hold of that sum in a sandbox is worth. -/
noncomputable def Tryz.pinned : Pinned := { name := "ytbfilinnoedfeaagreatdoor", sum := "52435db941622e3db396ab72c96a8f02a01c49cdd65f289fe3c54787ab61134d", checked := Tryz.checked }
namespace Rows
def none {H : Type} : Left H := { results := [], args := [] }

/- WHAT THE LISTED PACKAGE-LEVEL VARIABLES READ AS WHEN THE CALL BEGINS. Each datum BY PROGRAM (the guide's laid-datum.mjs) off the statement by which the dump's own 'gosem.cut.vars' lays the variable. In a bare row this is a premise. The card (YtbfilinnoedfeaaGreatDoorCards.lean) ties it to the program's text. -/
def laid_proofprograms_tree_arities {H : Type} : DataW H := .agg [.lit (.int .i64 0), .lit (.int .i64 0), .lit (.int .i64 1), .lit (.int .i64 2), .lit (.int .i64 0), .lit (.int .i64 1), .lit (.int .i64 3), .lit (.int .i64 0), .lit (.int .i64 2), .lit (.int .i64 3), .lit (.int .i64 2), .lit (.int .i64 1), .lit (.int .i64 1), .lit (.int .i64 0)]

/-- 'proofprogramslaw32.ContestCandidates': WHATEVER THE INPUT: true; the input reads as it did. -/
def contestCandidatesSpec : ChangeSpec := { name := "contestCandidates", fn := fun _ => fun
  | [d1, d2] => { results := [.lit (.bool true)], args := [d1, d2] }
  | _ => none }
def contestCandidatesRow : OpenClaim := { program := "ytbfilinnoedfeaagreatdoor", sum := "52435db941622e3db396ab72c96a8f02a01c49cdd65f289fe3c54787ab61134d", func := "proofprograms/proofprogramslaw32.ContestCandidates", spec := "contestCandidates", unfollowed := true, recurses := true, named := ["proofprograms/tree.arities"], apart := false, laid := [("proofprograms/tree.arities", laid_proofprograms_tree_arities)] }
def ContestCandidatesSaid : Prop := contestCandidatesRow.holds Tryz.pinned (OpenSpec.ofChange contestCandidatesSpec)

/-- ITS FALSE NEIGHBOUR: 'it returns false'. Refute it at one input. -/
def contestCandidatesWrong : ChangeSpec := { name := "contestCandidates", fn := fun _ => fun
  | [d1, d2] => { results := [.lit (.bool false)], args := [d1, d2] }
  | _ => none }
def ContestCandidatesWrongFalsely : Prop := contestCandidatesRow.holds Tryz.pinned (OpenSpec.ofChange contestCandidatesWrong)

/-- 'proofprogramslaw32.ContestAnd': WHATEVER THE INPUT: true; the input reads as it did. -/
def contestAndSpec : ChangeSpec := { name := "contestAnd", fn := fun _ => fun
  | [d] => { results := [.lit (.bool true)], args := [d] }
  | _ => none }
def contestAndRow : OpenClaim := { program := "ytbfilinnoedfeaagreatdoor", sum := "52435db941622e3db396ab72c96a8f02a01c49cdd65f289fe3c54787ab61134d", func := "proofprograms/proofprogramslaw32.ContestAnd", spec := "contestAnd", unfollowed := true, recurses := true, named := ["proofprograms/tree.arities"], apart := false, laid := [("proofprograms/tree.arities", laid_proofprograms_tree_arities)] }
def ContestAndSaid : Prop := contestAndRow.holds Tryz.pinned (OpenSpec.ofChange contestAndSpec)

/-- ITS FALSE NEIGHBOUR: 'it returns false'. Refute it at one input. -/
def contestAndWrong : ChangeSpec := { name := "contestAnd", fn := fun _ => fun
  | [d] => { results := [.lit (.bool false)], args := [d] }
  | _ => none }
def ContestAndWrongFalsely : Prop := contestAndRow.holds Tryz.pinned (OpenSpec.ofChange contestAndWrong)

/-- 'proofprogramslaw32.ContestImp': WHATEVER THE INPUT: true; the input reads as it did. -/
def contestImpSpec : ChangeSpec := { name := "contestImp", fn := fun _ => fun
  | [d] => { results := [.lit (.bool true)], args := [d] }
  | _ => none }
def contestImpRow : OpenClaim := { program := "ytbfilinnoedfeaagreatdoor", sum := "52435db941622e3db396ab72c96a8f02a01c49cdd65f289fe3c54787ab61134d", func := "proofprograms/proofprogramslaw32.ContestImp", spec := "contestImp", unfollowed := true, recurses := true, named := ["proofprograms/tree.arities"], apart := false, laid := [("proofprograms/tree.arities", laid_proofprograms_tree_arities)] }
def ContestImpSaid : Prop := contestImpRow.holds Tryz.pinned (OpenSpec.ofChange contestImpSpec)

/-- ITS FALSE NEIGHBOUR: 'it returns false'. Refute it at one input. -/
def contestImpWrong : ChangeSpec := { name := "contestImp", fn := fun _ => fun
  | [d] => { results := [.lit (.bool false)], args := [d] }
  | _ => none }
def ContestImpWrongFalsely : Prop := contestImpRow.holds Tryz.pinned (OpenSpec.ofChange contestImpWrong)

/-- 'proofprogramslaw40.TableInputs': WHATEVER THE INPUT: true; the input reads as it did. -/
def tableInputsSpec : ChangeSpec := { name := "tableInputs", fn := fun _ => fun
  | [d] => { results := [.lit (.bool true)], args := [d] }
  | _ => none }
def tableInputsRow : OpenClaim := { program := "ytbfilinnoedfeaagreatdoor", sum := "52435db941622e3db396ab72c96a8f02a01c49cdd65f289fe3c54787ab61134d", func := "proofprograms/proofprogramslaw40.TableInputs", spec := "tableInputs", unfollowed := true, recurses := true, named := ["proofprograms/tree.arities"], apart := false, laid := [("proofprograms/tree.arities", laid_proofprograms_tree_arities)] }
def TableInputsSaid : Prop := tableInputsRow.holds Tryz.pinned (OpenSpec.ofChange tableInputsSpec)

/-- ITS FALSE NEIGHBOUR: 'it returns false'. Refute it at one input. -/
def tableInputsWrong : ChangeSpec := { name := "tableInputs", fn := fun _ => fun
  | [d] => { results := [.lit (.bool false)], args := [d] }
  | _ => none }
def TableInputsWrongFalsely : Prop := tableInputsRow.holds Tryz.pinned (OpenSpec.ofChange tableInputsWrong)

/- THE SECOND FORM. 'bulk': how many values and letters a reading holds, each counted each time it is reached (what is shared counts as often as it is met; a slice's spare places count too). A statement '..UptoSaid' is the law's where the arguments, and the package variables that the reading takes, are together of bulk at most 1048576: NARROWER than '..Said'. Prove '..Said' where nothing that the law and all that it calls make is longer than what came in: it says more and counts as full. Else prove '..UptoSaid'. A law counts once. -/
mutual
def uptoBulk {H : Type} : DataW H → Nat
  | .lit (.string bytes) => bytes.length + 1
  | .lit _ => 1
  | .nil => 1
  | .ptr d => uptoBulk d + 1
  | .slice elems spare => uptoBulkAll elems + uptoBulkAll spare + 1
  | .agg parts => uptoBulkAll parts + 1
  | .iface _ d => uptoBulk d + 1
  | .map entries => uptoBulkEntries entries + 1
  | .held _ => 1
def uptoBulkAll {H : Type} : List (DataW H) → Nat
  | [] => 0
  | d :: r => uptoBulk d + uptoBulkAll r
def uptoBulkEntries {H : Type} : List (Lit × DataW H) → Nat
  | [] => 0
  | x :: r => uptoBulkEntry x + uptoBulkEntries r
def uptoBulkEntry {H : Type} : Lit × DataW H → Nat
  | (.string bytes, d) => bytes.length + uptoBulk d + 1
  | (_, d) => uptoBulk d + 1
 end
def uptoSmall : (H : Type) → List (DataW H) → Bool := fun _ ds => decide (uptoBulkAll ds ≤ 1048576)
def OpenSpec.upto (s : _root_.Go.ChangeSpec) : _root_.Go.OpenSpec := { _root_.Go.OpenSpec.ofChange s with cond := some uptoSmall }

/-- 'proofprogramslaw32.ContestCandidates', WHERE WHAT IT READS IS OF BULK AT MOST 1048576: true; the input reads as it did. -/
def contestCandidatesUptoRow : OpenClaim := { program := "ytbfilinnoedfeaagreatdoor", sum := "52435db941622e3db396ab72c96a8f02a01c49cdd65f289fe3c54787ab61134d", func := "proofprograms/proofprogramslaw32.ContestCandidates", spec := "contestCandidates", unfollowed := true, recurses := true, named := ["proofprograms/tree.arities"], apart := false, laid := [("proofprograms/tree.arities", laid_proofprograms_tree_arities)], narrowed := true }
def ContestCandidatesUptoSaid : Prop := contestCandidatesUptoRow.holds Tryz.pinned (OpenSpec.upto contestCandidatesSpec)

/-- 'proofprogramslaw32.ContestAnd', WHERE WHAT IT READS IS OF BULK AT MOST 1048576: true; the input reads as it did. -/
def contestAndUptoRow : OpenClaim := { program := "ytbfilinnoedfeaagreatdoor", sum := "52435db941622e3db396ab72c96a8f02a01c49cdd65f289fe3c54787ab61134d", func := "proofprograms/proofprogramslaw32.ContestAnd", spec := "contestAnd", unfollowed := true, recurses := true, named := ["proofprograms/tree.arities"], apart := false, laid := [("proofprograms/tree.arities", laid_proofprograms_tree_arities)], narrowed := true }
def ContestAndUptoSaid : Prop := contestAndUptoRow.holds Tryz.pinned (OpenSpec.upto contestAndSpec)

/-- 'proofprogramslaw32.ContestImp', WHERE WHAT IT READS IS OF BULK AT MOST 1048576: true; the input reads as it did. -/
def contestImpUptoRow : OpenClaim := { program := "ytbfilinnoedfeaagreatdoor", sum := "52435db941622e3db396ab72c96a8f02a01c49cdd65f289fe3c54787ab61134d", func := "proofprograms/proofprogramslaw32.ContestImp", spec := "contestImp", unfollowed := true, recurses := true, named := ["proofprograms/tree.arities"], apart := false, laid := [("proofprograms/tree.arities", laid_proofprograms_tree_arities)], narrowed := true }
def ContestImpUptoSaid : Prop := contestImpUptoRow.holds Tryz.pinned (OpenSpec.upto contestImpSpec)

/-- 'proofprogramslaw40.TableInputs', WHERE WHAT IT READS IS OF BULK AT MOST 1048576: true; the input reads as it did. -/
def tableInputsUptoRow : OpenClaim := { program := "ytbfilinnoedfeaagreatdoor", sum := "52435db941622e3db396ab72c96a8f02a01c49cdd65f289fe3c54787ab61134d", func := "proofprograms/proofprogramslaw40.TableInputs", spec := "tableInputs", unfollowed := true, recurses := true, named := ["proofprograms/tree.arities"], apart := false, laid := [("proofprograms/tree.arities", laid_proofprograms_tree_arities)], narrowed := true }
def TableInputsUptoSaid : Prop := tableInputsUptoRow.holds Tryz.pinned (OpenSpec.upto tableInputsSpec)

end Rows
end Go.Proofs.YtbfilinnoedfeaaGreatDoor
