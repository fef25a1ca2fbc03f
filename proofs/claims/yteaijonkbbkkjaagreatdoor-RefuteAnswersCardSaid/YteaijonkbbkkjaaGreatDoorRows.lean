/-
  NARROWER THAN 'FOR EVERY INPUT', by the rows' own cells (each row's printed sentence says how): RefuteValues: laid · RefuteMore: laid · RefuteFinds: laid · RefuteAnswers: laid.
  DERIVED. THE GIVEN ROWS OF THIS SEAT. 4 by the template 'for every input the law returns true; each argument reads behind the call as it read before'; 0 by the template 'total and deterministic' (their statements: YteaijonkbbkkjaaGreatDoorTotals.lean).
  GIVEN WITH THE SEED: the statements are not yours to turn. If you find one false, say at which input.
  Laid BY PROGRAM, IN A SANDBOX (cutbox-rows.mjs): the forced cells as the released guide's own fill.sh prints them over the translation 400f187505f0d7d2… (all of the seat's roots in one cut). By AI agents, Wed Nov 11 2026. No macro, syntax, notation, axiom, sorry.
-/
import Derived.Test.YteaijonkbbkkjaaGreatDoorChecked
import GoSem.Claim
import GoSem.ClaimJoined
import GoSem.ClaimMapViews
import Derived.JoinedTies
import Derived.KernelRfl
namespace Go.Proofs.YteaijonkbbkkjaaGreatDoor
/- THE CELL 'sum', in the pinned program and in every row, IS THE sha256 OF THE DUMP (.gsa) THAT YteaijonkbbkkjaaGreatDoorProg.lean LOADS. Nothing in Lean hashes anything: it is a label: what it is worth is what the hold of that sum in a sandbox is worth. -/
noncomputable def Tryz.pinned : Pinned := { name := "yteaijonkbbkkjaagreatdoor", sum := "400f187505f0d7d2bb578ae115459dad4314e18f306310c6bbfcf2e3234c34b2", checked := Tryz.checked }
namespace Rows
def none {H : Type} : Left H := { results := [], args := [] }

/- WHAT THE LISTED PACKAGE-LEVEL VARIABLES READ AS WHEN THE CALL BEGINS. Each datum BY PROGRAM (the guide's laid-datum.mjs) off the statement by which the dump's own 'gosem.cut.vars' lays the variable. In a bare row this is a premise. The card (YteaijonkbbkkjaaGreatDoorCards.lean) ties it to the program's text. -/
def laid_proofprograms_tree_arities {H : Type} : DataW H := .agg [.lit (.int .i64 0), .lit (.int .i64 0), .lit (.int .i64 1), .lit (.int .i64 2), .lit (.int .i64 0), .lit (.int .i64 1), .lit (.int .i64 3), .lit (.int .i64 0), .lit (.int .i64 2), .lit (.int .i64 3), .lit (.int .i64 2), .lit (.int .i64 1), .lit (.int .i64 1), .lit (.int .i64 0)]

/-- 'proofprogramslaw21.RefuteValues': WHATEVER THE INPUT: true; the input reads as it did. -/
def refuteValuesSpec : ChangeSpec := { name := "refuteValues", fn := fun _ => fun
  | [d1, d2, d3] => { results := [.lit (.bool true)], args := [d1, d2, d3] }
  | _ => none }
def refuteValuesRow : OpenClaim := { program := "yteaijonkbbkkjaagreatdoor", sum := "400f187505f0d7d2bb578ae115459dad4314e18f306310c6bbfcf2e3234c34b2", func := "proofprograms/proofprogramslaw21.RefuteValues", spec := "refuteValues", unfollowed := true, recurses := true, named := ["proofprograms/tree.arities"], apart := false, laid := [("proofprograms/tree.arities", laid_proofprograms_tree_arities)] }
def RefuteValuesSaid : Prop := refuteValuesRow.holds Tryz.pinned (OpenSpec.ofChange refuteValuesSpec)

/-- ITS FALSE NEIGHBOUR: 'it returns false'. Refute it at one input. -/
def refuteValuesWrong : ChangeSpec := { name := "refuteValues", fn := fun _ => fun
  | [d1, d2, d3] => { results := [.lit (.bool false)], args := [d1, d2, d3] }
  | _ => none }
def RefuteValuesWrongFalsely : Prop := refuteValuesRow.holds Tryz.pinned (OpenSpec.ofChange refuteValuesWrong)

/-- 'proofprogramslaw21.RefuteMore': WHATEVER THE INPUT: true; the input reads as it did. -/
def refuteMoreSpec : ChangeSpec := { name := "refuteMore", fn := fun _ => fun
  | [d] => { results := [.lit (.bool true)], args := [d] }
  | _ => none }
def refuteMoreRow : OpenClaim := { program := "yteaijonkbbkkjaagreatdoor", sum := "400f187505f0d7d2bb578ae115459dad4314e18f306310c6bbfcf2e3234c34b2", func := "proofprograms/proofprogramslaw21.RefuteMore", spec := "refuteMore", unfollowed := true, recurses := true, named := ["proofprograms/tree.arities"], apart := false, laid := [("proofprograms/tree.arities", laid_proofprograms_tree_arities)] }
def RefuteMoreSaid : Prop := refuteMoreRow.holds Tryz.pinned (OpenSpec.ofChange refuteMoreSpec)

/-- ITS FALSE NEIGHBOUR: 'it returns false'. Refute it at one input. -/
def refuteMoreWrong : ChangeSpec := { name := "refuteMore", fn := fun _ => fun
  | [d] => { results := [.lit (.bool false)], args := [d] }
  | _ => none }
def RefuteMoreWrongFalsely : Prop := refuteMoreRow.holds Tryz.pinned (OpenSpec.ofChange refuteMoreWrong)

/-- 'proofprogramslaw21.RefuteFinds': WHATEVER THE INPUT: true; the input reads as it did. -/
def refuteFindsSpec : ChangeSpec := { name := "refuteFinds", fn := fun _ => fun
  | [d] => { results := [.lit (.bool true)], args := [d] }
  | _ => none }
def refuteFindsRow : OpenClaim := { program := "yteaijonkbbkkjaagreatdoor", sum := "400f187505f0d7d2bb578ae115459dad4314e18f306310c6bbfcf2e3234c34b2", func := "proofprograms/proofprogramslaw21.RefuteFinds", spec := "refuteFinds", unfollowed := true, recurses := true, named := ["proofprograms/tree.arities"], apart := false, laid := [("proofprograms/tree.arities", laid_proofprograms_tree_arities)] }
def RefuteFindsSaid : Prop := refuteFindsRow.holds Tryz.pinned (OpenSpec.ofChange refuteFindsSpec)

/-- ITS FALSE NEIGHBOUR: 'it returns false'. Refute it at one input. -/
def refuteFindsWrong : ChangeSpec := { name := "refuteFinds", fn := fun _ => fun
  | [d] => { results := [.lit (.bool false)], args := [d] }
  | _ => none }
def RefuteFindsWrongFalsely : Prop := refuteFindsRow.holds Tryz.pinned (OpenSpec.ofChange refuteFindsWrong)

/-- 'proofprogramslaw21.RefuteAnswers': WHATEVER THE INPUT: true; the input reads as it did. -/
def refuteAnswersSpec : ChangeSpec := { name := "refuteAnswers", fn := fun _ => fun
  | [d] => { results := [.lit (.bool true)], args := [d] }
  | _ => none }
def refuteAnswersRow : OpenClaim := { program := "yteaijonkbbkkjaagreatdoor", sum := "400f187505f0d7d2bb578ae115459dad4314e18f306310c6bbfcf2e3234c34b2", func := "proofprograms/proofprogramslaw21.RefuteAnswers", spec := "refuteAnswers", unfollowed := true, recurses := true, named := ["proofprograms/tree.arities"], apart := false, laid := [("proofprograms/tree.arities", laid_proofprograms_tree_arities)] }
def RefuteAnswersSaid : Prop := refuteAnswersRow.holds Tryz.pinned (OpenSpec.ofChange refuteAnswersSpec)

/-- ITS FALSE NEIGHBOUR: 'it returns false'. Refute it at one input. -/
def refuteAnswersWrong : ChangeSpec := { name := "refuteAnswers", fn := fun _ => fun
  | [d] => { results := [.lit (.bool false)], args := [d] }
  | _ => none }
def RefuteAnswersWrongFalsely : Prop := refuteAnswersRow.holds Tryz.pinned (OpenSpec.ofChange refuteAnswersWrong)

/- THE SECOND FORM. 'bulk': how many values and letters a reading holds, each counted each time it is reached (what is shared counts as often as it is met; a slice's spare places count too). A statement '..UptoSaid' is the law's where the arguments, and the package variables that the reading takes, are together of bulk at most 1048576: NARROWER than '..Said'. Prove '..Said' where nothing that the law and all that it calls make is longer than what came in: it says more and counts as full. Else prove '..UptoSaid'. A law counts once. -/
mutual
def uptoBulk {H : Type} : DataW H → Nat
  | .lit (.string bytes) => bytes.length + 1
  | .lit _ => 1
  | .nil => 1
  | .ptr d => uptoBulk d + 1
  | .slice elems spare => uptoBulkAll elems + uptoBulkAll spare + 1
  | .agg parts => uptoBulkAll parts + 1
  | .iface _ d => uptoBulk d + 1
  | .map entries => uptoBulkEntries entries + 1
  | .held _ => 1
def uptoBulkAll {H : Type} : List (DataW H) → Nat
  | [] => 0
  | d :: r => uptoBulk d + uptoBulkAll r
def uptoBulkEntries {H : Type} : List (Lit × DataW H) → Nat
  | [] => 0
  | x :: r => uptoBulkEntry x + uptoBulkEntries r
def uptoBulkEntry {H : Type} : Lit × DataW H → Nat
  | (.string bytes, d) => bytes.length + uptoBulk d + 1
  | (_, d) => uptoBulk d + 1
 end
def uptoSmall : (H : Type) → List (DataW H) → Bool := fun _ ds => decide (uptoBulkAll ds ≤ 1048576)
def OpenSpec.upto (s : _root_.Go.ChangeSpec) : _root_.Go.OpenSpec := { _root_.Go.OpenSpec.ofChange s with cond := some uptoSmall }

/-- 'proofprogramslaw21.RefuteValues', WHERE WHAT IT READS IS OF BULK AT MOST 1048576: true; the input reads as it did. -/
def refuteValuesUptoRow : OpenClaim := { program := "yteaijonkbbkkjaagreatdoor", sum := "400f187505f0d7d2bb578ae115459dad4314e18f306310c6bbfcf2e3234c34b2", func := "proofprograms/proofprogramslaw21.RefuteValues", spec := "refuteValues", unfollowed := true, recurses := true, named := ["proofprograms/tree.arities"], apart := false, laid := [("proofprograms/tree.arities", laid_proofprograms_tree_arities)], narrowed := true }
def RefuteValuesUptoSaid : Prop := refuteValuesUptoRow.holds Tryz.pinned (OpenSpec.upto refuteValuesSpec)

/-- 'proofprogramslaw21.RefuteMore', WHERE WHAT IT READS IS OF BULK AT MOST 1048576: true; the input reads as it did. -/
def refuteMoreUptoRow : OpenClaim := { program := "yteaijonkbbkkjaagreatdoor", sum := "400f187505f0d7d2bb578ae115459dad4314e18f306310c6bbfcf2e3234c34b2", func := "proofprograms/proofprogramslaw21.RefuteMore", spec := "refuteMore", unfollowed := true, recurses := true, named := ["proofprograms/tree.arities"], apart := false, laid := [("proofprograms/tree.arities", laid_proofprograms_tree_arities)], narrowed := true }
def RefuteMoreUptoSaid : Prop := refuteMoreUptoRow.holds Tryz.pinned (OpenSpec.upto refuteMoreSpec)

/-- 'proofprogramslaw21.RefuteFinds', WHERE WHAT IT READS IS OF BULK AT MOST 1048576: true; the input reads as it did. -/
def refuteFindsUptoRow : OpenClaim := { program := "yteaijonkbbkkjaagreatdoor", sum := "400f187505f0d7d2bb578ae115459dad4314e18f306310c6bbfcf2e3234c34b2", func := "proofprograms/proofprogramslaw21.RefuteFinds", spec := "refuteFinds", unfollowed := true, recurses := true, named := ["proofprograms/tree.arities"], apart := false, laid := [("proofprograms/tree.arities", laid_proofprograms_tree_arities)], narrowed := true }
def RefuteFindsUptoSaid : Prop := refuteFindsUptoRow.holds Tryz.pinned (OpenSpec.upto refuteFindsSpec)

/-- 'proofprogramslaw21.RefuteAnswers', WHERE WHAT IT READS IS OF BULK AT MOST 1048576: true; the input reads as it did. -/
def refuteAnswersUptoRow : OpenClaim := { program := "yteaijonkbbkkjaagreatdoor", sum := "400f187505f0d7d2bb578ae115459dad4314e18f306310c6bbfcf2e3234c34b2", func := "proofprograms/proofprogramslaw21.RefuteAnswers", spec := "refuteAnswers", unfollowed := true, recurses := true, named := ["proofprograms/tree.arities"], apart := false, laid := [("proofprograms/tree.arities", laid_proofprograms_tree_arities)], narrowed := true }
def RefuteAnswersUptoSaid : Prop := refuteAnswersUptoRow.holds Tryz.pinned (OpenSpec.upto refuteAnswersSpec)

end Rows
end Go.Proofs.YteaijonkbbkkjaaGreatDoor
