/-
  NARROWER THAN 'FOR EVERY INPUT', by the rows' own cells (each row's printed sentence says how): TruthExact: loops, laid · TruthDecides: laid · TruthIf: laid · TruthWork: laid · TruthNot: laid.
  DERIVED. THE GIVEN ROWS OF THIS SEAT. 5 by the template 'for every input the law returns true; each argument reads behind the call as it read before'; 0 by the template 'total and deterministic' (their statements: YtpnjamplciaopaaGreatDoorTotals.lean).
  GIVEN WITH THE SEED: the statements are not yours to turn. If you find one false, say at which input.
  Laid BY PROGRAM, IN A SANDBOX (cutbox-rows.mjs): the forced cells as the released guide's own fill.sh prints them over the translation 9975f31dd002294c… (all of the seat's roots in one cut). By AI agents, Wed Nov 11 2026. No macro, syntax, notation, axiom, sorry.
-/
import Derived.Test.YtpnjamplciaopaaGreatDoorChecked
import GoSem.Claim
import GoSem.ClaimJoined
import GoSem.ClaimMapViews
import Derived.JoinedTies
import Derived.KernelRfl
namespace Go.Proofs.YtpnjamplciaopaaGreatDoor
/- THE CELL 'sum', in the pinned program and in every row, IS THE sha256 OF THE DUMP (.gsa) THAT YtpnjamplciaopaaGreatDoorProg.lean LOADS. Nothing in Lean hashes anything: it is a label: what it is worth is what the hold of that sum in a sandbox is worth. -/
noncomputable def Tryz.pinned : Pinned := { name := "ytpnjamplciaopaagreatdoor", sum := "9975f31dd002294cc3a2487e40cd97ad0b1865a119291953cb9fb3df64d80cb5", checked := Tryz.checked }
namespace Rows
def none {H : Type} : Left H := { results := [], args := [] }

/- WHAT THE LISTED PACKAGE-LEVEL VARIABLES READ AS WHEN THE CALL BEGINS. Each datum BY PROGRAM (the guide's laid-datum.mjs) off the statement by which the dump's own 'gosem.cut.vars' lays the variable. In a bare row this is a premise. The card (YtpnjamplciaopaaGreatDoorCards.lean) ties it to the program's text. -/
def laid_proofprograms_tree_arities {H : Type} : DataW H := .agg [.lit (.int .i64 0), .lit (.int .i64 0), .lit (.int .i64 1), .lit (.int .i64 2), .lit (.int .i64 0), .lit (.int .i64 1), .lit (.int .i64 3), .lit (.int .i64 0), .lit (.int .i64 2), .lit (.int .i64 3), .lit (.int .i64 2), .lit (.int .i64 1), .lit (.int .i64 1), .lit (.int .i64 0)]

/-- 'proofprogramslaw30.TruthExact': WHATEVER THE INPUT: true; the input reads as it did. -/
def truthExactSpec : ChangeSpec := { name := "truthExact", fn := fun _ => fun
  | [d1, d2, d3, d4, d5, d6] => { results := [.lit (.bool true)], args := [d1, d2, d3, d4, d5, d6] }
  | _ => none }
def truthExactRow : OpenClaim := { program := "ytpnjamplciaopaagreatdoor", sum := "9975f31dd002294cc3a2487e40cd97ad0b1865a119291953cb9fb3df64d80cb5", func := "proofprograms/proofprogramslaw30.TruthExact", spec := "truthExact", unfollowed := true, recurses := true, named := ["proofprograms/tree.arities"], loops := true, apart := false, laid := [("proofprograms/tree.arities", laid_proofprograms_tree_arities)] }
def TruthExactSaid : Prop := truthExactRow.holds Tryz.pinned (OpenSpec.ofChange truthExactSpec)

/-- ITS FALSE NEIGHBOUR: 'it returns false'. Refute it at one input. -/
def truthExactWrong : ChangeSpec := { name := "truthExact", fn := fun _ => fun
  | [d1, d2, d3, d4, d5, d6] => { results := [.lit (.bool false)], args := [d1, d2, d3, d4, d5, d6] }
  | _ => none }
def TruthExactWrongFalsely : Prop := truthExactRow.holds Tryz.pinned (OpenSpec.ofChange truthExactWrong)

/-- 'proofprogramslaw30.TruthDecides': WHATEVER THE INPUT: true; the input reads as it did. -/
def truthDecidesSpec : ChangeSpec := { name := "truthDecides", fn := fun _ => fun
  | [d] => { results := [.lit (.bool true)], args := [d] }
  | _ => none }
def truthDecidesRow : OpenClaim := { program := "ytpnjamplciaopaagreatdoor", sum := "9975f31dd002294cc3a2487e40cd97ad0b1865a119291953cb9fb3df64d80cb5", func := "proofprograms/proofprogramslaw30.TruthDecides", spec := "truthDecides", unfollowed := true, recurses := true, named := ["proofprograms/tree.arities"], apart := false, laid := [("proofprograms/tree.arities", laid_proofprograms_tree_arities)] }
def TruthDecidesSaid : Prop := truthDecidesRow.holds Tryz.pinned (OpenSpec.ofChange truthDecidesSpec)

/-- ITS FALSE NEIGHBOUR: 'it returns false'. Refute it at one input. -/
def truthDecidesWrong : ChangeSpec := { name := "truthDecides", fn := fun _ => fun
  | [d] => { results := [.lit (.bool false)], args := [d] }
  | _ => none }
def TruthDecidesWrongFalsely : Prop := truthDecidesRow.holds Tryz.pinned (OpenSpec.ofChange truthDecidesWrong)

/-- 'proofprogramslaw30.TruthIf': WHATEVER THE INPUT: true; the input reads as it did. -/
def truthIfSpec : ChangeSpec := { name := "truthIf", fn := fun _ => fun
  | [d] => { results := [.lit (.bool true)], args := [d] }
  | _ => none }
def truthIfRow : OpenClaim := { program := "ytpnjamplciaopaagreatdoor", sum := "9975f31dd002294cc3a2487e40cd97ad0b1865a119291953cb9fb3df64d80cb5", func := "proofprograms/proofprogramslaw30.TruthIf", spec := "truthIf", unfollowed := true, recurses := true, named := ["proofprograms/tree.arities"], apart := false, laid := [("proofprograms/tree.arities", laid_proofprograms_tree_arities)] }
def TruthIfSaid : Prop := truthIfRow.holds Tryz.pinned (OpenSpec.ofChange truthIfSpec)

/-- ITS FALSE NEIGHBOUR: 'it returns false'. Refute it at one input. -/
def truthIfWrong : ChangeSpec := { name := "truthIf", fn := fun _ => fun
  | [d] => { results := [.lit (.bool false)], args := [d] }
  | _ => none }
def TruthIfWrongFalsely : Prop := truthIfRow.holds Tryz.pinned (OpenSpec.ofChange truthIfWrong)

/-- 'proofprogramslaw30.TruthWork': WHATEVER THE INPUT: true; the input reads as it did. -/
def truthWorkSpec : ChangeSpec := { name := "truthWork", fn := fun _ => fun
  | [d] => { results := [.lit (.bool true)], args := [d] }
  | _ => none }
def truthWorkRow : OpenClaim := { program := "ytpnjamplciaopaagreatdoor", sum := "9975f31dd002294cc3a2487e40cd97ad0b1865a119291953cb9fb3df64d80cb5", func := "proofprograms/proofprogramslaw30.TruthWork", spec := "truthWork", unfollowed := true, recurses := true, named := ["proofprograms/tree.arities"], apart := false, laid := [("proofprograms/tree.arities", laid_proofprograms_tree_arities)] }
def TruthWorkSaid : Prop := truthWorkRow.holds Tryz.pinned (OpenSpec.ofChange truthWorkSpec)

/-- ITS FALSE NEIGHBOUR: 'it returns false'. Refute it at one input. -/
def truthWorkWrong : ChangeSpec := { name := "truthWork", fn := fun _ => fun
  | [d] => { results := [.lit (.bool false)], args := [d] }
  | _ => none }
def TruthWorkWrongFalsely : Prop := truthWorkRow.holds Tryz.pinned (OpenSpec.ofChange truthWorkWrong)

/-- 'proofprogramslaw30.TruthNot': WHATEVER THE INPUT: true; the input reads as it did. -/
def truthNotSpec : ChangeSpec := { name := "truthNot", fn := fun _ => fun
  | [d] => { results := [.lit (.bool true)], args := [d] }
  | _ => none }
def truthNotRow : OpenClaim := { program := "ytpnjamplciaopaagreatdoor", sum := "9975f31dd002294cc3a2487e40cd97ad0b1865a119291953cb9fb3df64d80cb5", func := "proofprograms/proofprogramslaw30.TruthNot", spec := "truthNot", unfollowed := true, recurses := true, named := ["proofprograms/tree.arities"], apart := false, laid := [("proofprograms/tree.arities", laid_proofprograms_tree_arities)] }
def TruthNotSaid : Prop := truthNotRow.holds Tryz.pinned (OpenSpec.ofChange truthNotSpec)

/-- ITS FALSE NEIGHBOUR: 'it returns false'. Refute it at one input. -/
def truthNotWrong : ChangeSpec := { name := "truthNot", fn := fun _ => fun
  | [d] => { results := [.lit (.bool false)], args := [d] }
  | _ => none }
def TruthNotWrongFalsely : Prop := truthNotRow.holds Tryz.pinned (OpenSpec.ofChange truthNotWrong)

/- THE SECOND FORM. 'bulk': how many values and letters a reading holds, each counted each time it is reached (what is shared counts as often as it is met; a slice's spare places count too). A statement '..UptoSaid' is the law's where the arguments, and the package variables that the reading takes, are together of bulk at most 1048576: NARROWER than '..Said'. Prove '..Said' where nothing that the law and all that it calls make is longer than what came in: it says more and counts as full. Else prove '..UptoSaid'. A law counts once. -/
mutual
def uptoBulk {H : Type} : DataW H → Nat
  | .lit (.string bytes) => bytes.length + 1
  | .lit _ => 1
  | .nil => 1
  | .ptr d => uptoBulk d + 1
  | .slice elems spare => uptoBulkAll elems + uptoBulkAll spare + 1
  | .agg parts => uptoBulkAll parts + 1
  | .iface _ d => uptoBulk d + 1
  | .map entries => uptoBulkEntries entries + 1
  | .held _ => 1
def uptoBulkAll {H : Type} : List (DataW H) → Nat
  | [] => 0
  | d :: r => uptoBulk d + uptoBulkAll r
def uptoBulkEntries {H : Type} : List (Lit × DataW H) → Nat
  | [] => 0
  | x :: r => uptoBulkEntry x + uptoBulkEntries r
def uptoBulkEntry {H : Type} : Lit × DataW H → Nat
  | (.string bytes, d) => bytes.length + uptoBulk d + 1
  | (_, d) => uptoBulk d + 1
 end
def uptoSmall : (H : Type) → List (DataW H) → Bool := fun _ ds => decide (uptoBulkAll ds ≤ 1048576)
def OpenSpec.upto (s : _root_.Go.ChangeSpec) : _root_.Go.OpenSpec := { _root_.Go.OpenSpec.ofChange s with cond := some uptoSmall }

/-- 'proofprogramslaw30.TruthExact', WHERE WHAT IT READS IS OF BULK AT MOST 1048576: true; the input reads as it did. -/
def truthExactUptoRow : OpenClaim := { program := "ytpnjamplciaopaagreatdoor", sum := "9975f31dd002294cc3a2487e40cd97ad0b1865a119291953cb9fb3df64d80cb5", func := "proofprograms/proofprogramslaw30.TruthExact", spec := "truthExact", unfollowed := true, recurses := true, named := ["proofprograms/tree.arities"], loops := true, apart := false, laid := [("proofprograms/tree.arities", laid_proofprograms_tree_arities)], narrowed := true }
def TruthExactUptoSaid : Prop := truthExactUptoRow.holds Tryz.pinned (OpenSpec.upto truthExactSpec)

/-- 'proofprogramslaw30.TruthDecides', WHERE WHAT IT READS IS OF BULK AT MOST 1048576: true; the input reads as it did. -/
def truthDecidesUptoRow : OpenClaim := { program := "ytpnjamplciaopaagreatdoor", sum := "9975f31dd002294cc3a2487e40cd97ad0b1865a119291953cb9fb3df64d80cb5", func := "proofprograms/proofprogramslaw30.TruthDecides", spec := "truthDecides", unfollowed := true, recurses := true, named := ["proofprograms/tree.arities"], apart := false, laid := [("proofprograms/tree.arities", laid_proofprograms_tree_arities)], narrowed := true }
def TruthDecidesUptoSaid : Prop := truthDecidesUptoRow.holds Tryz.pinned (OpenSpec.upto truthDecidesSpec)

/-- 'proofprogramslaw30.TruthIf', WHERE WHAT IT READS IS OF BULK AT MOST 1048576: true; the input reads as it did. -/
def truthIfUptoRow : OpenClaim := { program := "ytpnjamplciaopaagreatdoor", sum := "9975f31dd002294cc3a2487e40cd97ad0b1865a119291953cb9fb3df64d80cb5", func := "proofprograms/proofprogramslaw30.TruthIf", spec := "truthIf", unfollowed := true, recurses := true, named := ["proofprograms/tree.arities"], apart := false, laid := [("proofprograms/tree.arities", laid_proofprograms_tree_arities)], narrowed := true }
def TruthIfUptoSaid : Prop := truthIfUptoRow.holds Tryz.pinned (OpenSpec.upto truthIfSpec)

/-- 'proofprogramslaw30.TruthWork', WHERE WHAT IT READS IS OF BULK AT MOST 1048576: true; the input reads as it did. -/
def truthWorkUptoRow : OpenClaim := { program := "ytpnjamplciaopaagreatdoor", sum := "9975f31dd002294cc3a2487e40cd97ad0b1865a119291953cb9fb3df64d80cb5", func := "proofprograms/proofprogramslaw30.TruthWork", spec := "truthWork", unfollowed := true, recurses := true, named := ["proofprograms/tree.arities"], apart := false, laid := [("proofprograms/tree.arities", laid_proofprograms_tree_arities)], narrowed := true }
def TruthWorkUptoSaid : Prop := truthWorkUptoRow.holds Tryz.pinned (OpenSpec.upto truthWorkSpec)

/-- 'proofprogramslaw30.TruthNot', WHERE WHAT IT READS IS OF BULK AT MOST 1048576: true; the input reads as it did. -/
def truthNotUptoRow : OpenClaim := { program := "ytpnjamplciaopaagreatdoor", sum := "9975f31dd002294cc3a2487e40cd97ad0b1865a119291953cb9fb3df64d80cb5", func := "proofprograms/proofprogramslaw30.TruthNot", spec := "truthNot", unfollowed := true, recurses := true, named := ["proofprograms/tree.arities"], apart := false, laid := [("proofprograms/tree.arities", laid_proofprograms_tree_arities)], narrowed := true }
def TruthNotUptoSaid : Prop := truthNotUptoRow.holds Tryz.pinned (OpenSpec.upto truthNotSpec)

end Rows
end Go.Proofs.YtpnjamplciaopaaGreatDoor
