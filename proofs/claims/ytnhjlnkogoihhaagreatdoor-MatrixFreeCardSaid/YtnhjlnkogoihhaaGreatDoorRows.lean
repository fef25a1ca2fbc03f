/-
  NARROWER THAN 'FOR EVERY INPUT', by the rows' own cells (each row's printed sentence says how): TruthExact: loops, laid · TruthDecides: laid · TruthIf: laid · TruthWork: laid · TruthNot: laid · ClassDoes: loops, laid · MatrixFree: laid · MatrixPut: laid · MatrixSelf: loops, laid · MatrixNot: laid.
  DERIVED. THE GIVEN ROWS OF THIS SEAT. 10 by the template 'for every input the law returns true; each argument reads behind the call as it read before'; 0 by the template 'total and deterministic' (their statements: YtnhjlnkogoihhaaGreatDoorTotals.lean).
  GIVEN WITH THE SEED: the statements are not yours to turn. If you find one false, say at which input.
  Laid BY PROGRAM, IN A SANDBOX (cutbox-rows.mjs): the forced cells as the released guide's own fill.sh prints them over the translation 96534da6b8219fbe… (all of the seat's roots in one cut). By AI agents, Wed Nov 11 2026. No macro, syntax, notation, axiom, sorry.
-/
import Derived.Test.YtnhjlnkogoihhaaGreatDoorChecked
import GoSem.Claim
import GoSem.ClaimJoined
import GoSem.ClaimMapViews
import Derived.JoinedTies
import Derived.KernelRfl
namespace Go.Proofs.YtnhjlnkogoihhaaGreatDoor
/- THE CELL 'sum', in the pinned program and in every row, IS THE sha256 OF THE DUMP (.gsa) THAT YtnhjlnkogoihhaaGreatDoorProg.lean LOADS. Nothing in Lean hashes anything: it is a label: what it is worth is what the hold of that sum in a sandbox is worth. -/
noncomputable def Tryz.pinned : Pinned := { name := "ytnhjlnkogoihhaagreatdoor", sum := "96534da6b8219fbe89106def187849d94069881312c5bbfa17daf2253a48d867", checked := Tryz.checked }
namespace Rows
def none {H : Type} : Left H := { results := [], args := [] }

/- WHAT THE LISTED PACKAGE-LEVEL VARIABLES READ AS WHEN THE CALL BEGINS. Each datum BY PROGRAM (the guide's laid-datum.mjs) off the statement by which the dump's own 'gosem.cut.vars' lays the variable. In a bare row this is a premise. The card (YtnhjlnkogoihhaaGreatDoorCards.lean) ties it to the program's text. -/
def laid_proofprograms_tree_arities {H : Type} : DataW H := .agg [.lit (.int .i64 0), .lit (.int .i64 0), .lit (.int .i64 1), .lit (.int .i64 2), .lit (.int .i64 0), .lit (.int .i64 1), .lit (.int .i64 3), .lit (.int .i64 0), .lit (.int .i64 2), .lit (.int .i64 3), .lit (.int .i64 2), .lit (.int .i64 1), .lit (.int .i64 1), .lit (.int .i64 0)]

/-- 'proofprogramslaw30.TruthExact': WHATEVER THE INPUT: true; the input reads as it did. -/
def truthExactSpec : ChangeSpec := { name := "truthExact", fn := fun _ => fun
  | [d1, d2, d3, d4, d5, d6] => { results := [.lit (.bool true)], args := [d1, d2, d3, d4, d5, d6] }
  | _ => none }
def truthExactRow : OpenClaim := { program := "ytnhjlnkogoihhaagreatdoor", sum := "96534da6b8219fbe89106def187849d94069881312c5bbfa17daf2253a48d867", func := "proofprograms/proofprogramslaw30.TruthExact", spec := "truthExact", unfollowed := true, recurses := true, named := ["proofprograms/tree.arities"], loops := true, apart := false, laid := [("proofprograms/tree.arities", laid_proofprograms_tree_arities)] }
def TruthExactSaid : Prop := truthExactRow.holds Tryz.pinned (OpenSpec.ofChange truthExactSpec)

/-- ITS FALSE NEIGHBOUR: 'it returns false'. Refute it at one input. -/
def truthExactWrong : ChangeSpec := { name := "truthExact", fn := fun _ => fun
  | [d1, d2, d3, d4, d5, d6] => { results := [.lit (.bool false)], args := [d1, d2, d3, d4, d5, d6] }
  | _ => none }
def TruthExactWrongFalsely : Prop := truthExactRow.holds Tryz.pinned (OpenSpec.ofChange truthExactWrong)

/-- 'proofprogramslaw30.TruthDecides': WHATEVER THE INPUT: true; the input reads as it did. -/
def truthDecidesSpec : ChangeSpec := { name := "truthDecides", fn := fun _ => fun
  | [d] => { results := [.lit (.bool true)], args := [d] }
  | _ => none }
def truthDecidesRow : OpenClaim := { program := "ytnhjlnkogoihhaagreatdoor", sum := "96534da6b8219fbe89106def187849d94069881312c5bbfa17daf2253a48d867", func := "proofprograms/proofprogramslaw30.TruthDecides", spec := "truthDecides", unfollowed := true, recurses := true, named := ["proofprograms/tree.arities"], apart := false, laid := [("proofprograms/tree.arities", laid_proofprograms_tree_arities)] }
def TruthDecidesSaid : Prop := truthDecidesRow.holds Tryz.pinned (OpenSpec.ofChange truthDecidesSpec)

/-- ITS FALSE NEIGHBOUR: 'it returns false'. Refute it at one input. -/
def truthDecidesWrong : ChangeSpec := { name := "truthDecides", fn := fun _ => fun
  | [d] => { results := [.lit (.bool false)], args := [d] }
  | _ => none }
def TruthDecidesWrongFalsely : Prop := truthDecidesRow.holds Tryz.pinned (OpenSpec.ofChange truthDecidesWrong)

/-- 'proofprogramslaw30.TruthIf': WHATEVER THE INPUT: true; the input reads as it did. -/
def truthIfSpec : ChangeSpec := { name := "truthIf", fn := fun _ => fun
  | [d] => { results := [.lit (.bool true)], args := [d] }
  | _ => none }
def truthIfRow : OpenClaim := { program := "ytnhjlnkogoihhaagreatdoor", sum := "96534da6b8219fbe89106def187849d94069881312c5bbfa17daf2253a48d867", func := "proofprograms/proofprogramslaw30.TruthIf", spec := "truthIf", unfollowed := true, recurses := true, named := ["proofprograms/tree.arities"], apart := false, laid := [("proofprograms/tree.arities", laid_proofprograms_tree_arities)] }
def TruthIfSaid : Prop := truthIfRow.holds Tryz.pinned (OpenSpec.ofChange truthIfSpec)

/-- ITS FALSE NEIGHBOUR: 'it returns false'. Refute it at one input. -/
def truthIfWrong : ChangeSpec := { name := "truthIf", fn := fun _ => fun
  | [d] => { results := [.lit (.bool false)], args := [d] }
  | _ => none }
def TruthIfWrongFalsely : Prop := truthIfRow.holds Tryz.pinned (OpenSpec.ofChange truthIfWrong)

/-- 'proofprogramslaw30.TruthWork': WHATEVER THE INPUT: true; the input reads as it did. -/
def truthWorkSpec : ChangeSpec := { name := "truthWork", fn := fun _ => fun
  | [d] => { results := [.lit (.bool true)], args := [d] }
  | _ => none }
def truthWorkRow : OpenClaim := { program := "ytnhjlnkogoihhaagreatdoor", sum := "96534da6b8219fbe89106def187849d94069881312c5bbfa17daf2253a48d867", func := "proofprograms/proofprogramslaw30.TruthWork", spec := "truthWork", unfollowed := true, recurses := true, named := ["proofprograms/tree.arities"], apart := false, laid := [("proofprograms/tree.arities", laid_proofprograms_tree_arities)] }
def TruthWorkSaid : Prop := truthWorkRow.holds Tryz.pinned (OpenSpec.ofChange truthWorkSpec)

/-- ITS FALSE NEIGHBOUR: 'it returns false'. Refute it at one input. -/
def truthWorkWrong : ChangeSpec := { name := "truthWork", fn := fun _ => fun
  | [d] => { results := [.lit (.bool false)], args := [d] }
  | _ => none }
def TruthWorkWrongFalsely : Prop := truthWorkRow.holds Tryz.pinned (OpenSpec.ofChange truthWorkWrong)

/-- 'proofprogramslaw30.TruthNot': WHATEVER THE INPUT: true; the input reads as it did. -/
def truthNotSpec : ChangeSpec := { name := "truthNot", fn := fun _ => fun
  | [d] => { results := [.lit (.bool true)], args := [d] }
  | _ => none }
def truthNotRow : OpenClaim := { program := "ytnhjlnkogoihhaagreatdoor", sum := "96534da6b8219fbe89106def187849d94069881312c5bbfa17daf2253a48d867", func := "proofprograms/proofprogramslaw30.TruthNot", spec := "truthNot", unfollowed := true, recurses := true, named := ["proofprograms/tree.arities"], apart := false, laid := [("proofprograms/tree.arities", laid_proofprograms_tree_arities)] }
def TruthNotSaid : Prop := truthNotRow.holds Tryz.pinned (OpenSpec.ofChange truthNotSpec)

/-- ITS FALSE NEIGHBOUR: 'it returns false'. Refute it at one input. -/
def truthNotWrong : ChangeSpec := { name := "truthNot", fn := fun _ => fun
  | [d] => { results := [.lit (.bool false)], args := [d] }
  | _ => none }
def TruthNotWrongFalsely : Prop := truthNotRow.holds Tryz.pinned (OpenSpec.ofChange truthNotWrong)

/-- 'proofprogramslaw08.ClassDoes': WHATEVER THE INPUT: true; the input reads as it did. -/
def classDoesSpec : ChangeSpec := { name := "classDoes", fn := fun _ => fun
  | [d1, d2, d3, d4, d5] => { results := [.lit (.bool true)], args := [d1, d2, d3, d4, d5] }
  | _ => none }
def classDoesRow : OpenClaim := { program := "ytnhjlnkogoihhaagreatdoor", sum := "96534da6b8219fbe89106def187849d94069881312c5bbfa17daf2253a48d867", func := "proofprograms/proofprogramslaw08.ClassDoes", spec := "classDoes", unfollowed := true, recurses := true, named := ["proofprograms/tree.arities"], loops := true, apart := false, laid := [("proofprograms/tree.arities", laid_proofprograms_tree_arities)] }
def ClassDoesSaid : Prop := classDoesRow.holds Tryz.pinned (OpenSpec.ofChange classDoesSpec)

/-- ITS FALSE NEIGHBOUR: 'it returns false'. Refute it at one input. -/
def classDoesWrong : ChangeSpec := { name := "classDoes", fn := fun _ => fun
  | [d1, d2, d3, d4, d5] => { results := [.lit (.bool false)], args := [d1, d2, d3, d4, d5] }
  | _ => none }
def ClassDoesWrongFalsely : Prop := classDoesRow.holds Tryz.pinned (OpenSpec.ofChange classDoesWrong)

/-- 'proofprogramslaw29.MatrixFree': WHATEVER THE INPUT: true; the input reads as it did. -/
def matrixFreeSpec : ChangeSpec := { name := "matrixFree", fn := fun _ => fun
  | [d] => { results := [.lit (.bool true)], args := [d] }
  | _ => none }
def matrixFreeRow : OpenClaim := { program := "ytnhjlnkogoihhaagreatdoor", sum := "96534da6b8219fbe89106def187849d94069881312c5bbfa17daf2253a48d867", func := "proofprograms/proofprogramslaw29.MatrixFree", spec := "matrixFree", unfollowed := true, recurses := true, named := ["proofprograms/tree.arities"], apart := false, laid := [("proofprograms/tree.arities", laid_proofprograms_tree_arities)] }
def MatrixFreeSaid : Prop := matrixFreeRow.holds Tryz.pinned (OpenSpec.ofChange matrixFreeSpec)

/-- ITS FALSE NEIGHBOUR: 'it returns false'. Refute it at one input. -/
def matrixFreeWrong : ChangeSpec := { name := "matrixFree", fn := fun _ => fun
  | [d] => { results := [.lit (.bool false)], args := [d] }
  | _ => none }
def MatrixFreeWrongFalsely : Prop := matrixFreeRow.holds Tryz.pinned (OpenSpec.ofChange matrixFreeWrong)

/-- 'proofprogramslaw29.MatrixPut': WHATEVER THE INPUT: true; the input reads as it did. -/
def matrixPutSpec : ChangeSpec := { name := "matrixPut", fn := fun _ => fun
  | [d] => { results := [.lit (.bool true)], args := [d] }
  | _ => none }
def matrixPutRow : OpenClaim := { program := "ytnhjlnkogoihhaagreatdoor", sum := "96534da6b8219fbe89106def187849d94069881312c5bbfa17daf2253a48d867", func := "proofprograms/proofprogramslaw29.MatrixPut", spec := "matrixPut", unfollowed := true, recurses := true, named := ["proofprograms/tree.arities"], apart := false, laid := [("proofprograms/tree.arities", laid_proofprograms_tree_arities)] }
def MatrixPutSaid : Prop := matrixPutRow.holds Tryz.pinned (OpenSpec.ofChange matrixPutSpec)

/-- ITS FALSE NEIGHBOUR: 'it returns false'. Refute it at one input. -/
def matrixPutWrong : ChangeSpec := { name := "matrixPut", fn := fun _ => fun
  | [d] => { results := [.lit (.bool false)], args := [d] }
  | _ => none }
def MatrixPutWrongFalsely : Prop := matrixPutRow.holds Tryz.pinned (OpenSpec.ofChange matrixPutWrong)

/-- 'proofprogramslaw29.MatrixSelf': WHATEVER THE INPUT: true; the input reads as it did. -/
def matrixSelfSpec : ChangeSpec := { name := "matrixSelf", fn := fun _ => fun
  | [d1, d2, d3] => { results := [.lit (.bool true)], args := [d1, d2, d3] }
  | _ => none }
def matrixSelfRow : OpenClaim := { program := "ytnhjlnkogoihhaagreatdoor", sum := "96534da6b8219fbe89106def187849d94069881312c5bbfa17daf2253a48d867", func := "proofprograms/proofprogramslaw29.MatrixSelf", spec := "matrixSelf", unfollowed := true, recurses := true, named := ["proofprograms/tree.arities"], loops := true, apart := false, laid := [("proofprograms/tree.arities", laid_proofprograms_tree_arities)] }
def MatrixSelfSaid : Prop := matrixSelfRow.holds Tryz.pinned (OpenSpec.ofChange matrixSelfSpec)

/-- ITS FALSE NEIGHBOUR: 'it returns false'. Refute it at one input. -/
def matrixSelfWrong : ChangeSpec := { name := "matrixSelf", fn := fun _ => fun
  | [d1, d2, d3] => { results := [.lit (.bool false)], args := [d1, d2, d3] }
  | _ => none }
def MatrixSelfWrongFalsely : Prop := matrixSelfRow.holds Tryz.pinned (OpenSpec.ofChange matrixSelfWrong)

/-- 'proofprogramslaw29.MatrixNot': WHATEVER THE INPUT: true; the input reads as it did. -/
def matrixNotSpec : ChangeSpec := { name := "matrixNot", fn := fun _ => fun
  | [d] => { results := [.lit (.bool true)], args := [d] }
  | _ => none }
def matrixNotRow : OpenClaim := { program := "ytnhjlnkogoihhaagreatdoor", sum := "96534da6b8219fbe89106def187849d94069881312c5bbfa17daf2253a48d867", func := "proofprograms/proofprogramslaw29.MatrixNot", spec := "matrixNot", unfollowed := true, recurses := true, named := ["proofprograms/tree.arities"], apart := false, laid := [("proofprograms/tree.arities", laid_proofprograms_tree_arities)] }
def MatrixNotSaid : Prop := matrixNotRow.holds Tryz.pinned (OpenSpec.ofChange matrixNotSpec)

/-- ITS FALSE NEIGHBOUR: 'it returns false'. Refute it at one input. -/
def matrixNotWrong : ChangeSpec := { name := "matrixNot", fn := fun _ => fun
  | [d] => { results := [.lit (.bool false)], args := [d] }
  | _ => none }
def MatrixNotWrongFalsely : Prop := matrixNotRow.holds Tryz.pinned (OpenSpec.ofChange matrixNotWrong)

/- THE SECOND FORM. 'bulk': how many values and letters a reading holds, each counted each time it is reached (what is shared counts as often as it is met; a slice's spare places count too). A statement '..UptoSaid' is the law's where the arguments, and the package variables that the reading takes, are together of bulk at most 1048576: NARROWER than '..Said'. Prove '..Said' where nothing that the law and all that it calls make is longer than what came in: it says more and counts as full. Else prove '..UptoSaid'. A law counts once. -/
mutual
def uptoBulk {H : Type} : DataW H → Nat
  | .lit (.string bytes) => bytes.length + 1
  | .lit _ => 1
  | .nil => 1
  | .ptr d => uptoBulk d + 1
  | .slice elems spare => uptoBulkAll elems + uptoBulkAll spare + 1
  | .agg parts => uptoBulkAll parts + 1
  | .iface _ d => uptoBulk d + 1
  | .map entries => uptoBulkEntries entries + 1
  | .held _ => 1
def uptoBulkAll {H : Type} : List (DataW H) → Nat
  | [] => 0
  | d :: r => uptoBulk d + uptoBulkAll r
def uptoBulkEntries {H : Type} : List (Lit × DataW H) → Nat
  | [] => 0
  | x :: r => uptoBulkEntry x + uptoBulkEntries r
def uptoBulkEntry {H : Type} : Lit × DataW H → Nat
  | (.string bytes, d) => bytes.length + uptoBulk d + 1
  | (_, d) => uptoBulk d + 1
 end
def uptoSmall : (H : Type) → List (DataW H) → Bool := fun _ ds => decide (uptoBulkAll ds ≤ 1048576)
def OpenSpec.upto (s : _root_.Go.ChangeSpec) : _root_.Go.OpenSpec := { _root_.Go.OpenSpec.ofChange s with cond := some uptoSmall }

/-- 'proofprogramslaw30.TruthExact', WHERE WHAT IT READS IS OF BULK AT MOST 1048576: true; the input reads as it did. -/
def truthExactUptoRow : OpenClaim := { program := "ytnhjlnkogoihhaagreatdoor", sum := "96534da6b8219fbe89106def187849d94069881312c5bbfa17daf2253a48d867", func := "proofprograms/proofprogramslaw30.TruthExact", spec := "truthExact", unfollowed := true, recurses := true, named := ["proofprograms/tree.arities"], loops := true, apart := false, laid := [("proofprograms/tree.arities", laid_proofprograms_tree_arities)], narrowed := true }
def TruthExactUptoSaid : Prop := truthExactUptoRow.holds Tryz.pinned (OpenSpec.upto truthExactSpec)

/-- 'proofprogramslaw30.TruthDecides', WHERE WHAT IT READS IS OF BULK AT MOST 1048576: true; the input reads as it did. -/
def truthDecidesUptoRow : OpenClaim := { program := "ytnhjlnkogoihhaagreatdoor", sum := "96534da6b8219fbe89106def187849d94069881312c5bbfa17daf2253a48d867", func := "proofprograms/proofprogramslaw30.TruthDecides", spec := "truthDecides", unfollowed := true, recurses := true, named := ["proofprograms/tree.arities"], apart := false, laid := [("proofprograms/tree.arities", laid_proofprograms_tree_arities)], narrowed := true }
def TruthDecidesUptoSaid : Prop := truthDecidesUptoRow.holds Tryz.pinned (OpenSpec.upto truthDecidesSpec)

/-- 'proofprogramslaw30.TruthIf', WHERE WHAT IT READS IS OF BULK AT MOST 1048576: true; the input reads as it did. -/
def truthIfUptoRow : OpenClaim := { program := "ytnhjlnkogoihhaagreatdoor", sum := "96534da6b8219fbe89106def187849d94069881312c5bbfa17daf2253a48d867", func := "proofprograms/proofprogramslaw30.TruthIf", spec := "truthIf", unfollowed := true, recurses := true, named := ["proofprograms/tree.arities"], apart := false, laid := [("proofprograms/tree.arities", laid_proofprograms_tree_arities)], narrowed := true }
def TruthIfUptoSaid : Prop := truthIfUptoRow.holds Tryz.pinned (OpenSpec.upto truthIfSpec)

/-- 'proofprogramslaw30.TruthWork', WHERE WHAT IT READS IS OF BULK AT MOST 1048576: true; the input reads as it did. -/
def truthWorkUptoRow : OpenClaim := { program := "ytnhjlnkogoihhaagreatdoor", sum := "96534da6b8219fbe89106def187849d94069881312c5bbfa17daf2253a48d867", func := "proofprograms/proofprogramslaw30.TruthWork", spec := "truthWork", unfollowed := true, recurses := true, named := ["proofprograms/tree.arities"], apart := false, laid := [("proofprograms/tree.arities", laid_proofprograms_tree_arities)], narrowed := true }
def TruthWorkUptoSaid : Prop := truthWorkUptoRow.holds Tryz.pinned (OpenSpec.upto truthWorkSpec)

/-- 'proofprogramslaw30.TruthNot', WHERE WHAT IT READS IS OF BULK AT MOST 1048576: true; the input reads as it did. -/
def truthNotUptoRow : OpenClaim := { program := "ytnhjlnkogoihhaagreatdoor", sum := "96534da6b8219fbe89106def187849d94069881312c5bbfa17daf2253a48d867", func := "proofprograms/proofprogramslaw30.TruthNot", spec := "truthNot", unfollowed := true, recurses := true, named := ["proofprograms/tree.arities"], apart := false, laid := [("proofprograms/tree.arities", laid_proofprograms_tree_arities)], narrowed := true }
def TruthNotUptoSaid : Prop := truthNotUptoRow.holds Tryz.pinned (OpenSpec.upto truthNotSpec)

/-- 'proofprogramslaw08.ClassDoes', WHERE WHAT IT READS IS OF BULK AT MOST 1048576: true; the input reads as it did. -/
def classDoesUptoRow : OpenClaim := { program := "ytnhjlnkogoihhaagreatdoor", sum := "96534da6b8219fbe89106def187849d94069881312c5bbfa17daf2253a48d867", func := "proofprograms/proofprogramslaw08.ClassDoes", spec := "classDoes", unfollowed := true, recurses := true, named := ["proofprograms/tree.arities"], loops := true, apart := false, laid := [("proofprograms/tree.arities", laid_proofprograms_tree_arities)], narrowed := true }
def ClassDoesUptoSaid : Prop := classDoesUptoRow.holds Tryz.pinned (OpenSpec.upto classDoesSpec)

/-- 'proofprogramslaw29.MatrixFree', WHERE WHAT IT READS IS OF BULK AT MOST 1048576: true; the input reads as it did. -/
def matrixFreeUptoRow : OpenClaim := { program := "ytnhjlnkogoihhaagreatdoor", sum := "96534da6b8219fbe89106def187849d94069881312c5bbfa17daf2253a48d867", func := "proofprograms/proofprogramslaw29.MatrixFree", spec := "matrixFree", unfollowed := true, recurses := true, named := ["proofprograms/tree.arities"], apart := false, laid := [("proofprograms/tree.arities", laid_proofprograms_tree_arities)], narrowed := true }
def MatrixFreeUptoSaid : Prop := matrixFreeUptoRow.holds Tryz.pinned (OpenSpec.upto matrixFreeSpec)

/-- 'proofprogramslaw29.MatrixPut', WHERE WHAT IT READS IS OF BULK AT MOST 1048576: true; the input reads as it did. -/
def matrixPutUptoRow : OpenClaim := { program := "ytnhjlnkogoihhaagreatdoor", sum := "96534da6b8219fbe89106def187849d94069881312c5bbfa17daf2253a48d867", func := "proofprograms/proofprogramslaw29.MatrixPut", spec := "matrixPut", unfollowed := true, recurses := true, named := ["proofprograms/tree.arities"], apart := false, laid := [("proofprograms/tree.arities", laid_proofprograms_tree_arities)], narrowed := true }
def MatrixPutUptoSaid : Prop := matrixPutUptoRow.holds Tryz.pinned (OpenSpec.upto matrixPutSpec)

/-- 'proofprogramslaw29.MatrixSelf', WHERE WHAT IT READS IS OF BULK AT MOST 1048576: true; the input reads as it did. -/
def matrixSelfUptoRow : OpenClaim := { program := "ytnhjlnkogoihhaagreatdoor", sum := "96534da6b8219fbe89106def187849d94069881312c5bbfa17daf2253a48d867", func := "proofprograms/proofprogramslaw29.MatrixSelf", spec := "matrixSelf", unfollowed := true, recurses := true, named := ["proofprograms/tree.arities"], loops := true, apart := false, laid := [("proofprograms/tree.arities", laid_proofprograms_tree_arities)], narrowed := true }
def MatrixSelfUptoSaid : Prop := matrixSelfUptoRow.holds Tryz.pinned (OpenSpec.upto matrixSelfSpec)

/-- 'proofprogramslaw29.MatrixNot', WHERE WHAT IT READS IS OF BULK AT MOST 1048576: true; the input reads as it did. -/
def matrixNotUptoRow : OpenClaim := { program := "ytnhjlnkogoihhaagreatdoor", sum := "96534da6b8219fbe89106def187849d94069881312c5bbfa17daf2253a48d867", func := "proofprograms/proofprogramslaw29.MatrixNot", spec := "matrixNot", unfollowed := true, recurses := true, named := ["proofprograms/tree.arities"], apart := false, laid := [("proofprograms/tree.arities", laid_proofprograms_tree_arities)], narrowed := true }
def MatrixNotUptoSaid : Prop := matrixNotUptoRow.holds Tryz.pinned (OpenSpec.upto matrixNotSpec)

end Rows
end Go.Proofs.YtnhjlnkogoihhaaGreatDoor
