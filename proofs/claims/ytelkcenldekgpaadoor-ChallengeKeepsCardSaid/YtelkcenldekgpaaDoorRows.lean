/-
  NARROWER THAN 'FOR EVERY INPUT', by the rows' own cells (each row's printed sentence says how): ChallengeKeeps: laid · ChallengeJoins: laid · ChallengeFree: laid · ChallengeNot: laid.
  DERIVED. THE GIVEN ROWS OF THIS SEAT. 4 by the template 'for every input the law returns true; each argument reads behind the call as it read before'; 0 by the template 'total and deterministic' (their statements: YtelkcenldekgpaaDoorTotals.lean).
  GIVEN WITH THE SEED: the statements are not yours to turn. If you find one false, say at which input.
  Laid BY PROGRAM, IN A SANDBOX (cutbox-rows.mjs): the forced cells as the released guide's own fill.sh prints them over the translation 53b594d05cdef187… (all of the seat's roots in one cut). By AI agents, Wed Nov 11 2026. No macro, syntax, notation, axiom, sorry.
-/
import Derived.Test.YtelkcenldekgpaaDoorChecked
import GoSem.Claim
import GoSem.ClaimJoined
import GoSem.ClaimMapViews
import Derived.JoinedTies
import Derived.KernelRfl
namespace Go.Proofs.YtelkcenldekgpaaDoor
/- THE CELL 'sum', in the pinned program and in every row, IS THE sha256 OF THE DUMP (.gsa) THAT YtelkcenldekgpaaDoorProg.lean LOADS. Nothing in Lean hashes anything: it is a label: what it is worth is what the hold of that sum in a sandbox is worth. -/
noncomputable def Tryd.pinned : Pinned := { name := "ytelkcenldekgpaadoor", sum := "53b594d05cdef1872738863de6e20ea62c2842bb31910403fe3339ae49d6ec22", checked := Tryd.checked }
namespace Rows
def none {H : Type} : Left H := { results := [], args := [] }

/- WHAT THE LISTED PACKAGE-LEVEL VARIABLES READ AS WHEN THE CALL BEGINS. Each datum BY PROGRAM (the guide's laid-datum.mjs) off the statement by which the dump's own 'gosem.cut.vars' lays the variable. In a bare row this is a premise. The card (YtelkcenldekgpaaDoorCards.lean) ties it to the program's text. -/
def laid_proofprograms_tree_arities {H : Type} : DataW H := .agg [.lit (.int .i64 0), .lit (.int .i64 0), .lit (.int .i64 1), .lit (.int .i64 2), .lit (.int .i64 0), .lit (.int .i64 1), .lit (.int .i64 3), .lit (.int .i64 0), .lit (.int .i64 2), .lit (.int .i64 3), .lit (.int .i64 2), .lit (.int .i64 1), .lit (.int .i64 1), .lit (.int .i64 0)]

/-- 'proofprogramslaw28.ChallengeKeeps': WHATEVER THE INPUT: true; the input reads as it did. -/
def challengeKeepsSpec : ChangeSpec := { name := "challengeKeeps", fn := fun _ => fun
  | [d] => { results := [.lit (.bool true)], args := [d] }
  | _ => none }
def challengeKeepsRow : OpenClaim := { program := "ytelkcenldekgpaadoor", sum := "53b594d05cdef1872738863de6e20ea62c2842bb31910403fe3339ae49d6ec22", func := "proofprograms/proofprogramslaw28.ChallengeKeeps", spec := "challengeKeeps", recurses := true, named := ["proofprograms/tree.arities"], apart := false, laid := [("proofprograms/tree.arities", laid_proofprograms_tree_arities)] }
def ChallengeKeepsSaid : Prop := challengeKeepsRow.holds Tryd.pinned (OpenSpec.ofChange challengeKeepsSpec)

/-- ITS FALSE NEIGHBOUR: 'it returns false'. Refute it at one input. -/
def challengeKeepsWrong : ChangeSpec := { name := "challengeKeeps", fn := fun _ => fun
  | [d] => { results := [.lit (.bool false)], args := [d] }
  | _ => none }
def ChallengeKeepsWrongFalsely : Prop := challengeKeepsRow.holds Tryd.pinned (OpenSpec.ofChange challengeKeepsWrong)

/-- 'proofprogramslaw28.ChallengeJoins': WHATEVER THE INPUT: true; the input reads as it did. -/
def challengeJoinsSpec : ChangeSpec := { name := "challengeJoins", fn := fun _ => fun
  | [d] => { results := [.lit (.bool true)], args := [d] }
  | _ => none }
def challengeJoinsRow : OpenClaim := { program := "ytelkcenldekgpaadoor", sum := "53b594d05cdef1872738863de6e20ea62c2842bb31910403fe3339ae49d6ec22", func := "proofprograms/proofprogramslaw28.ChallengeJoins", spec := "challengeJoins", recurses := true, named := ["proofprograms/tree.arities"], apart := false, laid := [("proofprograms/tree.arities", laid_proofprograms_tree_arities)] }
def ChallengeJoinsSaid : Prop := challengeJoinsRow.holds Tryd.pinned (OpenSpec.ofChange challengeJoinsSpec)

/-- ITS FALSE NEIGHBOUR: 'it returns false'. Refute it at one input. -/
def challengeJoinsWrong : ChangeSpec := { name := "challengeJoins", fn := fun _ => fun
  | [d] => { results := [.lit (.bool false)], args := [d] }
  | _ => none }
def ChallengeJoinsWrongFalsely : Prop := challengeJoinsRow.holds Tryd.pinned (OpenSpec.ofChange challengeJoinsWrong)

/-- 'proofprogramslaw28.ChallengeFree': WHATEVER THE INPUT: true; the input reads as it did. -/
def challengeFreeSpec : ChangeSpec := { name := "challengeFree", fn := fun _ => fun
  | [d] => { results := [.lit (.bool true)], args := [d] }
  | _ => none }
def challengeFreeRow : OpenClaim := { program := "ytelkcenldekgpaadoor", sum := "53b594d05cdef1872738863de6e20ea62c2842bb31910403fe3339ae49d6ec22", func := "proofprograms/proofprogramslaw28.ChallengeFree", spec := "challengeFree", recurses := true, named := ["proofprograms/tree.arities"], apart := false, laid := [("proofprograms/tree.arities", laid_proofprograms_tree_arities)] }
def ChallengeFreeSaid : Prop := challengeFreeRow.holds Tryd.pinned (OpenSpec.ofChange challengeFreeSpec)

/-- ITS FALSE NEIGHBOUR: 'it returns false'. Refute it at one input. -/
def challengeFreeWrong : ChangeSpec := { name := "challengeFree", fn := fun _ => fun
  | [d] => { results := [.lit (.bool false)], args := [d] }
  | _ => none }
def ChallengeFreeWrongFalsely : Prop := challengeFreeRow.holds Tryd.pinned (OpenSpec.ofChange challengeFreeWrong)

/-- 'proofprogramslaw28.ChallengeNot': WHATEVER THE INPUT: true; the input reads as it did. -/
def challengeNotSpec : ChangeSpec := { name := "challengeNot", fn := fun _ => fun
  | [d] => { results := [.lit (.bool true)], args := [d] }
  | _ => none }
def challengeNotRow : OpenClaim := { program := "ytelkcenldekgpaadoor", sum := "53b594d05cdef1872738863de6e20ea62c2842bb31910403fe3339ae49d6ec22", func := "proofprograms/proofprogramslaw28.ChallengeNot", spec := "challengeNot", recurses := true, named := ["proofprograms/tree.arities"], apart := false, laid := [("proofprograms/tree.arities", laid_proofprograms_tree_arities)] }
def ChallengeNotSaid : Prop := challengeNotRow.holds Tryd.pinned (OpenSpec.ofChange challengeNotSpec)

/-- ITS FALSE NEIGHBOUR: 'it returns false'. Refute it at one input. -/
def challengeNotWrong : ChangeSpec := { name := "challengeNot", fn := fun _ => fun
  | [d] => { results := [.lit (.bool false)], args := [d] }
  | _ => none }
def ChallengeNotWrongFalsely : Prop := challengeNotRow.holds Tryd.pinned (OpenSpec.ofChange challengeNotWrong)

/- THE SECOND FORM. 'bulk': how many values and letters a reading holds, each counted each time it is reached (what is shared counts as often as it is met; a slice's spare places count too). A statement '..UptoSaid' is the law's where the arguments, and the package variables that the reading takes, are together of bulk at most 1048576: NARROWER than '..Said'. Prove '..Said' where nothing that the law and all that it calls make is longer than what came in: it says more and counts as full. Else prove '..UptoSaid'. A law counts once. -/
mutual
def uptoBulk {H : Type} : DataW H → Nat
  | .lit (.string bytes) => bytes.length + 1
  | .lit _ => 1
  | .nil => 1
  | .ptr d => uptoBulk d + 1
  | .slice elems spare => uptoBulkAll elems + uptoBulkAll spare + 1
  | .agg parts => uptoBulkAll parts + 1
  | .iface _ d => uptoBulk d + 1
  | .map entries => uptoBulkEntries entries + 1
  | .held _ => 1
def uptoBulkAll {H : Type} : List (DataW H) → Nat
  | [] => 0
  | d :: r => uptoBulk d + uptoBulkAll r
def uptoBulkEntries {H : Type} : List (Lit × DataW H) → Nat
  | [] => 0
  | x :: r => uptoBulkEntry x + uptoBulkEntries r
def uptoBulkEntry {H : Type} : Lit × DataW H → Nat
  | (.string bytes, d) => bytes.length + uptoBulk d + 1
  | (_, d) => uptoBulk d + 1
 end
def uptoSmall : (H : Type) → List (DataW H) → Bool := fun _ ds => decide (uptoBulkAll ds ≤ 1048576)
def OpenSpec.upto (s : _root_.Go.ChangeSpec) : _root_.Go.OpenSpec := { _root_.Go.OpenSpec.ofChange s with cond := some uptoSmall }

/-- 'proofprogramslaw28.ChallengeKeeps', WHERE WHAT IT READS IS OF BULK AT MOST 1048576: true; the input reads as it did. -/
def challengeKeepsUptoRow : OpenClaim := { program := "ytelkcenldekgpaadoor", sum := "53b594d05cdef1872738863de6e20ea62c2842bb31910403fe3339ae49d6ec22", func := "proofprograms/proofprogramslaw28.ChallengeKeeps", spec := "challengeKeeps", recurses := true, named := ["proofprograms/tree.arities"], apart := false, laid := [("proofprograms/tree.arities", laid_proofprograms_tree_arities)], narrowed := true }
def ChallengeKeepsUptoSaid : Prop := challengeKeepsUptoRow.holds Tryd.pinned (OpenSpec.upto challengeKeepsSpec)

/-- 'proofprogramslaw28.ChallengeJoins', WHERE WHAT IT READS IS OF BULK AT MOST 1048576: true; the input reads as it did. -/
def challengeJoinsUptoRow : OpenClaim := { program := "ytelkcenldekgpaadoor", sum := "53b594d05cdef1872738863de6e20ea62c2842bb31910403fe3339ae49d6ec22", func := "proofprograms/proofprogramslaw28.ChallengeJoins", spec := "challengeJoins", recurses := true, named := ["proofprograms/tree.arities"], apart := false, laid := [("proofprograms/tree.arities", laid_proofprograms_tree_arities)], narrowed := true }
def ChallengeJoinsUptoSaid : Prop := challengeJoinsUptoRow.holds Tryd.pinned (OpenSpec.upto challengeJoinsSpec)

/-- 'proofprogramslaw28.ChallengeFree', WHERE WHAT IT READS IS OF BULK AT MOST 1048576: true; the input reads as it did. -/
def challengeFreeUptoRow : OpenClaim := { program := "ytelkcenldekgpaadoor", sum := "53b594d05cdef1872738863de6e20ea62c2842bb31910403fe3339ae49d6ec22", func := "proofprograms/proofprogramslaw28.ChallengeFree", spec := "challengeFree", recurses := true, named := ["proofprograms/tree.arities"], apart := false, laid := [("proofprograms/tree.arities", laid_proofprograms_tree_arities)], narrowed := true }
def ChallengeFreeUptoSaid : Prop := challengeFreeUptoRow.holds Tryd.pinned (OpenSpec.upto challengeFreeSpec)

/-- 'proofprogramslaw28.ChallengeNot', WHERE WHAT IT READS IS OF BULK AT MOST 1048576: true; the input reads as it did. -/
def challengeNotUptoRow : OpenClaim := { program := "ytelkcenldekgpaadoor", sum := "53b594d05cdef1872738863de6e20ea62c2842bb31910403fe3339ae49d6ec22", func := "proofprograms/proofprogramslaw28.ChallengeNot", spec := "challengeNot", recurses := true, named := ["proofprograms/tree.arities"], apart := false, laid := [("proofprograms/tree.arities", laid_proofprograms_tree_arities)], narrowed := true }
def ChallengeNotUptoSaid : Prop := challengeNotUptoRow.holds Tryd.pinned (OpenSpec.upto challengeNotSpec)

end Rows
end Go.Proofs.YtelkcenldekgpaaDoor
