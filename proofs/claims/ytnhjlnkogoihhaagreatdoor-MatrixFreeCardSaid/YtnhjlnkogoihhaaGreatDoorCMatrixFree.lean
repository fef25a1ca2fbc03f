/-
  The statement 'MatrixFree': a matrix has no quantifiers, and is typed wherever formula, witness and challenge are. No condition of its own; the package-level table of arities is tied to the program's text by the given tie.
-/
import Derived.Test.YtnhjlnkogoihhaaGreatDoorDMatrixFree
import Derived.Test.YtnhjlnkogoihhaaGreatDoorZa
import Derived.Test.YtnhjlnkogoihhaaGreatDoorBMatrixFree
set_option linter.unusedSimpArgs false
set_option linter.unusedVariables false
set_option maxRecDepth 100000
set_option maxHeartbeats 4000000
namespace Go.Proofs.YtnhjlnkogoihhaaGreatDoor
open Go GoAbs Go.Proofs Go.ChangeShapes Go.WideShapes Go.ChangeAt Go.WideMaps Go.WideElems Go.RowKit

/-- The statement: whatever the list of numbers, the law returns true. -/
theorem MatrixFree_holds : Rows.MatrixFreeCardSaid :=
  Claim7.holds_tied_plain_at .later [] [.data] true (true, "ee142058debe635c78ff34c6d29aca2e70c5c9f299d2558953c75fe805ae658b") false
    MatrixFree_said (fun _ h => by cases h) (by kernel_rfl) (fun _ h => by cases h) matrixFree_row_tie rfl ⟨rfl, rfl⟩ seat_main rfl
    (fun f fn hf hfn => by
      obtain rfl : f = 9 := Option.some.inj (fact5.symm.trans hf) |>.symm
      obtain rfl : fn = Tryz.f9 := (Option.some.inj (Tryz.func9.symm.trans hfn)).symm
      exact ⟨seat_looks, fun j t ht => by
        rw [Tryz.params9] at ht
        have hm : t ∈ [22] := by simpa using Array.mem_of_getElem? ht
        have hall : ([22].all fun u => !Tryz.prog.wantsStandIn u) = true := by kernel_rfl
        exact (show Tryz.prog.wantsStandIn t = false by simpa using List.all_eq_true.1 hall t hm)⟩)
    goes_by
#print axioms MatrixFree_holds
end Go.Proofs.YtnhjlnkogoihhaaGreatDoor
