/-
  The statement 'MatrixPut': putting a term in for a variable can be done before the matrix and after it. No condition of its own; the package-level table of arities is tied to the program's text by the given tie.
-/
import Derived.Test.YtdbehnonmffhiaaGreatDoorDMatrixPut
import Derived.Test.YtdbehnonmffhiaaGreatDoorZa
import Derived.Test.YtdbehnonmffhiaaGreatDoorBMatrixPut
set_option linter.unusedSimpArgs false
set_option linter.unusedVariables false
set_option maxRecDepth 100000
set_option maxHeartbeats 4000000
namespace Go.Proofs.YtdbehnonmffhiaaGreatDoor
open Go GoAbs Go.Proofs Go.ChangeShapes Go.WideShapes Go.ChangeAt Go.WideMaps Go.WideElems Go.RowKit

/-- The statement: whatever the list of numbers, the law returns true. -/
theorem MatrixPut_holds : Rows.MatrixPutCardSaid :=
  Claim7.holds_tied_plain_at .later [] [.data] true (true, "9de001815663c336bfa861ef7a58b956e3cfa51c8b70940ce602d867e91b8560") false
    MatrixPut_said (fun _ h => by cases h) (by kernel_rfl) (fun _ h => by cases h) matrixPut_row_tie rfl ⟨rfl, rfl⟩ seat_main rfl
    (fun f fn hf hfn => by
      obtain rfl : f = 3 := Option.some.inj (fact5.symm.trans hf) |>.symm
      obtain rfl : fn = Tryz.f3 := (Option.some.inj (Tryz.func3.symm.trans hfn)).symm
      exact ⟨seat_looks, fun j t ht => by
        rw [Tryz.params3] at ht
        have hm : t ∈ [22] := by simpa using Array.mem_of_getElem? ht
        have hall : ([22].all fun u => !Tryz.prog.wantsStandIn u) = true := by kernel_rfl
        exact (show Tryz.prog.wantsStandIn t = false by simpa using List.all_eq_true.1 hall t hm)⟩)
    goes_by
#print axioms MatrixPut_holds
end Go.Proofs.YtdbehnonmffhiaaGreatDoor
