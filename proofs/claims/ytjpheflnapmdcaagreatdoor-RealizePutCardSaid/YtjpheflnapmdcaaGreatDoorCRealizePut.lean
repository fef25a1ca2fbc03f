/-
  The statement 'RealizePut': putting a term in for a variable can be done before one says what it means that a term realizes a formula, and after it. No condition of its own; the package-level table of arities is tied to the program's text by the given tie.
-/
import Derived.Test.YtjpheflnapmdcaaGreatDoorDRealizePut
import Derived.Test.YtjpheflnapmdcaaGreatDoorZa
import Derived.Test.YtjpheflnapmdcaaGreatDoorBRealizePut
set_option linter.unusedSimpArgs false
set_option linter.unusedVariables false
set_option maxRecDepth 100000
set_option maxHeartbeats 4000000
namespace Go.Proofs.YtjpheflnapmdcaaGreatDoor
open Go GoAbs Go.Proofs Go.ChangeShapes Go.WideShapes Go.ChangeAt Go.WideMaps Go.WideElems Go.RowKit

/-- The statement: whatever the list of numbers, the law returns true. -/
theorem RealizePut_holds : Rows.RealizePutCardSaid :=
  Claim7.holds_tied_plain_at .later [] [.data] true (true, "7ad2bace45b9239bd739cc6d14d8a662eb6a1e2401e69eb0b9e2aad0f7f7f0b2") false
    RealizePut_said (fun _ h => by cases h) (by kernel_rfl) (fun _ h => by cases h) realizePut_row_tie rfl ⟨rfl, rfl⟩ seat_main rfl
    (fun f fn hf hfn => by
      obtain rfl : f = 9 := Option.some.inj (fact5.symm.trans hf) |>.symm
      obtain rfl : fn = Tryz.f9 := (Option.some.inj (Tryz.func9.symm.trans hfn)).symm
      exact ⟨seat_looks, fun j t ht => by
        rw [Tryz.params9] at ht
        have hm : t ∈ [22] := by simpa using Array.mem_of_getElem? ht
        have hall : ([22].all fun u => !Tryz.prog.wantsStandIn u) = true := by kernel_rfl
        exact (show Tryz.prog.wantsStandIn t = false by simpa using List.all_eq_true.1 hall t hm)⟩)
    goes_by
#print axioms RealizePut_holds
end Go.Proofs.YtjpheflnapmdcaaGreatDoor
