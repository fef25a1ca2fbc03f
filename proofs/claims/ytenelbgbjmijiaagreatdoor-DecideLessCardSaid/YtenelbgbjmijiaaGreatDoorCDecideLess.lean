/-
 The statement 'DecideLess': what is less, for small numbers, and that the least number with a property is the first one. No condition of its own; the package-level table of arities is tied to the program's text by the given tie.
-/
import Derived.Test.YtenelbgbjmijiaaGreatDoorDDecideLess
import Derived.Test.YtenelbgbjmijiaaGreatDoorZa
import Derived.Test.YtenelbgbjmijiaaGreatDoorBDecideLess
set_option linter.unusedSimpArgs false
set_option linter.unusedVariables false
set_option maxRecDepth 100000
set_option maxHeartbeats 4000000
namespace Go.Proofs.YtenelbgbjmijiaaGreatDoor
open Go GoAbs Go.Proofs Go.ChangeShapes Go.WideShapes Go.ChangeAt Go.WideMaps Go.WideElems Go.RowKit
/-- The statement: whatever is handed over, the law returns true. -/
theorem DecideLess_holds : Rows.DecideLessCardSaid :=
 Claim7.holds_tied_plain_at .later [] [.data] true (true, "e9e16ee6dbfeffb1dbb838c507e501875ac2c4f9eb15f95de26a8bc9acab7f1d") true
  DecideLess_said (fun _ h => by cases h) (by kernel_rfl) (fun _ h => by cases h) decideLess_row_tie rfl ⟨rfl, rfl⟩ seat_main rfl
  (fun f fn hf hfn => by
   obtain rfl : f = 6 := Option.some.inj (fact5.symm.trans hf) |>.symm
   obtain rfl : fn = Tryz.f6 := (Option.some.inj (Tryz.func6.symm.trans hfn)).symm
   exact ⟨seat_looks, fun j t ht => by
    rw [Tryz.params6] at ht
    have hm : t ∈ [5, 5] := by simpa using Array.mem_of_getElem? ht
    have hall : ([5, 5].all fun u => !Tryz.prog.wantsStandIn u) = true := by kernel_rfl
    exact (show Tryz.prog.wantsStandIn t = false by simpa using List.all_eq_true.1 hall t hm)⟩)
  goes_by
#print axioms DecideLess_holds
end Go.Proofs.YtenelbgbjmijiaaGreatDoor
