/-
 The statement 'DecideBounds': a bounded quantifier is true exactly if all (some) of its instances are. No condition of its own; the package-level table of arities is tied to the program's text by the given tie.
-/
import Derived.Test.YtenelbgbjmijiaaGreatDoorDDecideBounds
import Derived.Test.YtenelbgbjmijiaaGreatDoorZa
import Derived.Test.YtenelbgbjmijiaaGreatDoorBDecideBounds
set_option linter.unusedSimpArgs false
set_option linter.unusedVariables false
set_option maxRecDepth 100000
set_option maxHeartbeats 4000000
namespace Go.Proofs.YtenelbgbjmijiaaGreatDoor
open Go GoAbs Go.Proofs Go.ChangeShapes Go.WideShapes Go.ChangeAt Go.WideMaps Go.WideElems Go.RowKit
/-- The statement: whatever is handed over, the law returns true. -/
theorem DecideBounds_holds : Rows.DecideBoundsCardSaid :=
 Claim7.holds_tied_plain_at .later [] [.data] true (true, "e9e16ee6dbfeffb1dbb838c507e501875ac2c4f9eb15f95de26a8bc9acab7f1d") true
  DecideBounds_said (fun _ h => by cases h) (by kernel_rfl) (fun _ h => by cases h) decideBounds_row_tie rfl ⟨rfl, rfl⟩ seat_main rfl
  (fun f fn hf hfn => by
   obtain rfl : f = 7 := Option.some.inj (fact5.symm.trans hf) |>.symm
   obtain rfl : fn = Tryz.f7 := (Option.some.inj (Tryz.func7.symm.trans hfn)).symm
   exact ⟨seat_looks, fun j t ht => by
    rw [Tryz.params7] at ht
    have hm : t ∈ [22, 4, 5] := by simpa using Array.mem_of_getElem? ht
    have hall : ([22, 4, 5].all fun u => !Tryz.prog.wantsStandIn u) = true := by kernel_rfl
    exact (show Tryz.prog.wantsStandIn t = false by simpa using List.all_eq_true.1 hall t hm)⟩)
  goes_by
#print axioms DecideBounds_holds
end Go.Proofs.YtenelbgbjmijiaaGreatDoor
