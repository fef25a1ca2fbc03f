/-
 The statement 'DecidePuts': a formula holds of values exactly if it is true with their terms in place of its variables, with the same work. No condition of its own; the package-level table of arities is tied to the program's text by the given tie.
-/
import Derived.Test.YtenelbgbjmijiaaGreatDoorDDecidePuts
import Derived.Test.YtenelbgbjmijiaaGreatDoorZa
import Derived.Test.YtenelbgbjmijiaaGreatDoorBDecidePuts
set_option linter.unusedSimpArgs false
set_option linter.unusedVariables false
set_option maxRecDepth 100000
set_option maxHeartbeats 4000000
namespace Go.Proofs.YtenelbgbjmijiaaGreatDoor
open Go GoAbs Go.Proofs Go.ChangeShapes Go.WideShapes Go.ChangeAt Go.WideMaps Go.WideElems Go.RowKit
theorem DecidePuts_holds : Rows.DecidePutsCardSaid :=
 Claim7.holds_tied_plain_at .later [] [.data] true (true, "e9e16ee6dbfeffb1dbb838c507e501875ac2c4f9eb15f95de26a8bc9acab7f1d") true
  DecidePuts_said (fun _ h => by cases h) (by kernel_rfl) (fun _ h => by cases h) decidePuts_row_tie rfl ⟨rfl, rfl⟩ seat_main rfl
  (fun f fn hf hfn => by
   obtain rfl : f = 8 := Option.some.inj (fact5.symm.trans hf) |>.symm
   obtain rfl : fn = Tryz.f8 := (Option.some.inj (Tryz.func8.symm.trans hfn)).symm
   exact ⟨seat_looks, fun j t ht => by
    rw [Tryz.params8] at ht
    have hm : t ∈ [22] := by simpa using Array.mem_of_getElem? ht
    have hall : ([22].all fun u => !Tryz.prog.wantsStandIn u) = true := by kernel_rfl
    exact (show Tryz.prog.wantsStandIn t = false by simpa using List.all_eq_true.1 hall t hm)⟩)
  goes_by
#print axioms DecidePuts_holds
end Go.Proofs.YtenelbgbjmijiaaGreatDoor
