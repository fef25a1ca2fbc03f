/-
 The statement 'RefuteFinds': what is found is refuted, is of the values that were to be tried, and is the first one. No condition of its own; the package-level table of arities is tied to the program's text by the given tie.
-/
import Derived.Test.YteaijonkbbkkjaaGreatDoorDRefuteFinds
import Derived.Test.YteaijonkbbkkjaaGreatDoorZa
import Derived.Test.YteaijonkbbkkjaaGreatDoorBRefuteFinds
set_option linter.unusedSimpArgs false
set_option linter.unusedVariables false
set_option maxRecDepth 100000
set_option maxHeartbeats 4000000
namespace Go.Proofs.YteaijonkbbkkjaaGreatDoor
open Go GoAbs Go.Proofs Go.ChangeShapes Go.WideShapes Go.ChangeAt Go.WideMaps Go.WideElems Go.RowKit
theorem RefuteFinds_holds : Rows.RefuteFindsCardSaid :=
 Claim7.holds_tied_plain_at .later [] [.data] true (true, "67e56f0de17fb30b79747a7a915a610841d3dea69fa44f0305dbee0b26d1c66d") true
  RefuteFinds_said (fun _ h => by cases h) (by kernel_rfl) (fun _ h => by cases h) refuteFinds_row_tie rfl ⟨rfl, rfl⟩ seat_main rfl
  (fun f fn hf hfn => by
   obtain rfl : f = 5 := Option.some.inj (fact5.symm.trans hf) |>.symm
   obtain rfl : fn = Tryz.f5 := (Option.some.inj (Tryz.func5.symm.trans hfn)).symm
   exact ⟨seat_looks, fun j t ht => by
    rw [Tryz.params5] at ht
    have hm : t ∈ [22] := by simpa using Array.mem_of_getElem? ht
    have hall : ([22].all fun u => !Tryz.prog.wantsStandIn u) = true := by kernel_rfl
    exact (show Tryz.prog.wantsStandIn t = false by simpa using List.all_eq_true.1 hall t hm)⟩)
  goes_by
#print axioms RefuteFinds_holds
end Go.Proofs.YteaijonkbbkkjaaGreatDoor
