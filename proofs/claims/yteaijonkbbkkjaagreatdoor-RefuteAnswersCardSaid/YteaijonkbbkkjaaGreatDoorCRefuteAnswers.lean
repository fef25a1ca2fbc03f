/-
 The statement 'RefuteAnswers': an answer makes the body of a task true, no value before it does, and none is given exactly if none does. No condition of its own; the package-level table of arities is tied to the program's text by the given tie.
-/
import Derived.Test.YteaijonkbbkkjaaGreatDoorDRefuteAnswers
import Derived.Test.YteaijonkbbkkjaaGreatDoorZa
import Derived.Test.YteaijonkbbkkjaaGreatDoorBRefuteAnswers
set_option linter.unusedSimpArgs false
set_option linter.unusedVariables false
set_option maxRecDepth 100000
set_option maxHeartbeats 4000000
namespace Go.Proofs.YteaijonkbbkkjaaGreatDoor
open Go GoAbs Go.Proofs Go.ChangeShapes Go.WideShapes Go.ChangeAt Go.WideMaps Go.WideElems Go.RowKit
theorem RefuteAnswers_holds : Rows.RefuteAnswersCardSaid :=
 Claim7.holds_tied_plain_at .later [] [.data] true (true, "67e56f0de17fb30b79747a7a915a610841d3dea69fa44f0305dbee0b26d1c66d") true
  RefuteAnswers_said (fun _ h => by cases h) (by kernel_rfl) (fun _ h => by cases h) refuteAnswers_row_tie rfl ⟨rfl, rfl⟩ cf1 rfl
  (fun f fn hf hfn => by
   obtain rfl : f = 6 := Option.some.inj (cK2.symm.trans hf) |>.symm
   obtain rfl : fn = Tryz.f6 := (Option.some.inj (Tryz.func6.symm.trans hfn)).symm
   exact ⟨bI8, fun j t ht => by
    rw [Tryz.params6] at ht
    have hm : t ∈ [22] := by simpa using Array.mem_of_getElem? ht
    have bd2 : ([22].all fun u => !Tryz.prog.wantsStandIn u) = true := by kernel_rfl
    exact (show Tryz.prog.wantsStandIn t = false by simpa using List.all_eq_true.1 bd2 t hm)⟩)
  cz0
#print axioms RefuteAnswers_holds
end Go.Proofs.YteaijonkbbkkjaaGreatDoor
