/-
 The statement 'RealizeAnd': a pair realizes a conjunction exactly as its parts realize both parts, up to normal forms. No condition of its own; the package-level table of arities is tied to the program's text by the given tie.
-/
import Derived.Test.YteopcebaeojjkaaGreatDoorDRealizeAnd
import Derived.Test.YteopcebaeojjkaaGreatDoorZa
import Derived.Test.YteopcebaeojjkaaGreatDoorBRealizeAnd
set_option linter.unusedSimpArgs false
set_option linter.unusedVariables false
set_option maxRecDepth 100000
set_option maxHeartbeats 4000000
namespace Go.Proofs.YteopcebaeojjkaaGreatDoor
open Go GoAbs Go.Proofs Go.ChangeShapes Go.WideShapes Go.ChangeAt Go.WideMaps Go.WideElems Go.RowKit
/-- The statement: whatever the list of numbers, the law returns true. -/
theorem RealizeAnd_holds : Rows.RealizeAndCardSaid :=
 Claim7.holds_tied_plain_at .later [] [.data] true (true, "bd76ee3397bca7d9536a9acc081408b1850b61500c477731fa1de05b5f2bab91") false
  RealizeAnd_said (fun _ h => by cases h) (by kernel_rfl) (fun _ h => by cases h) realizeAnd_row_tie rfl ⟨rfl, rfl⟩ seat_main rfl
  (fun f fn hf hfn => by
   obtain rfl : f = 8 := Option.some.inj (fact5.symm.trans hf) |>.symm
   obtain rfl : fn = Tryz.f8 := (Option.some.inj (Tryz.func8.symm.trans hfn)).symm
   exact ⟨seat_looks, fun j t ht => by
    rw [Tryz.params8] at ht
    have hm : t ∈ [22] := by simpa using Array.mem_of_getElem? ht
    have hall : ([22].all fun u => !Tryz.prog.wantsStandIn u) = true := by kernel_rfl
    exact (show Tryz.prog.wantsStandIn t = false by simpa using List.all_eq_true.1 hall t hm)⟩)
  goes_by
#print axioms RealizeAnd_holds
end Go.Proofs.YteopcebaeojjkaaGreatDoor
