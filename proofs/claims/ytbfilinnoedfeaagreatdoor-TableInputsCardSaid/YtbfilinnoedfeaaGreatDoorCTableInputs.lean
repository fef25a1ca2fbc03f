/-
 The statement 'TableInputs': states that inputs have the types of the quantifiers in front, come without repetition, and are not more than permitted. No condition of its own; the package-level table of arities is tied to the program's text by the given tie.
-/
import Derived.Test.YtbfilinnoedfeaaGreatDoorDTableInputs
import Derived.Test.YtbfilinnoedfeaaGreatDoorZa
import Derived.Test.YtbfilinnoedfeaaGreatDoorBTableInputs
set_option linter.unusedSimpArgs false
set_option linter.unusedVariables false
set_option maxRecDepth 100000
set_option maxHeartbeats 4000000
namespace Go.Proofs.YtbfilinnoedfeaaGreatDoor
open Go GoAbs Go.Proofs Go.ChangeShapes Go.WideShapes Go.ChangeAt Go.WideMaps Go.WideElems Go.RowKit
theorem TableInputs_holds : Rows.TableInputsCardSaid :=
 Claim7.holds_tied_plain_at .later [] [.data] true (true, "4ccc56ced90c9b300caa55eabe675f347ab40cd062f67b0f26b1e8ace196e984") true
  TableInputs_said (fun _ h => by cases h) (by kernel_rfl) (fun _ h => by cases h) tableInputs_row_tie rfl ⟨rfl, rfl⟩ seat_main rfl
  (fun f fn hf hfn => by
   obtain rfl : f = 6 := Option.some.inj (fact5.symm.trans hf) |>.symm
   obtain rfl : fn = Tryz.f6 := (Option.some.inj (Tryz.func6.symm.trans hfn)).symm
   exact ⟨seat_looks, fun j t ht => by
    rw [Tryz.params6] at ht
    have hm : t ∈ [22] := by simpa using Array.mem_of_getElem? ht
    have hall : ([22].all fun u => !Tryz.prog.wantsStandIn u) = true := by kernel_rfl
    exact (show Tryz.prog.wantsStandIn t = false by simpa using List.all_eq_true.1 hall t hm)⟩)
  goes_by
#print axioms TableInputs_holds
end Go.Proofs.YtbfilinnoedfeaaGreatDoor
