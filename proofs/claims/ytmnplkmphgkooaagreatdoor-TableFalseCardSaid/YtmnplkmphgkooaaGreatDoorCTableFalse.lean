/-
 The statement 'TableFalse': states that a term that returns another number than the one that is asked for has a false row. No condition of its own; the package-level table of arities is tied to the program's text by the given tie.
-/
import Derived.Test.YtmnplkmphgkooaaGreatDoorDTableFalse
import Derived.Test.YtmnplkmphgkooaaGreatDoorZa
import Derived.Test.YtmnplkmphgkooaaGreatDoorBTableFalse
set_option linter.unusedSimpArgs false
set_option linter.unusedVariables false
set_option maxRecDepth 100000
set_option maxHeartbeats 4000000
namespace Go.Proofs.YtmnplkmphgkooaaGreatDoor
open Go GoAbs Go.Proofs Go.ChangeShapes Go.WideShapes Go.ChangeAt Go.WideMaps Go.WideElems Go.RowKit
theorem TableFalse_holds : Rows.TableFalseCardSaid :=
 Claim7.holds_tied_plain_at .later [] [.data] true (true, "3cdba90e5ccea4e9a5395ce035b1805581422e2dff288ea4450570c301f2878a") true
  TableFalse_said (fun _ h => by cases h) (by kernel_rfl) (fun _ h => by cases h) tableFalse_row_tie rfl ⟨rfl, rfl⟩ seat_main rfl
  (fun f fn hf hfn => by
   obtain rfl : f = 3 := Option.some.inj (fact5.symm.trans hf) |>.symm
   obtain rfl : fn = Tryz.f3 := (Option.some.inj (Tryz.func3.symm.trans hfn)).symm
   exact ⟨seat_looks, fun j t ht => by
    rw [Tryz.params3] at ht
    have hm : t ∈ [22] := by simpa using Array.mem_of_getElem? ht
    have hall : ([22].all fun u => !Tryz.prog.wantsStandIn u) = true := by kernel_rfl
    exact (show Tryz.prog.wantsStandIn t = false by simpa using List.all_eq_true.1 hall t hm)⟩)
  goes_by
#print axioms TableFalse_holds
end Go.Proofs.YtmnplkmphgkooaaGreatDoor
