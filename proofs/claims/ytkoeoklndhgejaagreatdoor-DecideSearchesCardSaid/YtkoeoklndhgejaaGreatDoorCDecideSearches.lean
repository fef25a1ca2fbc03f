/-
 The statement 'DecideSearches': The first number for which a formula is true, or the error: for any list, formula, bound and work, the law returns true.. No condition of its own; the package-level table of arities is tied to the program's text by the given tie.
-/
import Derived.Test.YtkoeoklndhgejaaGreatDoorDDecideSearches
import Derived.Test.YtkoeoklndhgejaaGreatDoorZa
import Derived.Test.YtkoeoklndhgejaaGreatDoorBDecideSearches
set_option linter.unusedSimpArgs false
set_option linter.unusedVariables false
set_option maxRecDepth 100000
set_option maxHeartbeats 4000000
namespace Go.Proofs.YtkoeoklndhgejaaGreatDoor
open Go GoAbs Go.Proofs Go.ChangeShapes Go.WideShapes Go.ChangeAt Go.WideMaps Go.WideElems Go.RowKit
theorem DecideSearches_holds : Rows.DecideSearchesCardSaid :=
 Claim7.holds_tied_plain_at .later [] [.data] true (true, "d39a32e7de8dc8c7a7827794b8ce9fbf55600d86e71c70f87e42bc395adbb1ae") true
  DecideSearches_said (fun _ h => by cases h) (by kernel_rfl) (fun _ h => by cases h) decideSearches_row_tie rfl ⟨rfl, rfl⟩ seat_main rfl
  (fun f fn hf hfn => by
   obtain rfl : f = 3 := Option.some.inj (fact5.symm.trans hf) |>.symm
   obtain rfl : fn = Tryz.f3 := (Option.some.inj (Tryz.func3.symm.trans hfn)).symm
   exact ⟨seat_looks, fun j t ht => by
    rw [Tryz.params3] at ht
    have hm : t ∈ [22, 29, 3, 3] := by simpa using Array.mem_of_getElem? ht
    have hall : ([22, 29, 3, 3].all fun u => !Tryz.prog.wantsStandIn u) = true := by kernel_rfl
    exact (show Tryz.prog.wantsStandIn t = false by simpa using List.all_eq_true.1 hall t hm)⟩)
  goes_by
#print axioms DecideSearches_holds
end Go.Proofs.YtkoeoklndhgejaaGreatDoor
