/-
 The statement 'TruthWork': with the formula the term stays: putting a number in for a variable can be done before and after. No condition of its own; the package-level table of arities is tied to the program's text by the given tie.
-/
import Derived.Test.YtpnjamplciaopaaGreatDoorDTruthWork
import Derived.Test.YtpnjamplciaopaaGreatDoorZa
import Derived.Test.YtpnjamplciaopaaGreatDoorBTruthWork
set_option linter.unusedSimpArgs false
set_option linter.unusedVariables false
set_option maxRecDepth 100000
set_option maxHeartbeats 4000000
namespace Go.Proofs.YtpnjamplciaopaaGreatDoor
open Go GoAbs Go.Proofs Go.ChangeShapes Go.WideShapes Go.ChangeAt Go.WideMaps Go.WideElems Go.RowKit
/-- The statement: whatever the list of numbers, the law returns true. -/
theorem TruthWork_holds : Rows.TruthWorkCardSaid :=
 Claim7.holds_tied_plain_at .later [] [.data] true (true, "b4bd6cb3028485d44dd67763124bac239b9c1011b103b4e6be77f5cc08dacef4") false
  TruthWork_said (fun _ h => by cases h) (by kernel_rfl) (fun _ h => by cases h) truthWork_row_tie rfl ⟨rfl, rfl⟩ seat_main rfl
  (fun f fn hf hfn => by
   obtain rfl : f = 6 := Option.some.inj (fact5.symm.trans hf) |>.symm
   obtain rfl : fn = Tryz.f6 := (Option.some.inj (Tryz.func6.symm.trans hfn)).symm
   exact ⟨seat_looks, fun j t ht => by
    rw [Tryz.params6] at ht
    have hm : t ∈ [22] := by simpa using Array.mem_of_getElem? ht
    have hall : ([22].all fun u => !Tryz.prog.wantsStandIn u) = true := by kernel_rfl
    exact (show Tryz.prog.wantsStandIn t = false by simpa using List.all_eq_true.1 hall t hm)⟩)
  goes_by
#print axioms TruthWork_holds
end Go.Proofs.YtpnjamplciaopaaGreatDoor
