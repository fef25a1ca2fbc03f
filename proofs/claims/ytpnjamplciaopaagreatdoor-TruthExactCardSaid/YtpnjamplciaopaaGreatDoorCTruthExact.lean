/-
 The statement 'TruthExact': the terms of If, and characteristic terms, are those of the document's specification, for any raw formula, type and terms, and for those that are made. No condition of its own; the package-level table of arities is tied to the program's text by the given tie.
-/
import Derived.Test.YtpnjamplciaopaaGreatDoorDTruthExact
import Derived.Test.YtpnjamplciaopaaGreatDoorZa
import Derived.Test.YtpnjamplciaopaaGreatDoorBTruthExact
set_option linter.unusedSimpArgs false
set_option linter.unusedVariables false
set_option maxRecDepth 100000
set_option maxHeartbeats 4000000
namespace Go.Proofs.YtpnjamplciaopaaGreatDoor
open Go GoAbs Go.Proofs Go.ChangeShapes Go.WideShapes Go.ChangeAt Go.WideMaps Go.WideElems Go.RowKit
/-- The statement: whatever the list of numbers, the formula, the type and the terms, the law returns true. -/
theorem TruthExact_holds : Rows.TruthExactCardSaid :=
 Claim7.holds_tied_plain_at .later [] [.data] true (true, "b4bd6cb3028485d44dd67763124bac239b9c1011b103b4e6be77f5cc08dacef4") false
  TruthExact_said (fun _ h => by cases h) (by kernel_rfl) (fun _ h => by cases h) truthExact_row_tie rfl ⟨rfl, rfl⟩ seat_main rfl
  (fun f fn hf hfn => by
   obtain rfl : f = 3 := Option.some.inj (fact5.symm.trans hf) |>.symm
   obtain rfl : fn = Tryz.f3 := (Option.some.inj (Tryz.func3.symm.trans hfn)).symm
   exact ⟨seat_looks, fun j t ht => by
    rw [Tryz.params3] at ht
    have hm : t ∈ [22, 29, 25, 31, 31, 31] := by simpa using Array.mem_of_getElem? ht
    have hall : ([22, 29, 25, 31, 31, 31].all fun u => !Tryz.prog.wantsStandIn u) = true := by kernel_rfl
    exact (show Tryz.prog.wantsStandIn t = false by simpa using List.all_eq_true.1 hall t hm)⟩)
  goes_by
#print axioms TruthExact_holds
end Go.Proofs.YtpnjamplciaopaaGreatDoor
