/-
 The statement 'ClassDoes': The classes of any formulas, and the parts of bounded quantifiers and tasks, or the error: for any list, formula, two terms and flag, the law returns true. No condition of its own; the package-level table of arities is tied to the program's text by the given tie.
-/
import Derived.Test.YtmbpmbofehmdaaaGreatDoorDClassDoes
import Derived.Test.YtmbpmbofehmdaaaGreatDoorZa
import Derived.Test.YtmbpmbofehmdaaaGreatDoorBClassDoes
set_option linter.unusedSimpArgs false
set_option linter.unusedVariables false
set_option maxRecDepth 100000
set_option maxHeartbeats 4000000
namespace Go.Proofs.YtmbpmbofehmdaaaGreatDoor
open Go GoAbs Go.Proofs Go.ChangeShapes Go.WideShapes Go.ChangeAt Go.WideMaps Go.WideElems Go.RowKit
theorem ClassDoes_holds : Rows.ClassDoesCardSaid :=
 Claim7.holds_tied_plain_at .later [] [.data] true (true, "da1e3e339323539ffa9e886fd04c96796a7695ac9b697ae267496f37005ce08c") false
  ClassDoes_said (fun _ h => by cases h) (by kernel_rfl) (fun _ h => by cases h) classDoes_row_tie rfl ⟨rfl, rfl⟩ seat_main rfl
  (fun f fn hf hfn => by
   obtain rfl : f = 3 := Option.some.inj (fact5.symm.trans hf) |>.symm
   obtain rfl : fn = Tryz.f3 := (Option.some.inj (Tryz.func3.symm.trans hfn)).symm
   exact ⟨seat_looks, fun j t ht => by
    rw [Tryz.params3] at ht
    have hm : t ∈ [22, 29, 31, 31, 4] := by simpa using Array.mem_of_getElem? ht
    have hall : ([22, 29, 31, 31, 4].all fun u => !Tryz.prog.wantsStandIn u) = true := by kernel_rfl
    exact (show Tryz.prog.wantsStandIn t = false by simpa using List.all_eq_true.1 hall t hm)⟩)
  goes_by
#print axioms ClassDoes_holds
end Go.Proofs.YtmbpmbofehmdaaaGreatDoor
