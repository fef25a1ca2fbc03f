/-
 The statement 'RefuteNever': a formula that the kernel accepts without lemmas, types and hypotheses has no counterexample. No condition of its own; the package-level table of arities is tied to the program's text by the given tie.
-/
import Derived.Test.YtmfhhhhnokhggaaGreatDoorDRefuteNever
import Derived.Test.YtmfhhhhnokhggaaGreatDoorZa
import Derived.Test.YtmfhhhhnokhggaaGreatDoorBRefuteNever
set_option linter.unusedSimpArgs false
set_option linter.unusedVariables false
set_option maxRecDepth 100000
set_option maxHeartbeats 4000000
namespace Go.Proofs.YtmfhhhhnokhggaaGreatDoor
open Go GoAbs Go.Proofs Go.ChangeShapes Go.WideShapes Go.ChangeAt Go.WideMaps Go.WideElems Go.RowKit
theorem RefuteNever_holds : Rows.RefuteNeverCardSaid :=
 Claim7.holds_tied_plain_at .later [] [.data] true (true, "295237e45a6bb90a7d98d789b16986f3bde690afabb199cf8d27e0178de93f66") true
  RefuteNever_said (fun _ h => by cases h) (by kernel_rfl) (fun _ h => by cases h) refuteNever_row_tie rfl ⟨rfl, rfl⟩ cP8 rfl
  (fun f fn hf hfn => by
   obtain rfl : f = 3 := Option.some.inj (dD6.symm.trans hf) |>.symm
   obtain rfl : fn = Tryz.f3 := (Option.some.inj (Tryz.func3.symm.trans hfn)).symm
   exact ⟨cu4, fun j t ht => by
    rw [Tryz.params3] at ht
    have hm : t ∈ [22] := by simpa using Array.mem_of_getElem? ht
    have bE4 : ([22].all fun u => !Tryz.prog.wantsStandIn u) = true := by kernel_rfl
    exact (show Tryz.prog.wantsStandIn t = false by simpa using List.all_eq_true.1 bE4 t hm)⟩)
  du3
#print axioms RefuteNever_holds
end Go.Proofs.YtmfhhhhnokhggaaGreatDoor
