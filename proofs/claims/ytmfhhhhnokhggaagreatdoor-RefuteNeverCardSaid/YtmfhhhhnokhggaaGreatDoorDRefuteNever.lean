/-
 The statement as its row says it.
-/
import Derived.Test.YtmfhhhhnokhggaaGreatDoorKJ
import Derived.Test.YtmfhhhhnokhggaaGreatDoorAbsC
import Derived.Test.YtmfhhhhnokhggaaGreatDoorCards
import Derived.Test.YtmfhhhhnokhggaaGreatDoorTie
import Derived.SevenTiedAt
set_option linter.unusedSimpArgs false
set_option linter.unusedVariables false
set_option maxRecDepth 100000
set_option maxHeartbeats 4000000
namespace Go.Proofs.YtmfhhhhnokhggaaGreatDoor
open Go GoAbs Go.Proofs Go.ChangeShapes Go.WideShapes Go.ChangeAt Go.WideMaps Go.WideElems Go.RowKit
theorem ei1 : ownKnob Tryz.prog.godebug = none := by kernel_rfl
theorem dZ5 : Kids Tryz.prog (· < Tryz.prog.types.size) := kids_rows (by kernel_rfl) (by kernel_rfl)
theorem dP4 : sizedB Tryz.prog = true := by kernel_rfl
theorem da8 (os : Os) (args : Array Value) : laidMetH Tryz.prog [("proofprograms/tree.arities", Rows.laid_proofprograms_tree_arities)] ((World.doorLaid Tryz.prog 400 os).forCall (fun _ _ => 0) ⟨#[], args, []⟩).memory :=
 laidMetH_of_parts3 (fuel := 8) (laidMet_of_run' 8 (by kernel_rfl) (by kernel_rfl)) (by kernel_rfl) (by kernel_rfl)
theorem dU9 {W : World} (h : laidMetH Tryz.prog [("proofprograms/tree.arities", Rows.laid_proofprograms_tree_arities)] W) (k : Nat) (cs : List V) (hk : env k = some cs) :
  RV (G0 W) W (.pointer (some ⟨k, 0, none⟩)) (.el cs 0) := by
 rw [MakeChecks.laidMetH_plain _ _ _ (by kernel_rfl)] at h
 obtain ⟨ps, ⟨g0, t0, cs0, f0, p0, q0, hg0, ht0, hv0, hd0, _, _⟩, _, _⟩ := h
 obtain rfl := Option.some.inj ((show Tryz.prog.globalNamed "proofprograms/tree.arities" = some 0 by kernel_rfl).symm.trans hg0)
 obtain rfl := Option.some.inj ((show (Tryz.prog.globals[0]?).map (·.type) = some 259 by kernel_rfl).symm.trans ht0)
 cases k with
 | zero =>
  have := dj0 (zs := [0, 0, 1, 2, 0, 1, 3, 0, 2, 3, 2, 1, 1, 0]) Tryz.underlying259 Tryz.underlying3 (by kernel_rfl) hd0 (fun i => World.var?_cell hg0 hv0 i)
  cases hk
  exact this
 | succ k => cases hk
theorem aY1 (os : Os) (started : os.Started) (H : Type) (enc : TypeId × Value → H) :
  ReturnsInHanded {} Tryz.checked os 3 .any (fun w args => (Rows.refuteNeverSpec.pre enc Tryz.prog Tryz.f3 [] false w args ∧ laidMetH Tryz.prog [("proofprograms/tree.arities", Rows.laid_proofprograms_tree_arities)] w) ∧ sizedMet enc Tryz.prog Tryz.f3 (OpenSpec.ofChange Rows.refuteNeverSpec) false w args)
   (Rows.refuteNeverSpec.post enc Tryz.prog Tryz.f3 false true false false) := by
 refine returnsInHanded_of_change_and (C := Tryz.checked) (X := fun w _ => laidMetH Tryz.prog [("proofprograms/tree.arities", Rows.laid_proofprograms_tree_arities)] w) (fun _ _ _ hh h => h.of_heap hh) ei1 started (by kernel_rfl) Tryz.func3
  (ChangeSpec.witness_shaped (enc := enc) (C := Tryz.checked) (os := os) (X := fun w _ => laidMetH Tryz.prog [("proofprograms/tree.arities", Rows.laid_proofprograms_tree_arities)] w) false (World.doorLaid Tryz.prog 400 os) #[.slice none 0 0] 8 rfl (World.shaped_of_RefB (by kernel_rfl) (by kernel_rfl)) (by kernel_rfl) (by kernel_rfl) (by kernel_rfl) (da8 os _)) ?_
 intro W base args ds gs before dY9 hW _ _ hL _
 have dY8 : ∀ (j : Nat) t v, Tryz.f3.params[j]? = some t → args[j]? = some v → Value.okWide Tryz.prog W .any base t v := dY9
 have hW' := hW
 obtain ⟨p, q, hA0, hV, rfl, hfz, hnd⟩ := hW
 have hA : DataW.TrodAll enc Tryz.prog W 0 (fun _ => true) true Tryz.f3.params.toList args.toList ds p := hA0
 rw [Tryz.params3] at hA dY8
 obtain ⟨v0, d0, rfl, rfl, h0⟩ := trodAll_one hA
 obtain ⟨rfl, rfl⟩ := trodVars_none hV
 have hk0 := dY8 0 _ v0 rfl rfl
 have e3 : Tryz.prog.cellsOf 3 = 1 := by kernel_rfl
 obtain ⟨x0, w0⟩ := dy8 Tryz.underlying22 Tryz.underlying3 e3 hk0 h0
 simp only [List.append_nil] at hW'
 have hts : (Tryz.f3.params.toList.all fun t => decide (t < Tryz.prog.types.size)) = true := by kernel_rfl
 refine cN5 (bD8 x0) (fun k cs hk => dU9 hL k cs hk) (Z7 w0) (fun W' h1 h2 h3 h4 => ⟨_, rfl, ?_⟩)
 exact dh4 dZ5 dP4 (fun t ht => of_decide_eq_true (List.all_eq_true.1 hts t ht)) rfl hW' rfl Tryz.underlying4 ⟨rfl, rfl, rfl⟩ h1 h2 h3 h4
theorem dU3 : (Rows.refuteNeverRow.inPlace == Tryz.prog.inPlace 3) = true := by kernel_rfl
theorem dU4 : (Rows.refuteNeverRow.unfollowed == Tryz.prog.unfollowed 3) = true := by kernel_rfl
theorem dU5 : (Rows.refuteNeverRow.recurses == Tryz.prog.recurses 3) = true := by kernel_rfl
theorem dU6 : (Rows.refuteNeverRow.named == Tryz.prog.varsNamed 3) = true := by kernel_rfl
theorem facts : joinedFacts Tryz.prog 3 Tryz.f3 Rows.refuteNeverSpec Rows.refuteNeverRow = true := by
 unfold joinedFacts
 rw [dU3, dU4, dU5, dU6]
 kernel_rfl
theorem dD6 : Tryz.pinned.checked.prog.funcNamed Rows.refuteNeverRow.func = some 3 := by kernel_rfl
theorem RefuteNever_said : Rows.RefuteNeverSaid :=
 OpenClaim.holds_of_wide 3 Tryz.f3 rfl rfl rfl rfl rfl rfl rfl ⟨rfl, rfl, rfl, rfl, rfl⟩ rfl rfl rfl rfl rfl dD6 Tryz.func3 facts
  (of_decide_eq_true (by kernel_rfl)) (by unfold Func.isWrapper; first | (rw [if_pos (by decide +kernel)]; kernel_rfl) | (rw [if_neg (by decide +kernel)]; exact ⟨rfl, rfl⟩))
  (fun os started H enc _ => aY1 os started H enc)
end Go.Proofs.YtmfhhhhnokhggaaGreatDoor
