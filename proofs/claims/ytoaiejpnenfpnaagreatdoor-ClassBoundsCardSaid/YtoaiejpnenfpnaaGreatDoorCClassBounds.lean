/-
  The statement 'ClassBounds': The law ClassBounds of chapter 8 holds for every list of numbers and either truth value: the parts of a bounded quantifier are those from which it was built. No condition of its own; the package-level table of arities is tied to the program's text by the given tie.
-/
import Derived.Test.YtoaiejpnenfpnaaGreatDoorGu
import Derived.Test.YtoaiejpnenfpnaaGreatDoorAbsC
import Derived.Test.YtoaiejpnenfpnaaGreatDoorCards
import Derived.Test.YtoaiejpnenfpnaaGreatDoorTie
import Derived.SevenTiedAt
set_option linter.unusedSimpArgs false
set_option linter.unusedVariables false
set_option maxRecDepth 100000
set_option maxHeartbeats 4000000
namespace Go.Proofs.YtoaiejpnenfpnaaGreatDoor
open Go GoAbs Go.Proofs Go.ChangeShapes Go.WideShapes Go.ChangeAt Go.WideMaps Go.WideElems Go.RowKit

theorem rvl_two {g : G} {w : World} {c c' : Value} {v v' : V} (h : RV g w c v) (h' : RV g w c' v') : RVL g w #[c, c'] [v, v'] :=
  ⟨rfl, fun i a b h1 h2 => by
    match i with
    | 0 => simp at h1 h2; subst h1; subst h2; exact h
    | 1 => simp at h1 h2; subst h1; subst h2; exact h'
    | i + 2 => simp at h2⟩

theorem own0 : ownKnob Tryz.prog.godebug = none := by kernel_rfl
theorem kids0 : Kids Tryz.prog (· < Tryz.prog.types.size) := kids_rows (by kernel_rfl) (by kernel_rfl)
theorem sized0 : sizedB Tryz.prog = true := by kernel_rfl

theorem door_met (os : Os) (args : Array Value) : laidMetH Tryz.prog [("proofprograms/tree.arities", Rows.laid_proofprograms_tree_arities)] ((World.doorLaid Tryz.prog 400 os).forCall (fun _ _ => 0) ⟨#[], args, []⟩).memory :=
  laidMetH_of_parts3 (fuel := 8) (laidMet_of_run' 8 (by kernel_rfl) (by kernel_rfl)) (by kernel_rfl) (by kernel_rfl)

theorem glob0 {W : World} (h : laidMetH Tryz.prog [("proofprograms/tree.arities", Rows.laid_proofprograms_tree_arities)] W) (k : Nat) (cs : List V) (hk : env k = some cs) :
    RV (G0 W) W (.pointer (some ⟨k, 0, none⟩)) (.el cs 0) := by
  rw [MakeChecks.laidMetH_plain _ _ _ (by kernel_rfl)] at h
  obtain ⟨ps, ⟨g0, t0, cs0, f0, p0, q0, hg0, ht0, hv0, hd0, _, _⟩, _, _⟩ := h
  obtain rfl := Option.some.inj ((show Tryz.prog.globalNamed "proofprograms/tree.arities" = some 0 by kernel_rfl).symm.trans hg0)
  obtain rfl := Option.some.inj ((show (Tryz.prog.globals[0]?).map (·.type) = some 191 by kernel_rfl).symm.trans ht0)
  cases k with
  | zero =>
    have := rv_table (zs := [0, 0, 1, 2, 0, 1, 3, 0, 2, 3, 2, 1, 1, 0]) Tryz.underlying191 Tryz.underlying3 (by kernel_rfl) hd0 (fun i => World.var?_cell hg0 hv0 i)
    cases hk
    exact this
  | succ k => cases hk

theorem lifted_ClassBounds (os : Os) (started : os.Started) (H : Type) (enc : TypeId × Value → H) :
    ReturnsInHanded {} Tryz.checked os 10 .any (fun w args => (Rows.classBoundsSpec.pre enc Tryz.prog Tryz.f10 [] false w args ∧ laidMetH Tryz.prog [("proofprograms/tree.arities", Rows.laid_proofprograms_tree_arities)] w) ∧ sizedMet enc Tryz.prog Tryz.f10 (OpenSpec.ofChange Rows.classBoundsSpec) false w args)
      (Rows.classBoundsSpec.post enc Tryz.prog Tryz.f10 false true false false) := by
  refine returnsInHanded_of_change_and (C := Tryz.checked) (X := fun w _ => laidMetH Tryz.prog [("proofprograms/tree.arities", Rows.laid_proofprograms_tree_arities)] w) (fun _ _ _ hh h => h.of_heap hh) own0 started (by kernel_rfl) Tryz.func10
    (ChangeSpec.witness_shaped (enc := enc) (C := Tryz.checked) (os := os) (X := fun w _ => laidMetH Tryz.prog [("proofprograms/tree.arities", Rows.laid_proofprograms_tree_arities)] w) false (World.doorLaid Tryz.prog 400 os) #[.slice none 0 0, .bool false] 8 rfl (World.shaped_of_RefB (by kernel_rfl) (by kernel_rfl)) (by kernel_rfl) (by kernel_rfl) (by kernel_rfl) (door_met os _)) ?_
  intro W base args ds gs before hval0 hW _ _ hL _
  have hval : ∀ (j : Nat) t v, Tryz.f10.params[j]? = some t → args[j]? = some v → Value.okWide Tryz.prog W .any base t v := hval0
  have hW' := hW
  obtain ⟨p, q, hA0, hV, rfl, hfz, hnd⟩ := hW
  have hA : DataW.TrodAll enc Tryz.prog W 0 (fun _ => true) true Tryz.f10.params.toList args.toList ds p := hA0
  rw [Tryz.params10] at hA hval
  obtain ⟨v0, v1, d0, d1, p0, p1, rfl, rfl, rfl, h0, h1'⟩ := trodAll_two hA
  obtain ⟨rfl, rfl⟩ := trodVars_none hV
  have hk0 := hval 0 _ v0 rfl rfl
  have hk1 := hval 1 _ v1 rfl rfl
  obtain ⟨b, rfl, rfl, rfl⟩ := open_bool Tryz.underlying4 hk1 h1'
  have e3 : Tryz.prog.cellsOf 3 = 1 := by kernel_rfl
  obtain ⟨l, hl⟩ := rv_ints Tryz.underlying22 Tryz.underlying3 e3 hk0 h0
  simp only [List.append_nil] at hW'
  have hts : (Tryz.f10.params.toList.all fun t => decide (t < Tryz.prog.types.size)) = true := by kernel_rfl
  refine law_calls (c_ClassBounds l b) (fun k cs hk => glob0 hL k cs hk) (rvl_two hl (.bool b)) (fun W' h1 h2 h3 h4 => ⟨_, rfl, ?_⟩)
  exact post_law kids0 sized0 (fun t ht => of_decide_eq_true (List.all_eq_true.1 hts t ht)) rfl hW' rfl Tryz.underlying4 ⟨rfl, rfl, rfl⟩ h1 h2 h3 h4

theorem ClassBounds_said : Rows.ClassBoundsSaid :=
  OpenClaim.holds_of_wide 10 Tryz.f10 rfl rfl rfl rfl rfl rfl rfl ⟨rfl, rfl, rfl, rfl, rfl⟩ rfl rfl rfl rfl rfl (by kernel_rfl) Tryz.func10 (by kernel_rfl)
    (of_decide_eq_true (by kernel_rfl)) (by unfold Func.isWrapper; first | (rw [if_pos (by decide +kernel)]; kernel_rfl) | (rw [if_neg (by decide +kernel)]; exact ⟨rfl, rfl⟩))
    (fun os started H enc _ => lifted_ClassBounds os started H enc)

/-- The statement: whatever the list of numbers, the law returns true. -/
theorem ClassBounds_holds : Rows.ClassBoundsCardSaid :=
  Claim7.holds_tied_plain_at .later [] [.data] true (true, "f714b182c89559c5649aa20a8a3bf2d95671521b17cb1523fa28f6aaecea28b2") false
    ClassBounds_said (fun _ h => by cases h) (by kernel_rfl) (fun _ h => by cases h) classBounds_row_tie rfl ⟨rfl, rfl⟩ (by kernel_rfl) rfl
    (fun f fn hf hfn => by
      obtain rfl : f = 10 := Option.some.inj ((show Tryz.prog.funcNamed "proofprograms/proofprogramslaw08.ClassBounds" = some 10 by kernel_rfl).symm.trans hf) |>.symm
      obtain rfl : fn = Tryz.f10 := (Option.some.inj (Tryz.func10.symm.trans hfn)).symm
      exact ⟨by kernel_rfl, fun j t ht => by
        rw [Tryz.params10] at ht
        have hm : t ∈ [22, 4] := by simpa using Array.mem_of_getElem? ht
        have hall : ([22, 4].all fun u => !Tryz.prog.wantsStandIn u) = true := by kernel_rfl
        exact (show Tryz.prog.wantsStandIn t = false by simpa using List.all_eq_true.1 hall t hm)⟩)
    (by kernel_rfl)
#print axioms ClassBounds_holds
end Go.Proofs.YtoaiejpnenfpnaaGreatDoor
