/-
 The statement as its row says it.
-/
import Derived.Test.YtmbpmbofehmdaaaGreatDoorYk
import Derived.Test.YtmbpmbofehmdaaaGreatDoorAbsC
import Derived.Test.YtmbpmbofehmdaaaGreatDoorCards
import Derived.Test.YtmbpmbofehmdaaaGreatDoorTie
import Derived.SevenTiedAt
set_option linter.unusedSimpArgs false
set_option linter.unusedVariables false
set_option maxRecDepth 100000
set_option maxHeartbeats 4000000
namespace Go.Proofs.YtmbpmbofehmdaaaGreatDoor
open Go GoAbs Go.Proofs Go.ChangeShapes Go.WideShapes Go.ChangeAt Go.WideMaps Go.WideElems Go.RowKit
theorem own0 : ownKnob Tryz.prog.godebug = none := by kernel_rfl
theorem kids0 : Kids Tryz.prog (· < Tryz.prog.types.size) := kids_rows (by kernel_rfl) (by kernel_rfl)
theorem sized0 : sizedB Tryz.prog = true := by kernel_rfl
theorem door_met (os : Os) (args : Array Value) : laidMetH Tryz.prog [("proofprograms/tree.arities", Rows.laid_proofprograms_tree_arities)] ((World.doorLaid Tryz.prog 400 os).forCall (fun _ _ => 0) ⟨#[], args, []⟩).memory :=
 laidMetH_of_parts3 (fuel := 8) (laidMet_of_run' 8 (by kernel_rfl) (by kernel_rfl)) (by kernel_rfl) (by kernel_rfl)
theorem glob0 {W : World} (h : laidMetH Tryz.prog [("proofprograms/tree.arities", Rows.laid_proofprograms_tree_arities)] W) (k : Nat) (cs : List V) (hk : env k = some cs) :
  RV (G0 W) W (.pointer (some ⟨k, 0, none⟩)) (.el cs 0) := by
 rw [MakeChecks.laidMetH_plain _ _ _ (by kernel_rfl)] at h
 obtain ⟨ps, ⟨g0, t0, cs0, f0, p0, q0, hg0, ht0, hv0, hd0, _, _⟩, _, _⟩ := h
 obtain rfl := Option.some.inj ((show Tryz.prog.globalNamed "proofprograms/tree.arities" = some 0 by kernel_rfl).symm.trans hg0)
 obtain rfl := Option.some.inj ((show (Tryz.prog.globals[0]?).map (·.type) = some 126 by kernel_rfl).symm.trans ht0)
 cases k with
 | zero =>
  have := rv_table (zs := [0, 0, 1, 2, 0, 1, 3, 0, 2, 3, 2, 1, 1, 0]) Tryz.underlying126 Tryz.underlying3 (by kernel_rfl) hd0 (fun i => World.var?_cell hg0 hv0 i)
  cases hk
  exact this
 | succ k => cases hk
theorem trodAll_five {H : Type} {enc : TypeId × Value → H} {P : Program} {w : World} {base : Nat} {spare : Nat → Bool} {held : Bool} {t0 t1 t2 t3 t4 : TypeId} {args : Array Value} {ds : List (DataW H)} {ps : List MemPlace}
  (h : DataW.TrodAll enc P w base spare held [t0, t1, t2, t3, t4] args.toList ds ps) :
  ∃ v0 v1 v2 v3 v4 d0 d1 d2 d3 d4 p0 p1 p2 p3 p4, args = #[v0, v1, v2, v3, v4] ∧ ds = [d0, d1, d2, d3, d4] ∧ ps = p0 ++ p1 ++ p2 ++ p3 ++ p4 ∧ DataW.Trod enc P w base spare held t0 v0 d0 p0 ∧ DataW.Trod enc P w base spare held t1 v1 d1 p1 ∧
   DataW.Trod enc P w base spare held t2 v2 d2 p2 ∧ DataW.Trod enc P w base spare held t3 v3 d3 p3 ∧ DataW.Trod enc P w base spare held t4 v4 d4 p4 := by
 obtain ⟨v0, vs0, d0, e0, p0, q0, hargs, rfl, rfl, h0, r0⟩ := trodAll_cons h
 obtain ⟨v1, vs1, d1, e1, p1, q1, rfl, rfl, rfl, h1, r1⟩ := trodAll_cons r0
 obtain ⟨v2, vs2, d2, e2, p2, q2, rfl, rfl, rfl, h2, r2⟩ := trodAll_cons r1
 obtain ⟨v3, vs3, d3, e3, p3, q3, rfl, rfl, rfl, h3, r3⟩ := trodAll_cons r2
 obtain ⟨v4, vs4, d4, e4, p4, q4, rfl, rfl, rfl, h4, r4⟩ := trodAll_cons r3
 obtain ⟨rfl, rfl, rfl⟩ := trodAll_nil r4
 exact ⟨v0, v1, v2, v3, v4, d0, d1, d2, d3, d4, p0, p1, p2, p3, p4, by cases args; simp_all, rfl, by simp, h0, h1, h2, h3, h4⟩
theorem rvl_five {g : G} {w : World} {c0 c1 c2 c3 c4 : Value} {v0 v1 v2 v3 v4 : V} (h0 : RV g w c0 v0) (h1 : RV g w c1 v1) (h2 : RV g w c2 v2) (h3 : RV g w c3 v3) (h4 : RV g w c4 v4) : RVL g w #[c0, c1, c2, c3, c4] [v0, v1, v2, v3, v4] :=
 ⟨rfl, fun i a b e1 e2 => by
  match i with
  | 0 => simp at e1 e2; subst e1; subst e2; exact h0
  | 1 => simp at e1 e2; subst e1; subst e2; exact h1
  | 2 => simp at e1 e2; subst e1; subst e2; exact h2
  | 3 => simp at e1 e2; subst e1; subst e2; exact h3
  | 4 => simp at e1 e2; subst e1; subst e2; exact h4
  | i + 5 => simp at e2⟩
theorem lifted_ClassDoes (os : Os) (started : os.Started) (H : Type) (enc : TypeId × Value → H) :
  ReturnsInHanded {} Tryz.checked os 3 .any (fun w args => (Rows.classDoesSpec.pre enc Tryz.prog Tryz.f3 [] false w args ∧ laidMetH Tryz.prog [("proofprograms/tree.arities", Rows.laid_proofprograms_tree_arities)] w) ∧ sizedMet enc Tryz.prog Tryz.f3 (OpenSpec.ofChange Rows.classDoesSpec) false w args)
   (Rows.classDoesSpec.post enc Tryz.prog Tryz.f3 false true false false) := by
 refine returnsInHanded_of_change_and (C := Tryz.checked) (X := fun w _ => laidMetH Tryz.prog [("proofprograms/tree.arities", Rows.laid_proofprograms_tree_arities)] w) (fun _ _ _ hh h => h.of_heap hh) own0 started (by kernel_rfl) Tryz.func3
  (ChangeSpec.witness_shaped (enc := enc) (C := Tryz.checked) (os := os) (X := fun w _ => laidMetH Tryz.prog [("proofprograms/tree.arities", Rows.laid_proofprograms_tree_arities)] w) false (World.doorLaid Tryz.prog 400 os) #[.slice none 0 0, .agg #[.int .i64 0, .int .i64 0, .slice none 0 0, .slice none 0 0, .slice none 0 0], .agg #[.int .i64 0, .int .i64 0, .int .i64 0, .slice none 0 0, .slice none 0 0], .agg #[.int .i64 0, .int .i64 0, .int .i64 0, .slice none 0 0, .slice none 0 0], .bool false] 8 rfl (World.shaped_of_RefB (by kernel_rfl) (by kernel_rfl)) (by kernel_rfl) (by kernel_rfl) (by kernel_rfl) (door_met os _)) ?_
 intro W base args ds gs before hval0 hW _ _ hL _
 have hval : ∀ (j : Nat) t v, Tryz.f3.params[j]? = some t → args[j]? = some v → Value.okWide Tryz.prog W .any base t v := hval0
 have hW' := hW
 obtain ⟨p, q, hA0, hV, rfl, hfz, hnd⟩ := hW
 have hA : DataW.TrodAll enc Tryz.prog W 0 (fun _ => true) true Tryz.f3.params.toList args.toList ds p := hA0
 rw [Tryz.params3] at hA hval
 obtain ⟨v0, v1, v2, v3, v4, d0, d1, d2, d3, d4, p0, p1, p2, p3, p4, rfl, rfl, rfl, h0, h1', h2', h3', h4'⟩ := trodAll_five hA
 obtain ⟨rfl, rfl⟩ := trodVars_none hV
 have hk0 := hval 0 _ v0 rfl rfl
 have hk1 := hval 1 _ v1 rfl rfl
 have hk2 := hval 2 _ v2 rfl rfl
 have hk3 := hval 3 _ v3 rfl rfl
 have hk4 := hval 4 _ v4 rfl rfl
 have e3 : Tryz.prog.cellsOf 3 = 1 := by kernel_rfl
 obtain ⟨x0, w0⟩ := rv_ints Tryz.underlying22 Tryz.underlying3 e3 hk0 h0
 obtain ⟨x1, z1, w1⟩ := rv_FmN (enc := enc) (W := W) (sp := fun _ => true) (held := true) (base := 0) (base' := base) Tryz.underlying3 Tryz.underlying25 Tryz.underlying23 rfl rfl rfl rfl e3 (by kernel_rfl) (by kernel_rfl) Tryz.underlying31 Tryz.underlying26 rfl rfl rfl rfl rfl rfl rfl rfl (by kernel_rfl) (by kernel_rfl) Tryz.underlying29 Tryz.underlying27 rfl rfl rfl rfl rfl rfl rfl rfl (by kernel_rfl) (by kernel_rfl) hk1 h1'
 obtain ⟨x2, z2, w2⟩ := rv_TmN (enc := enc) (W := W) (sp := fun _ => true) (held := true) (base := 0) (base' := base) Tryz.underlying3 Tryz.underlying25 Tryz.underlying23 rfl rfl rfl rfl e3 (by kernel_rfl) (by kernel_rfl) Tryz.underlying31 Tryz.underlying26 rfl rfl rfl rfl rfl rfl rfl rfl (by kernel_rfl) (by kernel_rfl) hk2 h2'
 obtain ⟨x3, z3, w3⟩ := rv_TmN (enc := enc) (W := W) (sp := fun _ => true) (held := true) (base := 0) (base' := base) Tryz.underlying3 Tryz.underlying25 Tryz.underlying23 rfl rfl rfl rfl e3 (by kernel_rfl) (by kernel_rfl) Tryz.underlying31 Tryz.underlying26 rfl rfl rfl rfl rfl rfl rfl rfl (by kernel_rfl) (by kernel_rfl) hk3 h3'
 obtain ⟨x4, rfl, rfl, rfl⟩ := open_bool Tryz.underlying4 hk4 h4'
 simp only [List.append_nil, List.nil_append] at hW'
 have hts : (Tryz.f3.params.toList.all fun t => decide (t < Tryz.prog.types.size)) = true := by kernel_rfl
 refine law_calls (c_ClassDoes x0 x1 z1 x2 z2 x3 z3 x4) (fun k cs hk => glob0 hL k cs hk) (rvl_five w0 w1 w2 w3 (.bool x4)) (fun W' h1 h2 h3 h4 => ⟨_, rfl, ?_⟩)
 exact post_law kids0 sized0 (fun t ht => of_decide_eq_true (List.all_eq_true.1 hts t ht)) rfl hW' rfl Tryz.underlying4 ⟨rfl, rfl, rfl⟩ h1 h2 h3 h4
theorem fact1 : (Rows.classDoesRow.inPlace == Tryz.prog.inPlace 3) = true := by kernel_rfl
theorem fact2 : (Rows.classDoesRow.unfollowed == Tryz.prog.unfollowed 3) = true := by kernel_rfl
theorem fact3 : (Rows.classDoesRow.recurses == Tryz.prog.recurses 3) = true := by kernel_rfl
theorem fact4 : (Rows.classDoesRow.named == Tryz.prog.varsNamed 3) = true := by kernel_rfl
theorem facts : joinedFacts Tryz.prog 3 Tryz.f3 Rows.classDoesSpec Rows.classDoesRow = true := by
 unfold joinedFacts
 rw [fact1, fact2, fact3, fact4]
 kernel_rfl
theorem fact5 : Tryz.pinned.checked.prog.funcNamed Rows.classDoesRow.func = some 3 := by kernel_rfl
theorem ClassDoes_said : Rows.ClassDoesSaid :=
 OpenClaim.holds_of_wide 3 Tryz.f3 rfl rfl rfl rfl rfl rfl rfl ⟨rfl, rfl, rfl, rfl, rfl⟩ rfl rfl rfl rfl rfl fact5 Tryz.func3 facts
  (of_decide_eq_true (by kernel_rfl)) (by unfold Func.isWrapper; first | (rw [if_pos (by decide +kernel)]; kernel_rfl) | (rw [if_neg (by decide +kernel)]; exact ⟨rfl, rfl⟩))
  (fun os started H enc _ => lifted_ClassDoes os started H enc)
end Go.Proofs.YtmbpmbofehmdaaaGreatDoor
