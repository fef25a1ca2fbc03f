/-
  The statement 'ChallengeJoins': for every list of numbers the law returns true, and leaves the list as it was. No condition of its own; the package-level table of arities is tied to the program's text by the given tie.
-/
import Derived.Test.YteopcebaeojjkaaDoorJj
import Derived.Test.YteopcebaeojjkaaDoorAbsC
import Derived.Test.YteopcebaeojjkaaDoorCards
import Derived.Test.YteopcebaeojjkaaDoorTie
import Derived.SevenTiedAt
set_option linter.unusedSimpArgs false
set_option linter.unusedVariables false
set_option maxRecDepth 100000
set_option maxHeartbeats 4000000
namespace Go.Proofs.YteopcebaeojjkaaDoor
open Go GoAbs Go.Proofs Go.ChangeShapes Go.WideShapes Go.ChangeAt Go.WideMaps Go.WideElems Go.RowKit

theorem own0 : ownKnob Tryd.prog.godebug = none := by kernel_rfl
theorem kids0 : Kids Tryd.prog (· < Tryd.prog.types.size) := kids_rows (by kernel_rfl) (by kernel_rfl)
theorem sized0 : sizedB Tryd.prog = true := by kernel_rfl

theorem door_met (os : Os) (args : Array Value) : laidMetH Tryd.prog [("proofprograms/tree.arities", Rows.laid_proofprograms_tree_arities)] ((World.doorLaid Tryd.prog 400 os).forCall (fun _ _ => 0) ⟨#[], args, []⟩).memory :=
  laidMetH_of_parts3 (fuel := 8) (laidMet_of_run' 8 (by kernel_rfl) (by kernel_rfl)) (by kernel_rfl) (by kernel_rfl)

theorem glob0 {W : World} (h : laidMetH Tryd.prog [("proofprograms/tree.arities", Rows.laid_proofprograms_tree_arities)] W) (k : Nat) (cs : List V) (hk : env k = some cs) :
    RV (G0 W) W (.pointer (some ⟨k, 0, none⟩)) (.el cs 0) := by
  rw [MakeChecks.laidMetH_plain _ _ _ (by kernel_rfl)] at h
  obtain ⟨ps, ⟨g0, t0, cs0, f0, p0, q0, hg0, ht0, hv0, hd0, _, _⟩, _, _⟩ := h
  obtain rfl := Option.some.inj ((show Tryd.prog.globalNamed "proofprograms/tree.arities" = some 0 by kernel_rfl).symm.trans hg0)
  obtain rfl := Option.some.inj ((show (Tryd.prog.globals[0]?).map (·.type) = some 103 by kernel_rfl).symm.trans ht0)
  cases k with
  | zero =>
    have := rv_table (zs := [0, 0, 1, 2, 0, 1, 3, 0, 2, 3, 2, 1, 1, 0]) Tryd.underlying103 Tryd.underlying3 (by kernel_rfl) hd0 (fun i => World.var?_cell hg0 hv0 i)
    cases hk
    exact this
  | succ k => cases hk

theorem lifted_ChallengeJoins (os : Os) (started : os.Started) (H : Type) (enc : TypeId × Value → H) :
    ReturnsInHanded {} Tryd.checked os 3 .any (fun w args => (Rows.challengeJoinsSpec.pre enc Tryd.prog Tryd.f3 [] false w args ∧ laidMetH Tryd.prog [("proofprograms/tree.arities", Rows.laid_proofprograms_tree_arities)] w) ∧ sizedMet enc Tryd.prog Tryd.f3 (OpenSpec.ofChange Rows.challengeJoinsSpec) false w args)
      (Rows.challengeJoinsSpec.post enc Tryd.prog Tryd.f3 false true false false) := by
  refine returnsInHanded_of_change_and (C := Tryd.checked) (X := fun w _ => laidMetH Tryd.prog [("proofprograms/tree.arities", Rows.laid_proofprograms_tree_arities)] w) (fun _ _ _ hh h => h.of_heap hh) own0 started (by kernel_rfl) Tryd.func3
    (ChangeSpec.witness_shaped (enc := enc) (C := Tryd.checked) (os := os) (X := fun w _ => laidMetH Tryd.prog [("proofprograms/tree.arities", Rows.laid_proofprograms_tree_arities)] w) false (World.doorLaid Tryd.prog 400 os) #[.slice none 0 0] 8 rfl (World.shaped_of_RefB (by kernel_rfl) (by kernel_rfl)) (by kernel_rfl) (by kernel_rfl) (by kernel_rfl) (door_met os _)) ?_
  intro W base args ds gs before hval0 hW _ _ hL _
  have hval : ∀ (j : Nat) t v, Tryd.f3.params[j]? = some t → args[j]? = some v → Value.okWide Tryd.prog W .any base t v := hval0
  have hW' := hW
  obtain ⟨p, q, hA0, hV, rfl, hfz, hnd⟩ := hW
  have hA : DataW.TrodAll enc Tryd.prog W 0 (fun _ => true) true Tryd.f3.params.toList args.toList ds p := hA0
  rw [Tryd.params3] at hA hval
  obtain ⟨v0, d0, rfl, rfl, h0⟩ := trodAll_one hA
  obtain ⟨rfl, rfl⟩ := trodVars_none hV
  have hk0 := hval 0 _ v0 rfl rfl
  have e3 : Tryd.prog.cellsOf 3 = 1 := by kernel_rfl
  obtain ⟨l, hl⟩ := rv_ints Tryd.underlying22 Tryd.underlying3 e3 hk0 h0
  simp only [List.append_nil] at hW'
  have hts : (Tryd.f3.params.toList.all fun t => decide (t < Tryd.prog.types.size)) = true := by kernel_rfl
  refine law_calls (c_ChallengeJoins l) (fun k cs hk => glob0 hL k cs hk) (rvl_one hl) (fun W' h1 h2 h3 h4 => ⟨_, rfl, ?_⟩)
  exact post_law kids0 sized0 (fun t ht => of_decide_eq_true (List.all_eq_true.1 hts t ht)) rfl hW' rfl Tryd.underlying4 ⟨rfl, rfl, rfl⟩ h1 h2 h3 h4

theorem fact1 : (Rows.challengeJoinsRow.inPlace == Tryd.prog.inPlace 3) = true := by kernel_rfl
theorem fact2 : (Rows.challengeJoinsRow.unfollowed == Tryd.prog.unfollowed 3) = true := by kernel_rfl
theorem fact3 : (Rows.challengeJoinsRow.recurses == Tryd.prog.recurses 3) = true := by kernel_rfl
theorem fact4 : (Rows.challengeJoinsRow.named == Tryd.prog.varsNamed 3) = true := by kernel_rfl
theorem facts : joinedFacts Tryd.prog 3 Tryd.f3 Rows.challengeJoinsSpec Rows.challengeJoinsRow = true := by
  unfold joinedFacts
  rw [fact1, fact2, fact3, fact4]
  kernel_rfl
theorem fact5 : Tryd.pinned.checked.prog.funcNamed Rows.challengeJoinsRow.func = some 3 := by kernel_rfl

theorem ChallengeJoins_said : Rows.ChallengeJoinsSaid :=
  OpenClaim.holds_of_wide 3 Tryd.f3 rfl rfl rfl rfl rfl rfl rfl ⟨rfl, rfl, rfl, rfl, rfl⟩ rfl rfl rfl rfl rfl fact5 Tryd.func3 facts
    (of_decide_eq_true (by kernel_rfl)) (by unfold Func.isWrapper; first | (rw [if_pos (by decide +kernel)]; kernel_rfl) | (rw [if_neg (by decide +kernel)]; exact ⟨rfl, rfl⟩))
    (fun os started H enc _ => lifted_ChallengeJoins os started H enc)

/-- The statement: whatever the list of numbers, the law returns true. -/
theorem ChallengeJoins_holds : Rows.ChallengeJoinsCardSaid :=
  Claim7.holds_tied_plain_at .later [] [.data] true (true, "d0a7a0ab3b59fc3bf95374e70b865cce7452f9130f6284412e56926eb3cc34a5") false
    ChallengeJoins_said (fun _ h => by cases h) (by kernel_rfl) (fun _ h => by cases h) challengeJoins_row_tie rfl ⟨rfl, rfl⟩ (by kernel_rfl) rfl
    (fun f fn hf hfn => by
      obtain rfl : f = 3 := Option.some.inj ((show Tryd.prog.funcNamed "proofprograms/proofprogramslaw28.ChallengeJoins" = some 3 by kernel_rfl).symm.trans hf) |>.symm
      obtain rfl : fn = Tryd.f3 := (Option.some.inj (Tryd.func3.symm.trans hfn)).symm
      exact ⟨by kernel_rfl, fun j t ht => by
        rw [Tryd.params3] at ht
        have hm : t ∈ [22] := by simpa using Array.mem_of_getElem? ht
        have hall : ([22].all fun u => !Tryd.prog.wantsStandIn u) = true := by kernel_rfl
        exact (show Tryd.prog.wantsStandIn t = false by simpa using List.all_eq_true.1 hall t hm)⟩)
    (by kernel_rfl)
#print axioms ChallengeJoins_holds
end Go.Proofs.YteopcebaeojjkaaDoor
