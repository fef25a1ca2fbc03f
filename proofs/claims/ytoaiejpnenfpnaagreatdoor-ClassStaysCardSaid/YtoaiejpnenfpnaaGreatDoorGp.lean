/-
  Walks: the law of what stays.
-/
import Derived.Test.YtoaiejpnenfpnaaGreatDoorGh
import Derived.Test.YtoaiejpnenfpnaaGreatDoorGi
import Derived.Test.YtoaiejpnenfpnaaGreatDoorGl
import Derived.Test.YtoaiejpnenfpnaaGreatDoorGo
import Derived.Test.YtoaiejpnenfpnaaGreatDoorWv
set_option linter.unusedSimpArgs false
set_option linter.unusedVariables false
set_option maxRecDepth 20000
set_option maxHeartbeats 4000000
namespace Go.Proofs.YtoaiejpnenfpnaaGreatDoor
open Go GoAbs Go.Proofs

theorem fmIn_W {s : Tm} (hs : TmW s) {a : Int} (t : Fm) (d : Int) (h : FmW t) : FmW (fmInn s a t d) := fmInn_W hs t d h

theorem c_ClassStays (l : List Int) : Pure Tryz.prog env 4 [.sl .any (ints l)] (.bool true) := by
  intro h
  have hF := c_Few l
  cases hf : decide ((l.length : Int) ≤ 500) with
  | false =>
    rw [hf] at hF
    clear hf
    refine ret_of_walk Tryz.func4 rfl (by kernel_rfl) follows (by kernel_rfl) ?_
    intro g0 w0 gen hrel hfr
    have hfr' := fresh_of hfr
    have hres : Tryz.f4.results.toList = [.tmp 2] := rfl
    repeat' (first
      | refine AR_seq ?_ | refine AR_skip ?_ | refine AR_block ?_ | refine AR_block_end ?_ | refine AR_exit ?_ | refine AR_code_exit ?_ | refine AR_inv_exit ?_ | refine AR_block_hit ?_
      | refine AR_block_pass (by decide) ?_ | refine AR_ret ?_ | refine AR_fall ?_
      | (refine ⟨?_, ?_⟩; focus ((repeat' (first | (refine And.intro ?_ ?_) | (refine Or.inr ?_))); all_goals kernel_rfl))
      | refine AR_cond_t rfl ?_ | refine AR_cond_f rfl ?_ | (refine AR_cond rfl (fun hc => ?_) (fun hc => ?_) <;> (try rw [beq_iff_eq] at hc) <;> (try simp only [hc]))
      | ((first | refine AR_region ?_ | (refine guarded_split (fun hb => ?_) (fun hb => ?_) <;> (try simp only [Bool.not_true, Bool.not_false] at hb)) | refine Call1_pure (hF) ?_ | refine Call1_pure (c_sane08) ?_ | refine AR_fin hrel (by first | exact hin _ | simp only [go_sem, and_self]) (by repeat (first | exact Agree.refl _ | assumption | refine Agree.new ?_ (hgf0 _ _) | refine Agree.new ?_ (hfr' _ _))) ?_) <;> simp only [go_sem, *, reduceIte, Nat.reduceEqDiff, Nat.reduceAdd, Nat.reduceLeDiff, Nat.reduceMul, Nat.reduceBEq, Nat.reduceLT, Nat.reduceSub, Int.reduceBEq, Int.reduceToNat, Int.reduceLE, Int.reduceEq]))
  | true =>
  rw [hf] at hF
  have hl : l.length ≤ 1000 := by simp at hf; omega
  clear hf
  obtain ⟨g, a0, hgm, hgl, hC⟩ := c_Context l hl 0
  have ms := mkType_Mk (l := l) 1 a0
  have hTs := fun d => c_Type l hl d 1 (by omega) a0
  generalize mkType l 1 a0 = q at ms hTs
  obtain ⟨s, a1⟩ := q
  simp only at ms hTs
  have hgn := app_mk hgm ms
  obtain ⟨f1, a2, m1, w1, hT1⟩ := c_Formula l hl 3 (by omega) (g ++ [s]) a1 (mk_FH hgn) (by simp; omega)
  obtain ⟨f2, a3, m2, w2, hT2⟩ := c_Decidable l hl 3 (by omega) (g ++ [s]) a2 hgn (by simp; omega)
  have hfin : ∀ x ∈ [f1, f2], Fine 3 x ∧ FmW x := by
    intro x hx
    simp only [List.mem_cons, List.not_mem_nil, or_false] at hx
    rcases hx with rfl | rfl
    · exact ⟨m1.fine hgn (by simp; omega), w1⟩
    · exact ⟨m2.fine hgn (by simp; omega), w2⟩
  have hTm : ∀ a, ∃ t a', (TmG t ∧ tmSz t ≤ 76 ∧ t.least 536870912 = true) ∧ TmW t ∧
      ∀ d, Turns Tryz.prog env 28 [.ptr d 0, .sl .any (g.map Ty.cells), .agg s.cells, .int .i64 2] d (.box (deckC l a)) (.agg t.cells) (.box (deckC l a')) := by
    intro a
    obtain ⟨t, a', mt, wt, hT⟩ := c_Term l hl 2 g s a (mk_FH hgm) ms.F (by have := ms.H; omega) (by have := ms.H; omega) (by have := ms.H; omega)
    refine ⟨t, a', ⟨mt.G (fun y hy => (hgm y hy).G (by omega)) (ms.G (by omega)), (mt.fine hgm ms).1, ?_⟩, wt, hT⟩
    have := mt.least (M := 3) (m := 536870912) (by omega) (by omega) (fun y hy => (hgm y hy).sz1) (by have := ms.sz1; omega) (by have := ms.sz1; omega)
    simpa using this
  have hwk : weakLL (g.map Ty.cells ++ [s.cells]) = (g ++ [s]).map Ty.cells := by rw [← weakLL_Ty (g ++ [s])]; simp
  have b1 : g.length * 32 ≤ 140737488355328 := by omega
  have b2 : g.length ≤ 140737488355328 := by omega
  have b3 : (g.length + 1) * 32 ≤ 140737488355328 := by omega
  have b4 : g.length + 1 ≤ 140737488355328 := by omega
  have z : 0 + g.length = g.length := by omega
  have n0 : ((0 : Int) != 0) = false := rfl
  clear hgm hgn m1 m2 w1 w2 ms
  have hN := c_New l
  refine ret_of_walk Tryz.func4 rfl (by kernel_rfl) follows (by kernel_rfl) ?_
  intro g0 w0 gen hrel hfr
  have hfr' := fresh_of hfr
  have hres : Tryz.f4.results.toList = [.tmp 2] := rfl
  repeat' (first
    | refine AR_seq ?_ | refine AR_skip ?_ | refine AR_block ?_ | refine AR_block_end ?_ | refine AR_exit ?_ | refine AR_code_exit ?_ | refine AR_inv_exit ?_ | refine AR_block_hit ?_
    | refine AR_block_pass (by decide) ?_ | refine AR_ret ?_ | refine AR_fall ?_
    | (refine ⟨?_, ?_⟩; focus ((repeat' (first | (refine And.intro ?_ ?_) | (refine Or.inr ?_))); all_goals kernel_rfl))
    | refine AR_cond_t rfl ?_ | refine AR_cond_f rfl ?_ | (refine AR_cond rfl (fun hc => ?_) (fun hc => ?_) <;> (try rw [beq_iff_eq] at hc) <;> (try simp only [hc]))
    | ((first | refine AR_region ?_ | (refine guarded_split (fun hb => ?_) (fun hb => ?_) <;> (try simp only [Bool.not_true, Bool.not_false] at hb)) | refine Call1_pure (hF) ?_ | refine Call1_pure (c_sane08) ?_ | refine Call1_new ⟨gen, 1000, 0⟩ (hN) (by first | exact hfr' _ _ | simp only [go_sem, *, reduceIte, Nat.reduceEqDiff, Nat.reduceAdd, Nat.reduceLeDiff, Nat.reduceMul, Nat.reduceBEq, Nat.reduceLT, Nat.reduceSub, Int.reduceBEq, Int.reduceToNat, Int.reduceLE, Int.reduceEq]) ?_ | (refine Call1_turn (hC _) ?_ ?_; focus ((simp only [go_sem, *, reduceIte, Nat.reduceEqDiff, Nat.reduceAdd, Nat.reduceLeDiff, Nat.reduceMul, Nat.reduceBEq, Nat.reduceLT, Nat.reduceSub, Int.reduceBEq, Int.reduceToNat, Int.reduceLE, Int.reduceEq] <;> rfl); done)) | (refine Call1_turn (hTs _) ?_ ?_; focus ((simp only [go_sem, *, reduceIte, Nat.reduceEqDiff, Nat.reduceAdd, Nat.reduceLeDiff, Nat.reduceMul, Nat.reduceBEq, Nat.reduceLT, Nat.reduceSub, Int.reduceBEq, Int.reduceToNat, Int.reduceLE, Int.reduceEq] <;> rfl); done)) | (refine Call1_turn (hT1 _) ?_ ?_; focus ((simp only [go_sem, *, reduceIte, Nat.reduceEqDiff, Nat.reduceAdd, Nat.reduceLeDiff, Nat.reduceMul, Nat.reduceBEq, Nat.reduceLT, Nat.reduceSub, Int.reduceBEq, Int.reduceToNat, Int.reduceLE, Int.reduceEq] <;> rfl); done)) | (refine Call1_turn (hT2 _) ?_ ?_; focus ((simp only [go_sem, *, reduceIte, Nat.reduceEqDiff, Nat.reduceAdd, Nat.reduceLeDiff, Nat.reduceMul, Nat.reduceBEq, Nat.reduceLT, Nat.reduceSub, Int.reduceBEq, Int.reduceToNat, Int.reduceLE, Int.reduceEq] <;> rfl); done))) <;> simp only [go_sem, *, reduceIte, Nat.reduceEqDiff, Nat.reduceAdd, Nat.reduceLeDiff, Nat.reduceMul, Nat.reduceBEq, Nat.reduceLT, Nat.reduceSub, Int.reduceBEq, Int.reduceToNat, Int.reduceLE, Int.reduceEq]))
  refine AR_range [3, 4, 5, 49] [⟨gen, 7, 2⟩] (fun i σ => Agree h σ.h ∧ ∃ a', σ.h ⟨gen, 1000, 0⟩ = some (.box (deckC l a'))) ([f1, f2]).length (by first | omega | (simp only [go_sem, *, reduceIte, Nat.reduceEqDiff, Nat.reduceAdd, Nat.reduceLeDiff, Nat.reduceMul, Nat.reduceBEq, Nat.reduceLT, Nat.reduceSub, Int.reduceBEq, Int.reduceToNat, Int.reduceLE, Int.reduceEq] <;> omega)) ⟨rfl, rfl, rfl⟩ rfl (by simp only [go_sem, *, reduceIte, Nat.reduceEqDiff, Nat.reduceAdd, Nat.reduceLeDiff, Nat.reduceMul, Nat.reduceBEq, Nat.reduceLT, Nat.reduceSub, Int.reduceBEq, Int.reduceToNat, Int.reduceLE, Int.reduceEq]) (by simp only [go_sem, *, reduceIte, Nat.reduceEqDiff, Nat.reduceAdd, Nat.reduceLeDiff, Nat.reduceMul, Nat.reduceBEq, Nat.reduceLT, Nat.reduceSub, Int.reduceBEq, Int.reduceToNat, Int.reduceLE, Int.reduceEq]) ?_ (by intro i σ t v ht hK; simp only [List.mem_cons, List.not_mem_nil, or_false] at ht; rcases ht with rfl | rfl | rfl <;> exact hK) ?_ ?_
  · simp only [go_sem, *, reduceIte, Nat.reduceEqDiff, Nat.reduceAdd, Nat.reduceLeDiff, Nat.reduceMul, Nat.reduceBEq, Nat.reduceLT, Nat.reduceSub, Int.reduceBEq, Int.reduceToNat, Int.reduceLE, Int.reduceEq]
    exact ⟨(by repeat (first | exact Agree.refl _ | assumption | refine Agree.new ?_ (hgf0 _ _) | refine Agree.new ?_ (hfr' _ _))), _, rfl⟩
  · clear hC hTs hT1 hT2 hN hF
    intro i σ gr0 hgl_gr0 hgn hlt jI jN jS ⟨jA, a', jd⟩
    obtain ⟨jT, jB⟩ := jS
    simp only [go_sem, reduceIte, Nat.reduceEqDiff, Nat.reduceAdd, Nat.reduceLeDiff, Nat.reduceMul, Nat.reduceBEq, Nat.reduceLT, Nat.reduceSub, Int.reduceBEq, Int.reduceToNat, Int.reduceLE, Int.reduceEq] at jT jB
    have hgf := fresh_of hgn
    have hgf0 : ∀ r i, h ⟨gr0, r, i⟩ = none := fun r i => agree_fresh jA (hgf r i)
    have eg_gen_gr0 := gen_lt (show gen < gr0 by omega)
    have eh_gen_gr0 := gen_lt' (show gen < gr0 by omega)
    obtain ⟨x, hx⟩ : ∃ x, ([f1, f2])[i]? = some x := ⟨_, List.getElem?_eq_getElem hlt⟩
    have hxm := List.mem_of_getElem? hx
    have hm := min_lt hlt
    clear hgn
    obtain ⟨fx, wx⟩ := hfin x hxm
    obtain ⟨t, a'', ⟨gt, zt, lt⟩, wt, hTt⟩ := hTm a'
    obtain ⟨e1, e2, e3, e4, e5, e6, e7, e8, e9, e10, e11, e12, e13, e14⟩ := law_stays fx gt zt lt
    have wu := fmUp_W (b := 2) x 0 wx
    have wv := fmIn_W wt (a := 0) x 0 wx
    have h1 := c_fmLift x wx 0 2
    have h2 := c_fmPut x wx 0 t wt
    have h3 := c_Content x wx
    have h4 := c_Free x wx
    have h5 := c_clsDecidable x wx
    rw [e1] at h1
    rw [e2] at h2
    rw [e3] at h3
    rw [e4] at h4
    rw [e5] at h5
    have hix : ([f1.cells, f2.cells] : List (List V))[i]? = some x.cells := by
      have : ([f1, f2].map Fm.cells)[i]? = some x.cells := by rw [List.getElem?_map, hx]; rfl
      exact this
    have hin : ∀ z ∈ [x.up 2 0, fmInn t 0 x 0], ∃ w, Pure Tryz.prog env 29 [.agg z.cells] (boolErrV (x.fl.c, 0)) ∧ Pure Tryz.prog env 30 [.agg z.cells] (boolErrV (x.fl.f, 0)) ∧
        Pure Tryz.prog env 31 [.agg z.cells] (boolErrV (w, 0)) ∧ (x.fl.d = true → w = true) := by
      intro z hz
      simp only [List.mem_cons, List.not_mem_nil, or_false] at hz
      rcases hz with rfl | rfl
      · have q1 := c_Content _ wu
        have q2 := c_Free _ wu
        have q3 := c_clsDecidable _ wu
        rw [e7] at q1
        rw [e8] at q2
        rw [e9] at q3
        exact ⟨_, q1, q2, q3, e10⟩
      · have q1 := c_Content _ wv
        have q2 := c_Free _ wv
        have q3 := c_clsDecidable _ wv
        rw [e11] at q1
        rw [e12] at q2
        rw [e13] at q3
        exact ⟨_, q1, q2, q3, e14⟩
    clear e1 e2 e3 e4 e5 e7 e8 e9 e10 e11 e12 e13 e14 wu wv wx fx gt zt lt wt hfin hTm hx hxm
    unfold boolErrV at h3 h4 h5
    unfold fmErrV at h1 h2
    simp only [boolErrV] at hin
    generalize x.up 2 0 = u at *
    generalize fmInn t 0 x 0 = v at *
    generalize x.fl.c = fc at *
    generalize x.fl.f = fo at *
    generalize x.fl.d = fp at *
    have hcc : (fc != fc) = false := by simp
    have hoo : (fo != fo) = false := by simp
    cases fp with
    | false =>
      have : fo = false := by cases fo with | false => rfl | true => exact absurd (e6 rfl) (by simp)
      subst this
      clear e6
      repeat' (first
        | refine AR_seq ?_ | refine AR_skip ?_ | refine AR_block ?_ | refine AR_block_end ?_ | refine AR_exit ?_ | refine AR_code_exit ?_ | refine AR_inv_exit ?_ | refine AR_block_hit ?_
        | refine AR_block_pass (by decide) ?_ | refine AR_ret ?_ | refine AR_fall ?_
        | (refine ⟨?_, ?_⟩; focus ((repeat' (first | (refine And.intro ?_ ?_) | (refine Or.inr ?_))); all_goals kernel_rfl))
        | refine AR_cond_t rfl ?_ | refine AR_cond_f rfl ?_ | (refine AR_cond rfl (fun hc => ?_) (fun hc => ?_) <;> (try rw [beq_iff_eq] at hc) <;> (try simp only [hc]))
        | ((first | refine AR_region ?_ | (refine guarded_split (fun hb => ?_) (fun hb => ?_) <;> (try simp only [Bool.not_true, Bool.not_false] at hb)) | refine Call1_pure (h1) ?_ | refine Call1_pure (h2) ?_ | refine Call1_pure (h3) ?_ | refine Call1_pure (h4) ?_ | refine Call1_pure (h5) ?_ | (refine Call1_turn (hTt _) ?_ ?_; focus ((simp only [go_sem, *, reduceIte, Nat.reduceEqDiff, Nat.reduceAdd, Nat.reduceLeDiff, Nat.reduceMul, Nat.reduceBEq, Nat.reduceLT, Nat.reduceSub, Int.reduceBEq, Int.reduceToNat, Int.reduceLE, Int.reduceEq] <;> rfl); done))) <;> simp only [go_sem, *, reduceIte, Nat.reduceEqDiff, Nat.reduceAdd, Nat.reduceLeDiff, Nat.reduceMul, Nat.reduceBEq, Nat.reduceLT, Nat.reduceSub, Int.reduceBEq, Int.reduceToNat, Int.reduceLE, Int.reduceEq]))
      refine AR_range [3, 4, 5, 13, 15, 17, 49, 50, 51, 103] [⟨gen, 7, 2⟩] (fun i σ => Agree h σ.h ∧ σ.h ⟨gen, 1000, 0⟩ = some (.box (deckC l a''))) ([u, v]).length (by first | omega | (simp only [go_sem, *, reduceIte, Nat.reduceEqDiff, Nat.reduceAdd, Nat.reduceLeDiff, Nat.reduceMul, Nat.reduceBEq, Nat.reduceLT, Nat.reduceSub, Int.reduceBEq, Int.reduceToNat, Int.reduceLE, Int.reduceEq] <;> omega)) ⟨rfl, rfl, rfl⟩ rfl (by simp only [go_sem, *, reduceIte, Nat.reduceEqDiff, Nat.reduceAdd, Nat.reduceLeDiff, Nat.reduceMul, Nat.reduceBEq, Nat.reduceLT, Nat.reduceSub, Int.reduceBEq, Int.reduceToNat, Int.reduceLE, Int.reduceEq]) (by simp only [go_sem, *, reduceIte, Nat.reduceEqDiff, Nat.reduceAdd, Nat.reduceLeDiff, Nat.reduceMul, Nat.reduceBEq, Nat.reduceLT, Nat.reduceSub, Int.reduceBEq, Int.reduceToNat, Int.reduceLE, Int.reduceEq]) ?_ (by intro i σ t v ht hK; simp only [List.mem_cons, List.not_mem_nil, or_false] at ht; rcases ht with rfl | rfl | rfl <;> exact hK) ?_ ?_
      · simp only [go_sem, *, reduceIte, Nat.reduceEqDiff, Nat.reduceAdd, Nat.reduceLeDiff, Nat.reduceMul, Nat.reduceBEq, Nat.reduceLT, Nat.reduceSub, Int.reduceBEq, Int.reduceToNat, Int.reduceLE, Int.reduceEq]
        first | done | exact (by repeat (first | exact Agree.refl _ | assumption | refine Agree.new ?_ (hgf0 _ _) | refine Agree.new ?_ (hfr' _ _))) | exact ⟨(by repeat (first | exact Agree.refl _ | assumption | refine Agree.new ?_ (hgf0 _ _) | refine Agree.new ?_ (hfr' _ _))), rfl⟩ | exact rfl
      · clear h1 h2 h3 h4 h5 hTt
        intro i σ gr1 hgl_gr1 hgn hlt jI jN jS ⟨jA, jd2⟩
        obtain ⟨jT, jB⟩ := jS
        simp only [go_sem, reduceIte, Nat.reduceEqDiff, Nat.reduceAdd, Nat.reduceLeDiff, Nat.reduceMul, Nat.reduceBEq, Nat.reduceLT, Nat.reduceSub, Int.reduceBEq, Int.reduceToNat, Int.reduceLE, Int.reduceEq] at jT jB
        have hgf := fresh_of hgn
        have hgf0 : ∀ r i, h ⟨gr1, r, i⟩ = none := fun r i => agree_fresh jA (hgf r i)
        have eg_gen_gr1 := gen_lt (show gen < gr1 by omega)
        have eh_gen_gr1 := gen_lt' (show gen < gr1 by omega)
        have eg_gr0_gr1 := gen_lt (show gr0 < gr1 by omega)
        have eh_gr0_gr1 := gen_lt' (show gr0 < gr1 by omega)
        obtain ⟨x, hx⟩ : ∃ x, ([u, v])[i]? = some x := ⟨_, List.getElem?_eq_getElem hlt⟩
        have hxm := List.mem_of_getElem? hx
        have hm := min_lt hlt
        clear hgn
        obtain ⟨w, q1, q2, q3, q4⟩ := hin x hxm
        have hix2 : ([u.cells, v.cells] : List (List V))[i]? = some x.cells := by
          have : ([u, v].map Fm.cells)[i]? = some x.cells := by rw [List.getElem?_map, hx]; rfl
          exact this
        clear hin q4 hx hxm hix
        repeat' (first
          | refine AR_seq ?_ | refine AR_skip ?_ | refine AR_block ?_ | refine AR_block_end ?_ | refine AR_exit ?_ | refine AR_code_exit ?_ | refine AR_inv_exit ?_ | refine AR_block_hit ?_
          | refine AR_block_pass (by decide) ?_ | refine AR_ret ?_ | refine AR_fall ?_
          | (refine ⟨?_, ?_⟩; focus ((repeat' (first | (refine And.intro ?_ ?_) | (refine Or.inr ?_))); all_goals kernel_rfl))
          | refine AR_cond_t rfl ?_ | refine AR_cond_f rfl ?_ | (refine AR_cond rfl (fun hc => ?_) (fun hc => ?_) <;> (try rw [beq_iff_eq] at hc) <;> (try simp only [hc]))
          | ((first | refine AR_region ?_ | (refine guarded_split (fun hb => ?_) (fun hb => ?_) <;> (try simp only [Bool.not_true, Bool.not_false] at hb)) | refine Call1_pure (q1) ?_ | refine Call1_pure (q2) ?_ | refine Call1_pure (q3) ?_ | refine AR_inv ?_) <;> simp only [go_sem, *, reduceIte, Nat.reduceEqDiff, Nat.reduceAdd, Nat.reduceLeDiff, Nat.reduceMul, Nat.reduceBEq, Nat.reduceLT, Nat.reduceSub, Int.reduceBEq, Int.reduceToNat, Int.reduceLE, Int.reduceEq]))
        all_goals exact Agree.new jA (hgf0 _ _)
      · clear h1 h2 h3 h4 h5 hTt hin hix
        intro σ ga1 hgl_ga1 hgn jS ⟨jA, jd2⟩
        obtain ⟨jT, jB⟩ := jS
        simp only [go_sem, reduceIte, Nat.reduceEqDiff, Nat.reduceAdd, Nat.reduceLeDiff, Nat.reduceMul, Nat.reduceBEq, Nat.reduceLT, Nat.reduceSub, Int.reduceBEq, Int.reduceToNat, Int.reduceLE, Int.reduceEq] at jT jB
        have hgf := fresh_of hgn
        have hgf0 : ∀ r i, h ⟨ga1, r, i⟩ = none := fun r i => agree_fresh jA (hgf r i)
        have eg_gen_ga1 := gen_lt (show gen < ga1 by omega)
        have eh_gen_ga1 := gen_lt' (show gen < ga1 by omega)
        have eg_gr0_ga1 := gen_lt (show gr0 < ga1 by omega)
        have eh_gr0_ga1 := gen_lt' (show gr0 < ga1 by omega)
        clear hgn
        repeat' (first
          | refine AR_seq ?_ | refine AR_skip ?_ | refine AR_block ?_ | refine AR_block_end ?_ | refine AR_exit ?_ | refine AR_code_exit ?_ | refine AR_inv_exit ?_ | refine AR_block_hit ?_
          | refine AR_block_pass (by decide) ?_ | refine AR_ret ?_ | refine AR_fall ?_
          | (refine ⟨?_, ?_⟩; focus ((repeat' (first | (refine And.intro ?_ ?_) | (refine Or.inr ?_))); all_goals kernel_rfl))
          | refine AR_cond_t rfl ?_ | refine AR_cond_f rfl ?_ | (refine AR_cond rfl (fun hc => ?_) (fun hc => ?_) <;> (try rw [beq_iff_eq] at hc) <;> (try simp only [hc]))
          | ((first | refine AR_region ?_ | (refine guarded_split (fun hb => ?_) (fun hb => ?_) <;> (try simp only [Bool.not_true, Bool.not_false] at hb)) | refine AR_inv ?_) <;> simp only [go_sem, *, reduceIte, Nat.reduceEqDiff, Nat.reduceAdd, Nat.reduceLeDiff, Nat.reduceMul, Nat.reduceBEq, Nat.reduceLT, Nat.reduceSub, Int.reduceBEq, Int.reduceToNat, Int.reduceLE, Int.reduceEq]))
        first | exact ⟨_, rfl⟩ | exact ⟨(by repeat (first | exact Agree.refl _ | assumption | refine Agree.new ?_ (hgf0 _ _) | refine Agree.new ?_ (hfr' _ _))), _, rfl⟩
    | true =>
      clear e6

      cases fo
      all_goals
        repeat' (first
          | refine AR_seq ?_ | refine AR_skip ?_ | refine AR_block ?_ | refine AR_block_end ?_ | refine AR_exit ?_ | refine AR_code_exit ?_ | refine AR_inv_exit ?_ | refine AR_block_hit ?_
          | refine AR_block_pass (by decide) ?_ | refine AR_ret ?_ | refine AR_fall ?_
          | (refine ⟨?_, ?_⟩; focus ((repeat' (first | (refine And.intro ?_ ?_) | (refine Or.inr ?_))); all_goals kernel_rfl))
          | refine AR_cond_t rfl ?_ | refine AR_cond_f rfl ?_ | (refine AR_cond rfl (fun hc => ?_) (fun hc => ?_) <;> (try rw [beq_iff_eq] at hc) <;> (try simp only [hc]))
          | ((first | refine AR_region ?_ | (refine guarded_split (fun hb => ?_) (fun hb => ?_) <;> (try simp only [Bool.not_true, Bool.not_false] at hb)) | refine Call1_pure (h1) ?_ | refine Call1_pure (h2) ?_ | refine Call1_pure (h3) ?_ | refine Call1_pure (h4) ?_ | refine Call1_pure (h5) ?_ | (refine Call1_turn (hTt _) ?_ ?_; focus ((simp only [go_sem, *, reduceIte, Nat.reduceEqDiff, Nat.reduceAdd, Nat.reduceLeDiff, Nat.reduceMul, Nat.reduceBEq, Nat.reduceLT, Nat.reduceSub, Int.reduceBEq, Int.reduceToNat, Int.reduceLE, Int.reduceEq] <;> rfl); done))) <;> simp only [go_sem, *, reduceIte, Nat.reduceEqDiff, Nat.reduceAdd, Nat.reduceLeDiff, Nat.reduceMul, Nat.reduceBEq, Nat.reduceLT, Nat.reduceSub, Int.reduceBEq, Int.reduceToNat, Int.reduceLE, Int.reduceEq]))
        refine AR_range [3, 4, 5, 13, 15, 17, 49, 50, 51, 103] [⟨gen, 7, 2⟩] (fun i σ => Agree h σ.h ∧ σ.h ⟨gen, 1000, 0⟩ = some (.box (deckC l a''))) ([u, v]).length (by first | omega | (simp only [go_sem, *, reduceIte, Nat.reduceEqDiff, Nat.reduceAdd, Nat.reduceLeDiff, Nat.reduceMul, Nat.reduceBEq, Nat.reduceLT, Nat.reduceSub, Int.reduceBEq, Int.reduceToNat, Int.reduceLE, Int.reduceEq] <;> omega)) ⟨rfl, rfl, rfl⟩ rfl (by simp only [go_sem, *, reduceIte, Nat.reduceEqDiff, Nat.reduceAdd, Nat.reduceLeDiff, Nat.reduceMul, Nat.reduceBEq, Nat.reduceLT, Nat.reduceSub, Int.reduceBEq, Int.reduceToNat, Int.reduceLE, Int.reduceEq]) (by simp only [go_sem, *, reduceIte, Nat.reduceEqDiff, Nat.reduceAdd, Nat.reduceLeDiff, Nat.reduceMul, Nat.reduceBEq, Nat.reduceLT, Nat.reduceSub, Int.reduceBEq, Int.reduceToNat, Int.reduceLE, Int.reduceEq]) ?_ (by intro i σ t v ht hK; simp only [List.mem_cons, List.not_mem_nil, or_false] at ht; rcases ht with rfl | rfl | rfl <;> exact hK) ?_ ?_
        · simp only [go_sem, *, reduceIte, Nat.reduceEqDiff, Nat.reduceAdd, Nat.reduceLeDiff, Nat.reduceMul, Nat.reduceBEq, Nat.reduceLT, Nat.reduceSub, Int.reduceBEq, Int.reduceToNat, Int.reduceLE, Int.reduceEq]
          first | done | exact (by repeat (first | exact Agree.refl _ | assumption | refine Agree.new ?_ (hgf0 _ _) | refine Agree.new ?_ (hfr' _ _))) | exact ⟨(by repeat (first | exact Agree.refl _ | assumption | refine Agree.new ?_ (hgf0 _ _) | refine Agree.new ?_ (hfr' _ _))), rfl⟩ | exact rfl
        · clear h1 h2 h3 h4 h5 hTt
          intro i σ gr1 hgl_gr1 hgn hlt jI jN jS ⟨jA, jd2⟩
          obtain ⟨jT, jB⟩ := jS
          simp only [go_sem, reduceIte, Nat.reduceEqDiff, Nat.reduceAdd, Nat.reduceLeDiff, Nat.reduceMul, Nat.reduceBEq, Nat.reduceLT, Nat.reduceSub, Int.reduceBEq, Int.reduceToNat, Int.reduceLE, Int.reduceEq] at jT jB
          have hgf := fresh_of hgn
          have hgf0 : ∀ r i, h ⟨gr1, r, i⟩ = none := fun r i => agree_fresh jA (hgf r i)
          have eg_gen_gr1 := gen_lt (show gen < gr1 by omega)
          have eh_gen_gr1 := gen_lt' (show gen < gr1 by omega)
          have eg_gr0_gr1 := gen_lt (show gr0 < gr1 by omega)
          have eh_gr0_gr1 := gen_lt' (show gr0 < gr1 by omega)
          obtain ⟨x, hx⟩ : ∃ x, ([u, v])[i]? = some x := ⟨_, List.getElem?_eq_getElem hlt⟩
          have hxm := List.mem_of_getElem? hx
          have hm := min_lt hlt
          clear hgn
          obtain ⟨w, q1, q2, q3, q4⟩ := hin x hxm
          obtain rfl := q4 rfl
          have hix2 : ([u.cells, v.cells] : List (List V))[i]? = some x.cells := by
            have : ([u, v].map Fm.cells)[i]? = some x.cells := by rw [List.getElem?_map, hx]; rfl
            exact this
          clear hin hx hxm hix
          repeat' (first
            | refine AR_seq ?_ | refine AR_skip ?_ | refine AR_block ?_ | refine AR_block_end ?_ | refine AR_exit ?_ | refine AR_code_exit ?_ | refine AR_inv_exit ?_ | refine AR_block_hit ?_
            | refine AR_block_pass (by decide) ?_ | refine AR_ret ?_ | refine AR_fall ?_
            | (refine ⟨?_, ?_⟩; focus ((repeat' (first | (refine And.intro ?_ ?_) | (refine Or.inr ?_))); all_goals kernel_rfl))
            | refine AR_cond_t rfl ?_ | refine AR_cond_f rfl ?_ | (refine AR_cond rfl (fun hc => ?_) (fun hc => ?_) <;> (try rw [beq_iff_eq] at hc) <;> (try simp only [hc]))
            | ((first | refine AR_region ?_ | (refine guarded_split (fun hb => ?_) (fun hb => ?_) <;> (try simp only [Bool.not_true, Bool.not_false] at hb)) | refine Call1_pure (q1) ?_ | refine Call1_pure (q2) ?_ | refine Call1_pure (q3) ?_ | refine AR_inv ?_) <;> simp only [go_sem, *, reduceIte, Nat.reduceEqDiff, Nat.reduceAdd, Nat.reduceLeDiff, Nat.reduceMul, Nat.reduceBEq, Nat.reduceLT, Nat.reduceSub, Int.reduceBEq, Int.reduceToNat, Int.reduceLE, Int.reduceEq]))
          all_goals exact Agree.new jA (hgf0 _ _)
        · clear h1 h2 h3 h4 h5 hTt hin hix
          intro σ ga1 hgl_ga1 hgn jS ⟨jA, jd2⟩
          obtain ⟨jT, jB⟩ := jS
          simp only [go_sem, reduceIte, Nat.reduceEqDiff, Nat.reduceAdd, Nat.reduceLeDiff, Nat.reduceMul, Nat.reduceBEq, Nat.reduceLT, Nat.reduceSub, Int.reduceBEq, Int.reduceToNat, Int.reduceLE, Int.reduceEq] at jT jB
          have hgf := fresh_of hgn
          have hgf0 : ∀ r i, h ⟨ga1, r, i⟩ = none := fun r i => agree_fresh jA (hgf r i)
          have eg_gen_ga1 := gen_lt (show gen < ga1 by omega)
          have eh_gen_ga1 := gen_lt' (show gen < ga1 by omega)
          have eg_gr0_ga1 := gen_lt (show gr0 < ga1 by omega)
          have eh_gr0_ga1 := gen_lt' (show gr0 < ga1 by omega)
          clear hgn
          repeat' (first
            | refine AR_seq ?_ | refine AR_skip ?_ | refine AR_block ?_ | refine AR_block_end ?_ | refine AR_exit ?_ | refine AR_code_exit ?_ | refine AR_inv_exit ?_ | refine AR_block_hit ?_
            | refine AR_block_pass (by decide) ?_ | refine AR_ret ?_ | refine AR_fall ?_
            | (refine ⟨?_, ?_⟩; focus ((repeat' (first | (refine And.intro ?_ ?_) | (refine Or.inr ?_))); all_goals kernel_rfl))
            | refine AR_cond_t rfl ?_ | refine AR_cond_f rfl ?_ | (refine AR_cond rfl (fun hc => ?_) (fun hc => ?_) <;> (try rw [beq_iff_eq] at hc) <;> (try simp only [hc]))
            | ((first | refine AR_region ?_ | (refine guarded_split (fun hb => ?_) (fun hb => ?_) <;> (try simp only [Bool.not_true, Bool.not_false] at hb)) | refine AR_inv ?_) <;> simp only [go_sem, *, reduceIte, Nat.reduceEqDiff, Nat.reduceAdd, Nat.reduceLeDiff, Nat.reduceMul, Nat.reduceBEq, Nat.reduceLT, Nat.reduceSub, Int.reduceBEq, Int.reduceToNat, Int.reduceLE, Int.reduceEq]))
          first | exact ⟨_, rfl⟩ | exact ⟨(by repeat (first | exact Agree.refl _ | assumption | refine Agree.new ?_ (hgf0 _ _) | refine Agree.new ?_ (hfr' _ _))), _, rfl⟩
  · clear hC hTs hT1 hT2 hN hF hTm hfin
    intro σ ga0 hgl_ga0 hgn jS ⟨jA, a', jd⟩
    obtain ⟨jT, jB⟩ := jS
    simp only [go_sem, reduceIte, Nat.reduceEqDiff, Nat.reduceAdd, Nat.reduceLeDiff, Nat.reduceMul, Nat.reduceBEq, Nat.reduceLT, Nat.reduceSub, Int.reduceBEq, Int.reduceToNat, Int.reduceLE, Int.reduceEq] at jT jB
    have hgf := fresh_of hgn
    have hgf0 : ∀ r i, h ⟨ga0, r, i⟩ = none := fun r i => agree_fresh jA (hgf r i)
    have eg_gen_ga0 := gen_lt (show gen < ga0 by omega)
    have eh_gen_ga0 := gen_lt' (show gen < ga0 by omega)
    clear hgn
    repeat' (first
      | refine AR_seq ?_ | refine AR_skip ?_ | refine AR_block ?_ | refine AR_block_end ?_ | refine AR_exit ?_ | refine AR_code_exit ?_ | refine AR_inv_exit ?_ | refine AR_block_hit ?_
      | refine AR_block_pass (by decide) ?_ | refine AR_ret ?_ | refine AR_fall ?_
      | (refine ⟨?_, ?_⟩; focus ((repeat' (first | (refine And.intro ?_ ?_) | (refine Or.inr ?_))); all_goals kernel_rfl))
      | refine AR_cond_t rfl ?_ | refine AR_cond_f rfl ?_ | (refine AR_cond rfl (fun hc => ?_) (fun hc => ?_) <;> (try rw [beq_iff_eq] at hc) <;> (try simp only [hc]))
      | ((first | refine AR_region ?_ | (refine guarded_split (fun hb => ?_) (fun hb => ?_) <;> (try simp only [Bool.not_true, Bool.not_false] at hb)) | refine AR_fin hrel (by first | exact hin _ | simp only [go_sem, and_self]) (by repeat (first | exact Agree.refl _ | assumption | refine Agree.new ?_ (hgf0 _ _) | refine Agree.new ?_ (hfr' _ _))) ?_) <;> simp only [go_sem, *, reduceIte, Nat.reduceEqDiff, Nat.reduceAdd, Nat.reduceLeDiff, Nat.reduceMul, Nat.reduceBEq, Nat.reduceLT, Nat.reduceSub, Int.reduceBEq, Int.reduceToNat, Int.reduceLE, Int.reduceEq]))
end Go.Proofs.YtoaiejpnenfpnaaGreatDoor
