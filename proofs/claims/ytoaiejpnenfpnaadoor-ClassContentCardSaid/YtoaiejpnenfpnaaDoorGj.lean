/-
  Walks: the law of content.
-/
import Derived.Test.YtoaiejpnenfpnaaDoorGh
import Derived.Test.YtoaiejpnenfpnaaDoorGi
import Derived.Test.YtoaiejpnenfpnaaDoorWv
set_option linter.unusedSimpArgs false
set_option linter.unusedVariables false
set_option maxRecDepth 20000
set_option maxHeartbeats 4000000
namespace Go.Proofs.YtoaiejpnenfpnaaDoor
open Go GoAbs Go.Proofs

theorem c_ClassContent (l : List Int) : Pure Tryd.prog env 4 [.sl .any (ints l)] (.bool true) := by
  intro h
  have hF := c_Few l
  cases hf : decide ((l.length : Int) ≤ 500) with
  | false =>
    rw [hf] at hF
    clear hf
    refine ret_of_walk Tryd.func4 rfl (by kernel_rfl) follows (by kernel_rfl) ?_
    intro g0 w0 gen hrel hfr
    have hfr' := fresh_of hfr
    have hres : Tryd.f4.results.toList = [.tmp 2] := rfl
    repeat' (first
      | refine AR_seq ?_ | refine AR_skip ?_ | refine AR_block ?_ | refine AR_block_end ?_ | refine AR_exit ?_ | refine AR_code_exit ?_ | refine AR_inv_exit ?_ | refine AR_block_hit ?_
      | refine AR_block_pass (by decide) ?_ | refine AR_ret ?_ | refine AR_fall ?_
      | (refine AR_region ?_; simp only [go_sem, *, reduceIte, Nat.reduceEqDiff, Nat.reduceAdd, Nat.reduceLeDiff, Nat.reduceMul, Nat.reduceBEq, Nat.reduceLT, Nat.reduceSub, Int.reduceBEq, Int.reduceToNat, Int.reduceLE, Int.reduceEq])
      | refine ⟨by kernel_rfl, ?_⟩ | refine ⟨.inr (by kernel_rfl), ?_⟩ | refine ⟨⟨.inr (by kernel_rfl), by kernel_rfl⟩, ?_⟩ | refine ⟨⟨.inr (by kernel_rfl), by kernel_rfl, by kernel_rfl⟩, ?_⟩ | refine ⟨⟨.inr (by kernel_rfl), by kernel_rfl, by kernel_rfl, by kernel_rfl⟩, ?_⟩ | (refine ⟨?_, ?_⟩; focus ((repeat' (first | (refine And.intro ?_ ?_) | (refine Or.inr ?_))); all_goals kernel_rfl))
      | refine AR_cond_t rfl ?_ | refine AR_cond_f rfl ?_ | (refine AR_cond rfl (fun hc => ?_) (fun hc => ?_) <;> (try rw [beq_iff_eq] at hc) <;> (try simp only [hc]))
      | (refine guarded_split (fun hb => ?_) (fun hb => ?_) <;> (try simp only [Bool.not_true, Bool.not_false] at hb) <;> simp only [go_sem, *, reduceIte, Nat.reduceEqDiff, Nat.reduceAdd, Nat.reduceLeDiff, Nat.reduceMul, Nat.reduceBEq, Nat.reduceLT, Nat.reduceSub, Int.reduceBEq, Int.reduceToNat, Int.reduceLE, Int.reduceEq])
      | (refine Call1_pure (hF) ?_; simp only [go_sem, *, reduceIte, Nat.reduceEqDiff, Nat.reduceAdd, Nat.reduceLeDiff, Nat.reduceMul, Nat.reduceBEq, Nat.reduceLT, Nat.reduceSub, Int.reduceBEq, Int.reduceToNat, Int.reduceLE, Int.reduceEq])
      | (refine Call1_pure (c_sane08) ?_; simp only [go_sem, *, reduceIte, Nat.reduceEqDiff, Nat.reduceAdd, Nat.reduceLeDiff, Nat.reduceMul, Nat.reduceBEq, Nat.reduceLT, Nat.reduceSub, Int.reduceBEq, Int.reduceToNat, Int.reduceLE, Int.reduceEq])
      | (refine AR_fin hrel (by first | exact hin _ | simp only [go_sem, and_self]) (by repeat (first | exact Agree.refl _ | assumption | refine Agree.new ?_ (hgf0 _ _) | refine Agree.new ?_ (hfr' _ _))) ?_; simp only [go_sem, *, reduceIte, Nat.reduceEqDiff, Nat.reduceAdd, Nat.reduceLeDiff, Nat.reduceMul, Nat.reduceBEq, Nat.reduceLT, Nat.reduceSub, Int.reduceBEq, Int.reduceToNat, Int.reduceLE, Int.reduceEq]))
  | true =>
  rw [hf] at hF
  have hl : l.length ≤ 1000 := by simp at hf; omega
  obtain ⟨g, a0, hgm, hgl, hC⟩ := c_Context l hl 0
  have hgF : ∀ y ∈ g, TyF y ∧ tyH y ≤ 40 := fun y hy => ⟨(hgm y hy).F, by have := (hgm y hy).H; omega⟩
  have hg3 : ∀ y ∈ g, tySz y ≤ 3 := fun y hy => (hgm y hy).sz1
  have hgG : ∀ y ∈ g, TyG y := fun y hy => (hgm y hy).G (by omega)
  obtain ⟨f, a1, mf, wf, hTf⟩ := c_Formula l hl 2 (by omega) g a0 hgF (by omega)
  obtain ⟨k, a2, mk, wk, hTk⟩ := c_Formula l hl 2 (by omega) g a1 hgF (by omega)
  have ms := mkType_Mk (l := l) 1 a2
  have hTs := fun d => c_Type l hl d 1 (by omega) a2
  generalize mkType l 1 a2 = q at ms hTs
  obtain ⟨s, a3⟩ := q
  simp only at ms hTs
  have zf := mf.sz hg3
  have zk := mk.sz hg3
  obtain ⟨e1, e2, e3, e4, e5⟩ := law_content (mf.G hgG) (mk.G hgG) (by omega) (by omega) (ms.G (by omega))
  have ws := ms.F.W
  have h1 := c_Content f wf
  have h2 := c_Content k wk
  have h3 := c_Content _ (fmTwo_W (k := 2) wf wk)
  have h4 := c_Content _ (fmTwo_W (k := 3) wf wk)
  have h5 := fun (j : Int) (hj : j = 4 ∨ j = 5 ∨ j = 6 ∨ j = 7) => c_Content _ (fmQ_W (k := j) ws wf)
  rw [e1] at h1
  rw [e2] at h2
  rw [e3] at h3
  rw [e4] at h4
  have h5' := fun (j : Int) (hj : j = 4 ∨ j = 5 ∨ j = 6 ∨ j = 7) => by have := h5 j hj; rw [e5 j hj] at this; exact this
  have h6 := c_fmTwo 2 f k wf wk
  have h7 := c_fmTwo 3 f k wf wk
  have h8 := fun j => c_fmQ j s f ws wf
  clear e1 e2 e3 e4 e5 h5 hgm hgF hg3 hgG mf mk wf wk ms zf zk ws hf
  generalize f.fl.c = fc at *
  generalize k.fl.c = kc at *
  generalize fmTwo 2 f k = z2 at *
  generalize fmTwo 3 f k = z3 at *
  unfold boolErrV at h1 h2 h3 h4
  simp only [boolErrV] at h5'
  have hN := c_New l
  have n0 : ((0 : Int) != 0) = false := rfl
  have t1 : (true != true) = false := rfl
  have t2 : (false != false) = false := rfl
  cases fc
  all_goals
    cases kc
    all_goals
      simp only [Bool.or_self, Bool.or_true, Bool.true_or, Bool.false_or, Bool.or_false] at h3 h4 h5'
      refine ret_of_walk Tryd.func4 rfl (by kernel_rfl) follows (by kernel_rfl) ?_
      intro g0 w0 gen hrel hfr
      have hfr' := fresh_of hfr
      have hres : Tryd.f4.results.toList = [.tmp 2] := rfl
      repeat' (first
        | refine AR_seq ?_ | refine AR_skip ?_ | refine AR_block ?_ | refine AR_block_end ?_ | refine AR_exit ?_ | refine AR_code_exit ?_ | refine AR_inv_exit ?_ | refine AR_block_hit ?_
        | refine AR_block_pass (by decide) ?_ | refine AR_ret ?_ | refine AR_fall ?_
        | (refine AR_region ?_; simp only [go_sem, *, reduceIte, Nat.reduceEqDiff, Nat.reduceAdd, Nat.reduceLeDiff, Nat.reduceMul, Nat.reduceBEq, Nat.reduceLT, Nat.reduceSub, Int.reduceBEq, Int.reduceToNat, Int.reduceLE, Int.reduceEq])
        | refine ⟨by kernel_rfl, ?_⟩ | refine ⟨.inr (by kernel_rfl), ?_⟩ | refine ⟨⟨.inr (by kernel_rfl), by kernel_rfl⟩, ?_⟩ | refine ⟨⟨.inr (by kernel_rfl), by kernel_rfl, by kernel_rfl⟩, ?_⟩ | refine ⟨⟨.inr (by kernel_rfl), by kernel_rfl, by kernel_rfl, by kernel_rfl⟩, ?_⟩ | (refine ⟨?_, ?_⟩; focus ((repeat' (first | (refine And.intro ?_ ?_) | (refine Or.inr ?_))); all_goals kernel_rfl))
        | refine AR_cond_t rfl ?_ | refine AR_cond_f rfl ?_ | (refine AR_cond rfl (fun hc => ?_) (fun hc => ?_) <;> (try rw [beq_iff_eq] at hc) <;> (try simp only [hc]))
        | (refine guarded_split (fun hb => ?_) (fun hb => ?_) <;> (try simp only [Bool.not_true, Bool.not_false] at hb) <;> simp only [go_sem, *, reduceIte, Nat.reduceEqDiff, Nat.reduceAdd, Nat.reduceLeDiff, Nat.reduceMul, Nat.reduceBEq, Nat.reduceLT, Nat.reduceSub, Int.reduceBEq, Int.reduceToNat, Int.reduceLE, Int.reduceEq])
        | (refine Call1_pure (hF) ?_; simp only [go_sem, *, reduceIte, Nat.reduceEqDiff, Nat.reduceAdd, Nat.reduceLeDiff, Nat.reduceMul, Nat.reduceBEq, Nat.reduceLT, Nat.reduceSub, Int.reduceBEq, Int.reduceToNat, Int.reduceLE, Int.reduceEq])
        | (refine Call1_pure (c_sane08) ?_; simp only [go_sem, *, reduceIte, Nat.reduceEqDiff, Nat.reduceAdd, Nat.reduceLeDiff, Nat.reduceMul, Nat.reduceBEq, Nat.reduceLT, Nat.reduceSub, Int.reduceBEq, Int.reduceToNat, Int.reduceLE, Int.reduceEq])
        | (refine Call1_pure (h1) ?_; simp only [go_sem, *, reduceIte, Nat.reduceEqDiff, Nat.reduceAdd, Nat.reduceLeDiff, Nat.reduceMul, Nat.reduceBEq, Nat.reduceLT, Nat.reduceSub, Int.reduceBEq, Int.reduceToNat, Int.reduceLE, Int.reduceEq])
        | (refine Call1_pure (h2) ?_; simp only [go_sem, *, reduceIte, Nat.reduceEqDiff, Nat.reduceAdd, Nat.reduceLeDiff, Nat.reduceMul, Nat.reduceBEq, Nat.reduceLT, Nat.reduceSub, Int.reduceBEq, Int.reduceToNat, Int.reduceLE, Int.reduceEq])
        | (refine Call1_pure (h3) ?_; simp only [go_sem, *, reduceIte, Nat.reduceEqDiff, Nat.reduceAdd, Nat.reduceLeDiff, Nat.reduceMul, Nat.reduceBEq, Nat.reduceLT, Nat.reduceSub, Int.reduceBEq, Int.reduceToNat, Int.reduceLE, Int.reduceEq])
        | (refine Call1_pure (h4) ?_; simp only [go_sem, *, reduceIte, Nat.reduceEqDiff, Nat.reduceAdd, Nat.reduceLeDiff, Nat.reduceMul, Nat.reduceBEq, Nat.reduceLT, Nat.reduceSub, Int.reduceBEq, Int.reduceToNat, Int.reduceLE, Int.reduceEq])
        | (refine Call1_pure (h6) ?_; simp only [go_sem, *, reduceIte, Nat.reduceEqDiff, Nat.reduceAdd, Nat.reduceLeDiff, Nat.reduceMul, Nat.reduceBEq, Nat.reduceLT, Nat.reduceSub, Int.reduceBEq, Int.reduceToNat, Int.reduceLE, Int.reduceEq])
        | (refine Call1_pure (h7) ?_; simp only [go_sem, *, reduceIte, Nat.reduceEqDiff, Nat.reduceAdd, Nat.reduceLeDiff, Nat.reduceMul, Nat.reduceBEq, Nat.reduceLT, Nat.reduceSub, Int.reduceBEq, Int.reduceToNat, Int.reduceLE, Int.reduceEq])
        | (refine Call1_new ⟨gen, 1000, 0⟩ (hN) (by first | exact hfr' _ _ | simp only [go_sem, *, reduceIte, Nat.reduceEqDiff, Nat.reduceAdd, Nat.reduceLeDiff, Nat.reduceMul, Nat.reduceBEq, Nat.reduceLT, Nat.reduceSub, Int.reduceBEq, Int.reduceToNat, Int.reduceLE, Int.reduceEq]) ?_; simp only [go_sem, *, reduceIte, Nat.reduceEqDiff, Nat.reduceAdd, Nat.reduceLeDiff, Nat.reduceMul, Nat.reduceBEq, Nat.reduceLT, Nat.reduceSub, Int.reduceBEq, Int.reduceToNat, Int.reduceLE, Int.reduceEq])
        | (refine Call1_turn (hC _) ?_ ?_; (focus ((simp only [go_sem, *, reduceIte, Nat.reduceEqDiff, Nat.reduceAdd, Nat.reduceLeDiff, Nat.reduceMul, Nat.reduceBEq, Nat.reduceLT, Nat.reduceSub, Int.reduceBEq, Int.reduceToNat, Int.reduceLE, Int.reduceEq] <;> rfl); done)); simp only [go_sem, *, reduceIte, Nat.reduceEqDiff, Nat.reduceAdd, Nat.reduceLeDiff, Nat.reduceMul, Nat.reduceBEq, Nat.reduceLT, Nat.reduceSub, Int.reduceBEq, Int.reduceToNat, Int.reduceLE, Int.reduceEq])
        | (refine Call1_turn (hTf _) ?_ ?_; (focus ((simp only [go_sem, *, reduceIte, Nat.reduceEqDiff, Nat.reduceAdd, Nat.reduceLeDiff, Nat.reduceMul, Nat.reduceBEq, Nat.reduceLT, Nat.reduceSub, Int.reduceBEq, Int.reduceToNat, Int.reduceLE, Int.reduceEq] <;> rfl); done)); simp only [go_sem, *, reduceIte, Nat.reduceEqDiff, Nat.reduceAdd, Nat.reduceLeDiff, Nat.reduceMul, Nat.reduceBEq, Nat.reduceLT, Nat.reduceSub, Int.reduceBEq, Int.reduceToNat, Int.reduceLE, Int.reduceEq])
        | (refine Call1_turn (hTk _) ?_ ?_; (focus ((simp only [go_sem, *, reduceIte, Nat.reduceEqDiff, Nat.reduceAdd, Nat.reduceLeDiff, Nat.reduceMul, Nat.reduceBEq, Nat.reduceLT, Nat.reduceSub, Int.reduceBEq, Int.reduceToNat, Int.reduceLE, Int.reduceEq] <;> rfl); done)); simp only [go_sem, *, reduceIte, Nat.reduceEqDiff, Nat.reduceAdd, Nat.reduceLeDiff, Nat.reduceMul, Nat.reduceBEq, Nat.reduceLT, Nat.reduceSub, Int.reduceBEq, Int.reduceToNat, Int.reduceLE, Int.reduceEq])
        | (refine Call1_turn (hTs _) ?_ ?_; (focus ((simp only [go_sem, *, reduceIte, Nat.reduceEqDiff, Nat.reduceAdd, Nat.reduceLeDiff, Nat.reduceMul, Nat.reduceBEq, Nat.reduceLT, Nat.reduceSub, Int.reduceBEq, Int.reduceToNat, Int.reduceLE, Int.reduceEq] <;> rfl); done)); simp only [go_sem, *, reduceIte, Nat.reduceEqDiff, Nat.reduceAdd, Nat.reduceLeDiff, Nat.reduceMul, Nat.reduceBEq, Nat.reduceLT, Nat.reduceSub, Int.reduceBEq, Int.reduceToNat, Int.reduceLE, Int.reduceEq]))
      refine AR_range [5, 7, 8, 88] [⟨gen, 7, 6⟩, ⟨gen, 8, 2⟩] (fun i σ => Agree h σ.h ∧ True) (([4, 5, 6, 7] : List Int)).length (by first | omega | (simp only [go_sem, *, reduceIte, Nat.reduceEqDiff, Nat.reduceAdd, Nat.reduceLeDiff, Nat.reduceMul, Nat.reduceBEq, Nat.reduceLT, Nat.reduceSub, Int.reduceBEq, Int.reduceToNat, Int.reduceLE, Int.reduceEq] <;> omega)) ⟨rfl, rfl, rfl⟩ rfl (by simp only [go_sem, *, reduceIte, Nat.reduceEqDiff, Nat.reduceAdd, Nat.reduceLeDiff, Nat.reduceMul, Nat.reduceBEq, Nat.reduceLT, Nat.reduceSub, Int.reduceBEq, Int.reduceToNat, Int.reduceLE, Int.reduceEq]) (by simp only [go_sem, *, reduceIte, Nat.reduceEqDiff, Nat.reduceAdd, Nat.reduceLeDiff, Nat.reduceMul, Nat.reduceBEq, Nat.reduceLT, Nat.reduceSub, Int.reduceBEq, Int.reduceToNat, Int.reduceLE, Int.reduceEq]) ?_ (by intro i σ t v ht hK; simp only [List.mem_cons, List.not_mem_nil, or_false] at ht; rcases ht with rfl | rfl | rfl <;> exact hK) ?_ ?_
      · simp only [go_sem, *, reduceIte, Nat.reduceEqDiff, Nat.reduceAdd, Nat.reduceLeDiff, Nat.reduceMul, Nat.reduceBEq, Nat.reduceLT, Nat.reduceSub, Int.reduceBEq, Int.reduceToNat, Int.reduceLE, Int.reduceEq]
        exact (by repeat (first | exact Agree.refl _ | assumption | refine Agree.new ?_ (hgf0 _ _) | refine Agree.new ?_ (hfr' _ _)))
      ·
        intro i σ gr0 hgl_gr0 hgn hlt jI jN jS ⟨jA, _⟩
        obtain ⟨jT, jB⟩ := jS
        simp only [go_sem, reduceIte, Nat.reduceEqDiff, Nat.reduceAdd, Nat.reduceLeDiff, Nat.reduceMul, Nat.reduceBEq, Nat.reduceLT, Nat.reduceSub, Int.reduceBEq, Int.reduceToNat, Int.reduceLE, Int.reduceEq] at jT jB
        have hgf := fresh_of hgn
        have hgf0 : ∀ r i, h ⟨gr0, r, i⟩ = none := fun r i => agree_fresh jA (hgf r i)
        have eg_gen_gr0 := gen_lt (show gen < gr0 by omega)
        have eh_gen_gr0 := gen_lt' (show gen < gr0 by omega)
        obtain ⟨x, hx⟩ : ∃ x, (([4, 5, 6, 7] : List Int))[i]? = some x := ⟨_, List.getElem?_eq_getElem hlt⟩
        have hxm := List.mem_of_getElem? hx
        have hm := min_lt hlt
        clear hgn
        have hix : ([[V.int .i64 4], [V.int .i64 5], [V.int .i64 6], [V.int .i64 7]] : List (List V))[i]? = some [V.int .i64 x] := by
          have := ints_get [4, 5, 6, 7] i
          rw [hx] at this; exact this
        have hxk : x = 4 ∨ x = 5 ∨ x = 6 ∨ x = 7 := by simpa using hxm
        have h9 := h5' x hxk
        have h10 := h8 x
        have hxx : ((x == 5) != (x == 5)) = false := by simp
        clear hx hxm hxk h5' h8
        generalize fmQ x s f = z at *
        repeat' (first
          | refine AR_seq ?_ | refine AR_skip ?_ | refine AR_block ?_ | refine AR_block_end ?_ | refine AR_exit ?_ | refine AR_code_exit ?_ | refine AR_inv_exit ?_ | refine AR_block_hit ?_
          | refine AR_block_pass (by decide) ?_ | refine AR_ret ?_ | refine AR_fall ?_
          | (refine AR_region ?_; simp only [go_sem, *, reduceIte, Nat.reduceEqDiff, Nat.reduceAdd, Nat.reduceLeDiff, Nat.reduceMul, Nat.reduceBEq, Nat.reduceLT, Nat.reduceSub, Int.reduceBEq, Int.reduceToNat, Int.reduceLE, Int.reduceEq])
          | refine ⟨by kernel_rfl, ?_⟩ | refine ⟨.inr (by kernel_rfl), ?_⟩ | refine ⟨⟨.inr (by kernel_rfl), by kernel_rfl⟩, ?_⟩ | refine ⟨⟨.inr (by kernel_rfl), by kernel_rfl, by kernel_rfl⟩, ?_⟩ | refine ⟨⟨.inr (by kernel_rfl), by kernel_rfl, by kernel_rfl, by kernel_rfl⟩, ?_⟩ | (refine ⟨?_, ?_⟩; focus ((repeat' (first | (refine And.intro ?_ ?_) | (refine Or.inr ?_))); all_goals kernel_rfl))
          | refine AR_cond_t rfl ?_ | refine AR_cond_f rfl ?_ | (refine AR_cond rfl (fun hc => ?_) (fun hc => ?_) <;> (try rw [beq_iff_eq] at hc) <;> (try simp only [hc]))
          | (refine guarded_split (fun hb => ?_) (fun hb => ?_) <;> (try simp only [Bool.not_true, Bool.not_false] at hb) <;> simp only [go_sem, *, reduceIte, Nat.reduceEqDiff, Nat.reduceAdd, Nat.reduceLeDiff, Nat.reduceMul, Nat.reduceBEq, Nat.reduceLT, Nat.reduceSub, Int.reduceBEq, Int.reduceToNat, Int.reduceLE, Int.reduceEq])
          | (refine Call1_pure (h9) ?_; simp only [go_sem, *, reduceIte, Nat.reduceEqDiff, Nat.reduceAdd, Nat.reduceLeDiff, Nat.reduceMul, Nat.reduceBEq, Nat.reduceLT, Nat.reduceSub, Int.reduceBEq, Int.reduceToNat, Int.reduceLE, Int.reduceEq])
          | (refine Call1_pure (h10) ?_; simp only [go_sem, *, reduceIte, Nat.reduceEqDiff, Nat.reduceAdd, Nat.reduceLeDiff, Nat.reduceMul, Nat.reduceBEq, Nat.reduceLT, Nat.reduceSub, Int.reduceBEq, Int.reduceToNat, Int.reduceLE, Int.reduceEq])
          | (refine AR_inv ?_; simp only [go_sem, *, reduceIte, Nat.reduceEqDiff, Nat.reduceAdd, Nat.reduceLeDiff, Nat.reduceMul, Nat.reduceBEq, Nat.reduceLT, Nat.reduceSub, Int.reduceBEq, Int.reduceToNat, Int.reduceLE, Int.reduceEq]))
        all_goals exact (by repeat (first | exact Agree.refl _ | assumption | refine Agree.new ?_ (hgf0 _ _) | refine Agree.new ?_ (hfr' _ _)))
      ·
        intro σ ga0 hgl_ga0 hgn jS ⟨jA, _⟩
        obtain ⟨jT, jB⟩ := jS
        simp only [go_sem, reduceIte, Nat.reduceEqDiff, Nat.reduceAdd, Nat.reduceLeDiff, Nat.reduceMul, Nat.reduceBEq, Nat.reduceLT, Nat.reduceSub, Int.reduceBEq, Int.reduceToNat, Int.reduceLE, Int.reduceEq] at jT jB
        have hgf := fresh_of hgn
        have hgf0 : ∀ r i, h ⟨ga0, r, i⟩ = none := fun r i => agree_fresh jA (hgf r i)
        have eg_gen_ga0 := gen_lt (show gen < ga0 by omega)
        have eh_gen_ga0 := gen_lt' (show gen < ga0 by omega)
        clear hgn
        repeat' (first
          | refine AR_seq ?_ | refine AR_skip ?_ | refine AR_block ?_ | refine AR_block_end ?_ | refine AR_exit ?_ | refine AR_code_exit ?_ | refine AR_inv_exit ?_ | refine AR_block_hit ?_
          | refine AR_block_pass (by decide) ?_ | refine AR_ret ?_ | refine AR_fall ?_
          | (refine AR_region ?_; simp only [go_sem, *, reduceIte, Nat.reduceEqDiff, Nat.reduceAdd, Nat.reduceLeDiff, Nat.reduceMul, Nat.reduceBEq, Nat.reduceLT, Nat.reduceSub, Int.reduceBEq, Int.reduceToNat, Int.reduceLE, Int.reduceEq])
          | refine ⟨by kernel_rfl, ?_⟩ | refine ⟨.inr (by kernel_rfl), ?_⟩ | refine ⟨⟨.inr (by kernel_rfl), by kernel_rfl⟩, ?_⟩ | refine ⟨⟨.inr (by kernel_rfl), by kernel_rfl, by kernel_rfl⟩, ?_⟩ | refine ⟨⟨.inr (by kernel_rfl), by kernel_rfl, by kernel_rfl, by kernel_rfl⟩, ?_⟩ | (refine ⟨?_, ?_⟩; focus ((repeat' (first | (refine And.intro ?_ ?_) | (refine Or.inr ?_))); all_goals kernel_rfl))
          | refine AR_cond_t rfl ?_ | refine AR_cond_f rfl ?_ | (refine AR_cond rfl (fun hc => ?_) (fun hc => ?_) <;> (try rw [beq_iff_eq] at hc) <;> (try simp only [hc]))
          | (refine guarded_split (fun hb => ?_) (fun hb => ?_) <;> (try simp only [Bool.not_true, Bool.not_false] at hb) <;> simp only [go_sem, *, reduceIte, Nat.reduceEqDiff, Nat.reduceAdd, Nat.reduceLeDiff, Nat.reduceMul, Nat.reduceBEq, Nat.reduceLT, Nat.reduceSub, Int.reduceBEq, Int.reduceToNat, Int.reduceLE, Int.reduceEq])
          | (refine AR_fin hrel (by first | exact hin _ | simp only [go_sem, and_self]) (by repeat (first | exact Agree.refl _ | assumption | refine Agree.new ?_ (hgf0 _ _) | refine Agree.new ?_ (hfr' _ _))) ?_; simp only [go_sem, *, reduceIte, Nat.reduceEqDiff, Nat.reduceAdd, Nat.reduceLeDiff, Nat.reduceMul, Nat.reduceBEq, Nat.reduceLT, Nat.reduceSub, Int.reduceBEq, Int.reduceToNat, Int.reduceLE, Int.reduceEq]))
end Go.Proofs.YtoaiejpnenfpnaaDoor
