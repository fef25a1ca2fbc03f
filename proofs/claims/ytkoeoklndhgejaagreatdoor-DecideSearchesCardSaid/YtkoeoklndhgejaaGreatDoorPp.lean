/-
 Walks: the first number for which a formula is true, or the error: the program and the reference, for any formulas and bounds.
-/
import Derived.Test.YtkoeoklndhgejaaGreatDoorMx
import Derived.Test.YtkoeoklndhgejaaGreatDoorMv
set_option linter.unusedSimpArgs false
set_option linter.unusedVariables false
set_option maxRecDepth 20000
set_option maxHeartbeats 4000000
namespace Go.Proofs.YtkoeoklndhgejaaGreatDoor
open Go GoAbs Go.Proofs
theorem c_mayI (w : Int) : ∃ b : Bool, Pure Tryz.prog env 44 [.int .i64 w] (.bool b) ∧ (b = true ↔ 0 ≤ w ∧ w ≤ 65536) := by
 cases b1 : decide (w ≥ 0) with
 | false =>
  refine ⟨false, ?_, by simp at b1 ⊢; omega⟩
  intro h
  exact ek_ Tryz.func44 [.tmp 2]
 | true =>
  cases b2 : decide (w ≤ 65536) with
  | false =>
   refine ⟨false, ?_, by simp at b1 b2 ⊢; omega⟩
   intro h
   exact ek_ Tryz.func44 [.tmp 2]
  | true =>
   refine ⟨true, ?_, by simp at b1 b2 ⊢; omega⟩
   intro h
   exact ek_ Tryz.func44 [.tmp 2]
theorem c_lookX {gc : List (List V)} (hw : weakLL gc = gc) {f : Fm} {e : Int} {d : Bool} (r : Bool) (h1 : Pure Tryz.prog env 68 [.sl .any gc, .agg f.cells] (.int .i64 e))
  (h2 : e = 0 → Pure Tryz.prog env 91 [.agg f.cells] (.tup [.bool d, .int .i64 0])) :
  Pure Tryz.prog env 42 [.sl .any gc, .agg f.cells, .bool r] (.int .i64 (if e != 0 then e else if d then (if r then 0 else 1) else 14)) := by
 have n0 : ((0 : Int) != 0) = false := rfl
 cases he : (e != 0) with
 | true =>
  simp only [if_true]
  clear h2
  intro h
  exact ek_ Tryz.func42 [.tmp 6]
 | false =>
  obtain rfl : e = 0 := by simpa using he
  replace h2 := h2 rfl
  simp only [Bool.false_eq_true, if_false]
  intro h
  cases d <;> cases r
  all_goals
   simp only [Bool.false_eq_true, if_false, if_true]
   exact ek_ Tryz.func42 [.tmp 6]
theorem c_decLeastE {f : Fm} {E : Int} (hE : (E != 0) = true) {n w : Int} {bm : Bool} (hm : Pure Tryz.prog env 44 [.int .i64 w] (.bool bm))
  (hL : ∀ r : Bool, (r = true → 0 ≤ n ∧ n ≤ 4096 ∧ bm = true) → Pure Tryz.prog env 42 [.sl .any [tNat.cells], .agg f.cells, .bool r] (.int .i64 E)) :
  Pure Tryz.prog env 15 [.agg f.cells, .int .i64 n, .int .i64 w] (.tup [.int .i64 0, .bool false, .int .i64 0, .int .i64 E]) := by
 have h3 := c_tNat
 cases b1 : decide (n ≥ 0) with
 | false =>
  have h1 := hL false (by simp)
  clear hL
  intro h
  exact ek_ Tryz.func15 [.tmp 6, .tmp 7, .tmp 8, .tmp 9]
 | true =>
  cases b2 : decide (n ≤ 4096) with
  | false =>
   have h1 := hL false (by simp)
   clear hL
   intro h
   exact ek_ Tryz.func15 [.tmp 6, .tmp 7, .tmp 8, .tmp 9]
  | true =>
   cases bm with
   | false =>
    have h1 := hL false (by simp)
    clear hL
    intro h
    exact ek_ Tryz.func15 [.tmp 6, .tmp 7, .tmp 8, .tmp 9]
   | true =>
    have h1 := hL true (by simp at b1 b2 ⊢; omega)
    clear hL
    intro h
    exact ek_ Tryz.func15 [.tmp 6, .tmp 7, .tmp 8, .tmp 9]
theorem c_r09LeastE1 {f : Fm} {E n w : Int} (hE : (E != 0) = true) (h1 : Pure Tryz.prog env 46 [.sl .any [tNat.cells], .agg f.cells] (.int .i64 E)) :
  Pure Tryz.prog env 16 [.agg f.cells, .int .i64 n, .int .i64 w] (.tup [.int .i64 0, .bool false, .int .i64 0, .int .i64 E]) := by
 have h0 := c_refNat
 intro h
 exact ek_ Tryz.func16 [.tmp 6, .tmp 7, .tmp 8, .tmp 9]
theorem c_r09LeastE2 {f : Fm} {n w : Int} (h1 : Pure Tryz.prog env 46 [.sl .any [tNat.cells], .agg f.cells] (.int .i64 0))
  (h2 : Pure Tryz.prog env 47 [.agg f.cells] (.tup [.bool false, .int .i64 0])) :
  Pure Tryz.prog env 16 [.agg f.cells, .int .i64 n, .int .i64 w] (.tup [.int .i64 0, .bool false, .int .i64 0, .int .i64 14]) := by
 have h0 := c_refNat
 have n0 : ((0 : Int) != 0) = false := rfl
 intro h
 exact ek_ Tryz.func16 [.tmp 6, .tmp 7, .tmp 8, .tmp 9]
theorem c_r09LeastE3 {f : Fm} {n w : Int} (h1 : Pure Tryz.prog env 46 [.sl .any [tNat.cells], .agg f.cells] (.int .i64 0))
  (h2 : Pure Tryz.prog env 47 [.agg f.cells] (.tup [.bool true, .int .i64 0])) (hb : ¬ (0 ≤ n ∧ n ≤ 4096 ∧ 0 ≤ w ∧ w ≤ 65536)) :
  Pure Tryz.prog env 16 [.agg f.cells, .int .i64 n, .int .i64 w] (.tup [.int .i64 0, .bool false, .int .i64 0, .int .i64 1]) := by
 have h0 := c_refNat
 have n0 : ((0 : Int) != 0) = false := rfl
 have hcase : decide (n < 0) = true ∨ (decide (n < 0) = false ∧ (decide (n > 4096) = true ∨ (decide (n > 4096) = false ∧ (decide (w < 0) = true ∨ (decide (w < 0) = false ∧ decide (w > 65536) = true))))) := by
  simp only [decide_eq_true_eq, decide_eq_false_iff_not]; omega
 intro h
 rcases hcase with d1 | ⟨d1, d2 | ⟨d2, d3 | ⟨d3, d4⟩⟩⟩
 all_goals
  exact ek_ Tryz.func16 [.tmp 6, .tmp 7, .tmp 8, .tmp 9]
theorem c_leastBoth (f : Fm) (hf : FmX f) (n w : Int) : ∃ (m : Int) (b : Bool) (u e : Int), Pure Tryz.prog env 15 [.agg f.cells, .int .i64 n, .int .i64 w] (.tup [.int .i64 m, .bool b, .int .i64 u, .int .i64 e]) ∧
  Pure Tryz.prog env 16 [.agg f.cells, .int .i64 n, .int .i64 w] (.tup [.int .i64 m, .bool b, .int .i64 u, .int .i64 e]) := by
 obtain ⟨e, t1, t2, t3⟩ := c_typedBoth [tNat] (by simp [TyG.nat]) (by simp) f hf
 simp only [List.map_cons, List.map_nil] at t1 t2
 obtain ⟨bm, m1, m2⟩ := c_mayI w
 have hgc : weakLL [tNat.cells] = [tNat.cells] := by have := weakLL_Ty [tNat]; simpa using this
 cases he : (e != 0) with
 | true =>
  refine ⟨0, false, 0, e, c_decLeastE he m1 (fun r _ => ?_), c_r09LeastE1 he t2⟩
  have := c_lookX (d := false) hgc r t1 (fun h0 => by rw [h0] at he; cases he)
  rw [he] at this
  simpa using this
 | false =>
  obtain rfl : e = 0 := by simpa using he
  obtain ⟨a1, a2, a3⟩ := t3 rfl
  have wf := hf.1
  have h2 := c_clsDecidable f wf
  have e4 : f.has 4 = (f.fl.d, 0) := by
   unfold Fm.has
   rw [a2.err0 a3]
   rfl
  rw [e4] at h2
  unfold boolErrV at h2
  simp only at h2
  have h3 := c_r08Decidable a1 a2 a3 wf (by simp)
  have hlook := fun r => c_lookX hgc r t1 (fun _ => h2)
  simp only [bne_self_eq_false, Bool.false_eq_true, if_false] at hlook
  cases hd : f.fl.d with
  | false =>
   rw [hd] at h3 hlook
   simp only [Bool.false_eq_true, if_false] at hlook
   exact ⟨0, false, 0, 14, c_decLeastE rfl m1 (fun r _ => hlook r), c_r09LeastE2 t2 h3⟩
  | true =>
   rw [hd] at h3 hlook
   simp only [if_true] at hlook
   by_cases hb : 0 ≤ n ∧ n ≤ 4096 ∧ 0 ≤ w ∧ w ≤ 65536
   ·have hD : Dc [tNat] f := Dc.of a1 a2 hd (by simp; omega)
    obtain ⟨m, rfl⟩ := Int.eq_ofNat_of_zero_le hb.1
    obtain ⟨l, rfl⟩ := Int.eq_ofNat_of_zero_le hb.2.2.1
    exact ⟨_, _, _, _, c_decLeast hD a3 m (by omega) l (by omega), c_r09Least hD a3 m (by omega) l (by omega)⟩
   ·refine ⟨0, false, 0, 1, c_decLeastE rfl m1 (fun r hr => ?_), c_r09LeastE3 t2 h3 hb⟩
    have : r = false := by
     cases r with
     | false => rfl
     | true =>
      obtain ⟨q1, q2, q3⟩ := hr rfl
      obtain ⟨q4, q5⟩ := m2.1 q3
      exact absurd ⟨q1, q2, q4, q5⟩ hb
    subst this
    exact hlook false
end Go.Proofs.YtkoeoklndhgejaaGreatDoor
