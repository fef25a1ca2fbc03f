/-
 Walks: several parts in one text.
-/
import Derived.Test.YteaijonkbbkkjaaGreatDoorMa
import Derived.Test.YteaijonkbbkkjaaGreatDoorAbsC
set_option linter.unusedSimpArgs false
set_option linter.unusedVariables false
set_option maxRecDepth 20000
set_option maxHeartbeats 4000000
namespace Go.Proofs.YteaijonkbbkkjaaGreatDoor
open Go GoAbs Go.Proofs
theorem c_numeral (n : Nat) (hn : n ≤ 1000000) : Pure Tryz.prog env 100 [.int .i64 n] (.agg (numT n).cells) := by
 intro h
 have h1 := c_N 4 [] (by simp) (by simp)
 simp only [List.map_nil] at h1
 refine en_ Tryz.func100 [.cell 2 65] fun g0 w0 gen hrel hfr hfr' hres => ?_
 refine wq_ ?_
 refine AR_loop_nat (fun i σ => σ.tm 0 = .int .i64 ((n - i : Nat) : Int) ∧ σ.tm 2 = .ptr ⟨gen, 0, 0⟩ 0 ∧ σ.tm 3 = .ptr ⟨gen, 1, 1⟩ 0 ∧
  σ.h ⟨gen, 0, 0⟩ = some (.box [.int .i64 0, .int .i64 0, .int .i64 0, .sl .full [], .sl .full []]) ∧ σ.h ⟨gen, 1, 1⟩ = some (.box (numT i).cells) ∧ Agree h σ.h) n ?_ ?_
 ·simp only [go_sem, *]
  exact ⟨by simp, rfl, by repeat (first|exact Agree.refl _|refine Agree.new ?_ (hfr' _ _))⟩
 intro i σ hi ⟨j1, j2, j3, j4, j5, j6⟩
 have hN : numT (i + 1) = tm0 5 [numT i] := rfl
 rcases Nat.lt_or_ge i n with hlt | hge
 ·have hd : decide (((n - i : Nat) : Int) > 0) = true := by simp; omega
  have hw : IntKind.i64.wrap (((n - i : Nat) : Int) - 1) = ((n - (i + 1) : Nat) : Int) := wrap_eq (by omega) (by omega) (by omega)
  rw [tm0] at hN
  repeat' (first
   | (first|refine wp rfl ?_|refine spt rfl ?_|refine spf rfl ?_|(refine spl (fun hc => ?_) fun hc => ?_) <;> (try rw [beq_iff_eq] at hc) <;> try simp only [hc])<;>try simp only [go_sem, *])
  refine AR_weakBox ⟨gen, 1, 1⟩ (by simp only [go_sem, *]; rfl) ?_
  simp only [go_sem, *]
  refine AR_inv ?_
  simp only [go_sem, *]
  exact ⟨by rw [Tm.mk_cells]; rfl, by repeat (first|assumption|refine Agree.new ?_ (hfr' _ _))⟩
 ·have hd : decide (((n - i : Nat) : Int) > 0) = false := by simp; omega
  obtain rfl : i = n := by omega
  exact wk_
theorem c_Number (n : Nat) (hn : n ≤ 1000) : Pure Tryz.prog env 57 [.int .i64 n] (.tup [.agg (numT n).cells, .int .i64 0]) := by
 intro h
 have h1 := c_numeral n (by omega)
 have d1 : decide ((n : Int) < 0) = false := by simp
 have d2 : decide ((n : Int) ≥ 4096) = false := by simp; omega
 exact ek_ Tryz.func57 [.cell 2 65, .tmp 3]
theorem c_Num (n : Nat) (hn : n ≤ 1000) : Pure Tryz.prog env 29 [.int .i64 n] (.agg (numT n).cells) := by
 intro h
 have h1 := c_Number n hn
 exact ek_ Tryz.func29 [.cell 2 65]
theorem c_New (l : List Int) : News Tryz.prog env 10 [.sl .any (ints l)] (deckC l 0) := by
 intro h id hid
 refine en_ Tryz.func10 [.tmp 2] fun g0 w0 gen hrel hfr hfr' hres => ?_
 refine wq_ ?_
 refine AR_new hrel hid rfl (by simp only [go_sem, *]; rfl) (hfr' _ _) (by simp only [deckC, go_sem, *]) (by repeat (first|exact Agree.refl _|refine Agree.new ?_ (hfr' _ _)))
theorem c_Next (l : List Int) (hl : l.length ≤ 1000) (d : GoAbs.Id) (a : Nat) (n : Int) :
  Turns Tryz.prog env 20 [.ptr d 0, .int .i64 n] d (.box (deckC l a)) (.int .i64 (nextD l a n).1) (.box (deckC l (nextD l a n).2)) := by
 intro h hd
 unfold deckC at hd ⊢
 cases hn : decide (n < 1) with
 | true =>
  have hv : nextD l a n = (0, a) := by simp at hn; simp [nextD, hn]
  rw [hv]
  refine en_ Tryz.func20 [.tmp 4] fun g0 w0 gen hrel hfr hfr' hres => ?_
  have f1 := fresh_ne hfr hd
  have f2 := fresh_ne' hfr hd
  exact wkT_
 | false =>
  cases hm : decide ((a : Int) ≥ (l.length : Int)) with
  | true =>
   have hv : nextD l a n = (0, a) := by simp at hm; simp [nextD, hm]
   rw [hv]
   refine en_ Tryz.func20 [.tmp 4] fun g0 w0 gen hrel hfr hfr' hres => ?_
   have f1 := fresh_ne hfr hd
   have f2 := fresh_ne' hfr hd
   exact wkT_
  | false =>
   simp at hn hm
   obtain ⟨x, hx⟩ : ∃ x, l[a]? = some x := ⟨_, List.getElem?_eq_getElem hm⟩
   have hv : nextD l a n = (modI x n, a + 1) := by
    have : ¬ (n < 1 ∨ l.length ≤ a) := by omega
    simp [nextD, this, hx]
   have h1 := c_Mod x n (by omega)
   have hw := wrap_succ (i := a) (by omega)
   have hix : (ints l)[a]? = some [.int .i64 x] := by rw [ints_get, hx]; rfl
   have hn' : decide (n < 1) = false := by simp; omega
   have hm' : decide ((a : Int) ≥ (l.length : Int)) = false := by simp; omega
   rw [hv]
   clear hn hm
   refine en_ Tryz.func20 [.tmp 4] fun g0 w0 gen hrel hfr hfr' hres => ?_
   have f1 := fresh_ne hfr hd
   have f2 := fresh_ne' hfr hd
   exact wkT_
end Go.Proofs.YteaijonkbbkkjaaGreatDoor
