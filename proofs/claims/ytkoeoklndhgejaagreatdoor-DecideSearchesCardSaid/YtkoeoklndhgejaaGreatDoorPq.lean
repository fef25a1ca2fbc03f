/-
 Walks: the law of the first number for which a formula is true, or the error.
-/
import Derived.Test.YtkoeoklndhgejaaGreatDoorPp
import Derived.Test.YtkoeoklndhgejaaGreatDoorMw
set_option linter.unusedSimpArgs false
set_option linter.unusedVariables false
set_option maxRecDepth 20000
set_option maxHeartbeats 4000000
namespace Go.Proofs.YtkoeoklndhgejaaGreatDoor
open Go GoAbs Go.Proofs
theorem c_nodes09 (f : Fm) : Pure Tryz.prog env 10 [.agg f.cells] (.int .i64 (f.cnt 20000 : Nat)) := by
 intro h
 have h1 := c_cntFm f 20000 (by omega)
 exact ek_ Tryz.func10 [.tmp 2]
def Say09 (c : List V) : Prop := ∀ n w : Int, ∃ (m : Int) (b : Bool) (u e : Int), Pure Tryz.prog env 15 [.agg c, .int .i64 n, .int .i64 w] (.tup [.int .i64 m, .bool b, .int .i64 u, .int .i64 e]) ∧
 Pure Tryz.prog env 16 [.agg c, .int .i64 n, .int .i64 w] (.tup [.int .i64 m, .bool b, .int .i64 u, .int .i64 e])
theorem c_DecideSearches (l : List Int) (raw : Fm) (_ : FmN raw) (bound : Int) (_ : I64 bound) (work : Int) (_ : I64 work) : Pure Tryz.prog env 3 [.sl .any (ints l), .agg raw.cells, .int .i64 bound, .int .i64 work] (.bool true) := by
 have hS := c_sane09
 have hF := c_Few l
 have hC := c_nodes09 raw
 cases hf : decide ((l.length : Int) ≤ 500) with
 | false =>
  rw [hf] at hF
  clear hf
  intro h
  exact ek_ Tryz.func3 [.tmp 8]
 | true =>
 rw [hf] at hF
 have hl : l.length ≤ 1000 := by simp at hf; omega
 clear hf
 cases hm : decide (((raw.cnt 20000 : Nat) : Int) > 400) with
 | true =>
  generalize ((raw.cnt 20000 : Nat) : Int) = c at *
  intro h
  exact ek_ Tryz.func3 [.tmp 8]
 | false =>
 have X1 : FmX raw := FmX.raw (by simp at hm; omega)
 have gN : ∀ y ∈ [tNat], MkTy 1 y := by simp; exact .nat
 obtain ⟨f, a1, mf, wf, Tf⟩ := c_Decidable l hl 2 (by omega) [tNat] 0 gN (by simp)
 simp only [List.map_cons, List.map_nil] at Tf
 replace Tf : ∀ d, Turns Tryz.prog env 11 [.ptr d 0, .sl .any [tNat.cells], .int .i64 2] d (.box (deckC l 0)) (.agg f.cells) (.box (deckC l a1)) := Tf
 have df : Dc [tNat] f := mf.dc gN (by simp)
 have zf : fmSz f ≤ 1000 := by have := (mf.all gN (by simp)).2.1; omega
 have X2 : FmX f := .of df.G (by omega) wf
 have S1 : Say09 raw.cells := fun n w => c_leastBoth raw X1 n w
 have S2 : Say09 f.cells := fun n w => c_leastBoth f X2 n w
 have hN := c_New l
 have h1 := c_refNat
 have h2 := c_Mod bound 6 (by omega)
 have h3 := c_Mod work 300 (by omega)
 clear X1 X2 df zf mf wf gN
 generalize ((raw.cnt 20000 : Nat) : Int) = c at *
 generalize modI bound 6 = b6 at *
 generalize modI work 300 = w3 at *
 have row1 : ∀ x ∈ ([raw.cells, f.cells] : List (List V)), ∃ y : Fm, x = y.cells ∧ Say09 y.cells := by
  intro x hx
  simp only [List.mem_cons, List.not_mem_nil, or_false] at hx
  rcases hx with rfl | rfl
  ·exact ⟨_, rfl, S1⟩
  ·exact ⟨_, rfl, S2⟩
 clear S1 S2
 obtain ⟨mn, hmn⟩ : ∃ mn : Int, ((50 : Int) < bound) = True ∧ mn = 50 ∨ ((50 : Int) < bound) = False ∧ bound = mn := by
  by_cases h : (50 : Int) < bound
  ·exact ⟨50, .inl ⟨eq_true h, rfl⟩⟩
  ·exact ⟨bound, .inr ⟨eq_false h, rfl⟩⟩
 have row2 : ∀ x ∈ ([[.int .i64 mn, .int .i64 work], [.int .i64 b6, .int .i64 3000], [.int .i64 bound, .int .i64 w3]] : List (List V)), ∃ p q : Int, x = [.int .i64 p, .int .i64 q] := by
  intro x hx
  simp only [List.mem_cons, List.not_mem_nil, or_false] at hx
  rcases hx with rfl | rfl | rfl <;> exact ⟨_, _, rfl⟩
 intro h
 rcases hmn with ⟨hmn, rfl⟩ | ⟨hmn, rfl⟩
 ·
  refine en_ Tryz.func3 [.tmp 8] fun g0 w0 gen hrel hfr hfr' hres => ?_
  repeat' (first
   | (first|refine wp rfl ?_|refine spt rfl ?_|refine spf rfl ?_|(refine spl (fun hc => ?_) fun hc => ?_) <;> (try rw [beq_iff_eq] at hc) <;> try simp only [hc]|(refine gs (fun hb => ?_) fun hb => ?_) <;> try simp only [Bool.not_true, Bool.not_false] at hb|refine cp hS ?_|refine cp hF ?_|refine cp hC ?_|refine Call1_new ⟨gen, 1000, 0⟩ (hN) (by first|exact hfr' _ _ | simp only [go_sem, *]) ?_|refine cp h1 ?_|(refine ct (Tf _) ?_ ?_; focus ((simp only [go_sem, *] <;> rfl); done)))<;>try simp only [go_sem, *])
  clear hS hF hC hN h1 Tf hm
  refine ar_ [2, 3, 39] [] (fun i σ => Agree h σ.h ∧ True) (([raw.cells, f.cells] : List (List V))).length ?_ ?_ ?_
  ·simp only [go_sem, *]
   first|exact ag_|exact ⟨ag_, trivial⟩|exact ⟨ag_, rfl⟩
  ·
   intro i σ gr0 hgl_gr0 hgn hlt jI jN jS ⟨jA, _⟩
   obtain ⟨jT, jB⟩ := jS
   simp only [go_sem] at jT jB
   obtain ⟨hgf, hgf0, eg_gen_gr0, eh_gen_gr0⟩ := rnd hgn hgl_gr0 jA
   obtain ⟨x, hx, hxm, hm⟩ := rnx hlt
   clear hgn
   obtain ⟨y, rfl, hy⟩ := row1 x hxm
   clear hxm row1
   refine wq_ ?_
   clear h2 h3
   refine ar_ [2, 3, 11, 39, 40, 41, 56] [⟨gr0, 8, 2⟩] (fun i σ => Agree h σ.h ∧ True) (([[.int .i64 50, .int .i64 work], [.int .i64 b6, .int .i64 3000], [.int .i64 bound, .int .i64 w3]] : List (List V))).length ?_ ?_ ?_
   ·simp only [go_sem, *]
    first|exact ag_|exact ⟨ag_, trivial⟩
   ·clear hx
    intro i σ gr1 hgl_gr1 hgn hlt jI jN jS ⟨jA, _⟩
    obtain ⟨jT, jB⟩ := jS
    simp only [go_sem] at jT jB
    have hgf := fresh_of hgn
    have hgf0 := fun r i => agree_fresh jA (hgf r i)
    have eg_gen_gr1 := gen_lt (show gen < gr1 by omega)
    have eh_gen_gr1 := gen_lt' (show gen < gr1 by omega)
    have eg_gr0_gr1 := gen_lt (show gr0 < gr1 by omega)
    have eh_gr0_gr1 := gen_lt' (show gr0 < gr1 by omega)
    obtain ⟨x, hx, hxm, hm⟩ := rnx hlt
    clear hgn
    obtain ⟨p, q, rfl⟩ := row2 x hxm
    obtain ⟨m, b, u, e, c1, c2⟩ := hy p q
    have e1 : (m != m) = false := by simp
    have e2 : (b != b) = false := by simp
    have e3 : (u != u) = false := by simp
    have e4 : (e != e) = false := by simp
    have d0 : ((0 : Int) < ((2 : Nat) : Int)) = True := by simp
    have d1 : ((1 : Int) < ((2 : Nat) : Int)) = True := by simp
    clear hxm row2 hy
    first|refine wq_ ?_|exact wk_
    all_goals first|exact ag_|exact ⟨ag_, trivial⟩ | skip
   ·
    intro σ ga1 hgl_ga1 hgn jS ⟨jA, _⟩
    obtain ⟨jT, jB⟩ := jS
    simp only [go_sem] at jT jB
    have hgf := fresh_of hgn
    have hgf0 := fun r i => agree_fresh jA (hgf r i)
    have eg_gen_ga1 := gen_lt (show gen < ga1 by omega)
    have eh_gen_ga1 := gen_lt' (show gen < ga1 by omega)
    have eg_gr0_ga1 := gen_lt (show gr0 < ga1 by omega)
    have eh_gr0_ga1 := gen_lt' (show gr0 < ga1 by omega)
    clear hgn
    repeat' (first
     | (first|refine wp rfl ?_|refine spt rfl ?_|refine spf rfl ?_|(refine spl (fun hc => ?_) fun hc => ?_) <;> (try rw [beq_iff_eq] at hc) <;> try simp only [hc]|(refine gs (fun hb => ?_) fun hb => ?_) <;> try simp only [Bool.not_true, Bool.not_false] at hb|refine AR_inv ?_)<;>try simp only [go_sem, *])
    all_goals first|exact ag_|exact ⟨ag_, trivial⟩ | skip
  ·
   intro σ ga0 hgl_ga0 hgn jS ⟨jA, _⟩
   obtain ⟨jT, jB⟩ := jS
   simp only [go_sem] at jT jB
   obtain ⟨hgf, hgf0, eg_gen_ga0, eh_gen_ga0⟩ := rnd hgn hgl_ga0 jA
   clear hgn
   exact wk_
 ·
  refine en_ Tryz.func3 [.tmp 8] fun g0 w0 gen hrel hfr hfr' hres => ?_
  repeat' (first
   | (first|refine wp rfl ?_|refine spt rfl ?_|refine spf rfl ?_|(refine spl (fun hc => ?_) fun hc => ?_) <;> (try rw [beq_iff_eq] at hc) <;> try simp only [hc]|(refine gs (fun hb => ?_) fun hb => ?_) <;> try simp only [Bool.not_true, Bool.not_false] at hb|refine cp hS ?_|refine cp hF ?_|refine cp hC ?_|refine Call1_new ⟨gen, 1000, 0⟩ (hN) (by first|exact hfr' _ _ | simp only [go_sem, *]) ?_|refine cp h1 ?_|(refine ct (Tf _) ?_ ?_; focus ((simp only [go_sem, *] <;> rfl); done)))<;>try simp only [go_sem, *])
  clear hS hF hC hN h1 Tf hm
  refine ar_ [2, 3, 39] [] (fun i σ => Agree h σ.h ∧ True) (([raw.cells, f.cells] : List (List V))).length ?_ ?_ ?_
  ·simp only [go_sem, *]
   first|exact ag_|exact ⟨ag_, trivial⟩|exact ⟨ag_, rfl⟩
  ·
   intro i σ gr0 hgl_gr0 hgn hlt jI jN jS ⟨jA, _⟩
   obtain ⟨jT, jB⟩ := jS
   simp only [go_sem] at jT jB
   obtain ⟨hgf, hgf0, eg_gen_gr0, eh_gen_gr0⟩ := rnd hgn hgl_gr0 jA
   obtain ⟨x, hx, hxm, hm⟩ := rnx hlt
   clear hgn
   obtain ⟨y, rfl, hy⟩ := row1 x hxm
   clear hxm row1
   refine wq_ ?_
   clear h2 h3
   refine ar_ [2, 3, 11, 39, 40, 41, 56] [⟨gr0, 8, 2⟩] (fun i σ => Agree h σ.h ∧ True) (([[.int .i64 bound, .int .i64 work], [.int .i64 b6, .int .i64 3000], [.int .i64 bound, .int .i64 w3]] : List (List V))).length ?_ ?_ ?_
   ·simp only [go_sem, *]
    first|exact ag_|exact ⟨ag_, trivial⟩
   ·clear hx
    intro i σ gr1 hgl_gr1 hgn hlt jI jN jS ⟨jA, _⟩
    obtain ⟨jT, jB⟩ := jS
    simp only [go_sem] at jT jB
    have hgf := fresh_of hgn
    have hgf0 := fun r i => agree_fresh jA (hgf r i)
    have eg_gen_gr1 := gen_lt (show gen < gr1 by omega)
    have eh_gen_gr1 := gen_lt' (show gen < gr1 by omega)
    have eg_gr0_gr1 := gen_lt (show gr0 < gr1 by omega)
    have eh_gr0_gr1 := gen_lt' (show gr0 < gr1 by omega)
    obtain ⟨x, hx, hxm, hm⟩ := rnx hlt
    clear hgn
    obtain ⟨p, q, rfl⟩ := row2 x hxm
    obtain ⟨m, b, u, e, c1, c2⟩ := hy p q
    have e1 : (m != m) = false := by simp
    have e2 : (b != b) = false := by simp
    have e3 : (u != u) = false := by simp
    have e4 : (e != e) = false := by simp
    have d0 : ((0 : Int) < ((2 : Nat) : Int)) = True := by simp
    have d1 : ((1 : Int) < ((2 : Nat) : Int)) = True := by simp
    clear hxm row2 hy
    first|refine wq_ ?_|exact wk_
    all_goals first|exact ag_|exact ⟨ag_, trivial⟩ | skip
   ·
    intro σ ga1 hgl_ga1 hgn jS ⟨jA, _⟩
    obtain ⟨jT, jB⟩ := jS
    simp only [go_sem] at jT jB
    have hgf := fresh_of hgn
    have hgf0 := fun r i => agree_fresh jA (hgf r i)
    have eg_gen_ga1 := gen_lt (show gen < ga1 by omega)
    have eh_gen_ga1 := gen_lt' (show gen < ga1 by omega)
    have eg_gr0_ga1 := gen_lt (show gr0 < ga1 by omega)
    have eh_gr0_ga1 := gen_lt' (show gr0 < ga1 by omega)
    clear hgn
    repeat' (first
     | (first|refine wp rfl ?_|refine spt rfl ?_|refine spf rfl ?_|(refine spl (fun hc => ?_) fun hc => ?_) <;> (try rw [beq_iff_eq] at hc) <;> try simp only [hc]|(refine gs (fun hb => ?_) fun hb => ?_) <;> try simp only [Bool.not_true, Bool.not_false] at hb|refine AR_inv ?_)<;>try simp only [go_sem, *])
    all_goals first|exact ag_|exact ⟨ag_, trivial⟩ | skip
  ·
   intro σ ga0 hgl_ga0 hgn jS ⟨jA, _⟩
   obtain ⟨jT, jB⟩ := jS
   simp only [go_sem] at jT jB
   obtain ⟨hgf, hgf0, eg_gen_ga0, eh_gen_ga0⟩ := rnd hgn hgl_ga0 jA
   clear hgn
   exact wk_
end Go.Proofs.YtkoeoklndhgejaaGreatDoor
