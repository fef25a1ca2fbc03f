/-
 Walks: several parts in one text.
-/
import Derived.Test.YtmbpmbofehmdaaaGreatDoorMa
import Derived.Test.YtmbpmbofehmdaaaGreatDoorAbsDd
import Derived.Test.YtmbpmbofehmdaaaGreatDoorAbsC
set_option linter.unusedSimpArgs false
set_option linter.unusedVariables false
set_option maxRecDepth 20000
set_option maxHeartbeats 4000000
namespace Go.Proofs.YtmbpmbofehmdaaaGreatDoor
open Go GoAbs Go.Proofs
theorem c_cntTy : ∀ (t : Ty) (m : Nat), m ≤ 100000 → Pure Tryz.prog env 86 [.agg t.cells, .int .i64 m] (.int .i64 (t.cnt m : Nat)) := by
 intro t
 induction t using Ty.ind with | h t ih => ?_
 intro m hm h
 have ih' : ∀ x ∈ t.args, ∀ k : Nat, k ≤ m → Pure Tryz.prog env 86 [.agg x.cells, .int .i64 k] (.int .i64 (x.cnt k : Nat)) := fun x hx k hk => ih x hx k (by omega)
 clear ih
 have hv0 := (t.cnt_eq m).symm
 generalize t.cnt m = v at hv0 ⊢
 refine en_ Tryz.func86 [.tmp 4] fun g0 w0 gen hrel hfr hfr' hres => ?_
 refine wq_ ?_
 refine AR_loop_nat (fun i σ => σ.tm 6 = .int .i64 i ∧ σ.tm 1 = .int .i64 m ∧ σ.tm 2 = .ptr ⟨gen, 0, 0⟩ 0 ∧ σ.h ⟨gen, 0, 0⟩ = some (.box t.cells) ∧ Agree h σ.h ∧
  ∃ n : Nat, σ.tm 5 = .int .i64 n ∧ i + 1 ≤ n ∧ n ≤ m + 2 ∧ i ≤ t.args.length ∧ Ty.cntL m n (t.args.drop i) = v) (m + 2) ?_ ?_
 ·simp only [go_sem, *]
  exact ⟨rfl, by repeat (first|exact Agree.refl _|refine Agree.new ?_ (hfr' _ _)), 1, rfl, by omega, by omega, by omega, hv0⟩
 clear hv0
 intro i σ hi ⟨j1, j2, j3, j4, j5, n, j6, j7, j8, j9, jv⟩
 refine AR_gen (fun gn hgn => ?_)
 have hgf := fresh_of hgn
 have hgf0 : ∀ r i, h ⟨gn, r, i⟩ = none := fun r i => agree_fresh j5 (hgf r i)
 have e1 := gen_ne hgn j4
 have e2 := gen_ne' hgn j4
 clear hgn
 rcases Nat.lt_or_ge i t.args.length with hlt | hge
 ·have hd := lt_true hlt
  rcases Nat.lt_or_ge m n with hb | hb
  ·have hd2 : decide ((n : Int) ≤ (m : Int)) = false := by simp; omega
   rw [Ty.cntL_stop (by omega)] at jv
   subst jv
   clear ih'
   exact wk_
  ·have hd2 : decide ((n : Int) ≤ (m : Int)) = true := by simp; omega
   obtain ⟨x, hx⟩ : ∃ x, t.args[i]? = some x := ⟨_, List.getElem?_eq_getElem hlt⟩
   rw [drop_get hx, Ty.cntL_cons hb] at jv
   have hc := ih' x (List.mem_of_getElem? hx) (m - n) (by omega)
   have hle := x.cnt_le (m - n)
   have hpos := x.cnt_pos (m - n)
   have hw1 : IntKind.i64.wrap ((m : Int) - (n : Int)) = ((m - n : Nat) : Int) := wrap_eq (by omega) (by omega) (by omega)
   have hw2 : IntKind.i64.wrap ((n : Int) + ((x.cnt (m - n) : Nat) : Int)) = ((n + x.cnt (m - n) : Nat) : Int) := wrap_eq (by omega) (by omega) (by omega)
   have hw := wrap_succ (i := i) (by omega)
   clear ih'
   generalize x.cnt (m - n) = q at *
   refine wq_ ?_
   first|exact ⟨by omega, by repeat (first|assumption|refine Agree.new ?_ (hgf0 _ _)), _, rfl, by omega, by omega, by omega, jv⟩|exact ⟨by omega, _, rfl, by omega, by omega, by omega, jv⟩
 ·have hd := lt_false hge
  obtain rfl : i = t.args.length := by omega
  rw [List.drop_length, Ty.cntL_nil] at jv
  subst jv
  clear ih'
  exact wk_
theorem c_cntTyNeg (t : Ty) : Pure Tryz.prog env 86 [.agg t.cells, .int .i64 (-1)] (.int .i64 1) := by
 intro h
 refine en_ Tryz.func86 [.tmp 4] fun g0 w0 gen hrel hfr hfr' hres => ?_
 refine wq_ ?_
 have d1 : decide ((1 : Int) ≤ -1) = false := rfl
 refine AR_loop_nat (fun i σ => σ.tm 6 = .int .i64 0 ∧ σ.tm 5 = .int .i64 1 ∧ σ.tm 1 = .int .i64 (-1) ∧ σ.tm 2 = .ptr ⟨gen, 0, 0⟩ 0 ∧ σ.h ⟨gen, 0, 0⟩ = some (.box t.cells) ∧ Agree h σ.h) 1 ?_ ?_
 ·simp only [go_sem, *]
  repeat (first|exact Agree.refl _|refine Agree.new ?_ (hfr' _ _))
 intro i σ hi ⟨j1, j6, j2, j3, j4, j5⟩
 cases hd : decide ((0 : Int) < (t.args.length : Int))
 all_goals
  exact wk_
theorem c_cntTy1 (t : Ty) (m : Nat) (hm : m ≤ 100000) : Pure Tryz.prog env 86 [.agg t.cells, .int .i64 ((m : Int) - 1)] (.int .i64 (tyCnt t m : Nat)) := by
 unfold tyCnt
 by_cases h0 : m = 0
 ·subst h0
  exact c_cntTyNeg t
 ·rw [if_neg h0]
  have := c_cntTy t (m - 1) (by omega)
  rw [show ((m - 1 : Nat) : Int) = (m : Int) - 1 by omega] at this
  exact this
theorem c_cntTm : ∀ (t : Tm) (m : Nat), m ≤ 100000 → Pure Tryz.prog env 40 [.agg t.cells, .int .i64 m] (.int .i64 (t.cnt m : Nat)) := by
 intro t
 induction t using Tm.ind with | h t ih => ?_
 intro m hm h
 have ih' : ∀ x ∈ t.args, ∀ k : Nat, k ≤ m → Pure Tryz.prog env 40 [.agg x.cells, .int .i64 k] (.int .i64 (x.cnt k : Nat)) := fun x hx k hk => ih x hx k (by omega)
 clear ih
 have hT := c_cntTy1 t.type m hm
 have hv0 := (t.cnt_eq m).symm
 have hw0 : IntKind.i64.wrap ((m : Int) - 1) = (m : Int) - 1 := wrap_eq rfl (by omega) (by omega)
 have hle0 := tyCnt_le t.type m
 have hpos0 := tyCnt_pos t.type m
 have hw3 : IntKind.i64.wrap (1 + ((tyCnt t.type m : Nat) : Int)) = ((1 + tyCnt t.type m : Nat) : Int) := wrap_eq (by omega) (by omega) (by omega)
 generalize tyCnt t.type m = q0 at *
 generalize t.cnt m = v at hv0 ⊢
 refine en_ Tryz.func40 [.tmp 4] fun g0 w0 gen hrel hfr hfr' hres => ?_
 refine wq_ ?_
 refine AR_loop_nat (fun i σ => σ.tm 6 = .int .i64 i ∧ σ.tm 1 = .int .i64 m ∧ σ.tm 2 = .ptr ⟨gen, 0, 0⟩ 0 ∧ σ.h ⟨gen, 0, 0⟩ = some (.box t.cells) ∧ Agree h σ.h ∧
  ∃ n : Nat, σ.tm 5 = .int .i64 n ∧ i + 1 ≤ n ∧ n ≤ m + 2 ∧ i ≤ t.args.length ∧ Tm.cntL m n (t.args.drop i) = v) (m + 2) ?_ ?_
 ·simp only [go_sem, *]
  exact ⟨rfl, by repeat (first|exact Agree.refl _|refine Agree.new ?_ (hfr' _ _)), _, rfl, by omega, by omega, by omega, hv0⟩
 clear hv0 hT
 intro i σ hi ⟨j1, j2, j3, j4, j5, n, j6, j7, j8, j9, jv⟩
 refine AR_gen (fun gn hgn => ?_)
 have hgf := fresh_of hgn
 have hgf0 : ∀ r i, h ⟨gn, r, i⟩ = none := fun r i => agree_fresh j5 (hgf r i)
 have e1 := gen_ne hgn j4
 have e2 := gen_ne' hgn j4
 clear hgn
 rcases Nat.lt_or_ge i t.args.length with hlt | hge
 ·have hd := lt_true hlt
  rcases Nat.lt_or_ge m n with hb | hb
  ·have hd2 : decide ((n : Int) ≤ (m : Int)) = false := by simp; omega
   rw [Tm.cntL_stop (by omega)] at jv
   subst jv
   clear ih'
   exact wk_
  ·have hd2 : decide ((n : Int) ≤ (m : Int)) = true := by simp; omega
   obtain ⟨x, hx⟩ : ∃ x, t.args[i]? = some x := ⟨_, List.getElem?_eq_getElem hlt⟩
   rw [drop_get hx, Tm.cntL_cons hb] at jv
   have hc := ih' x (List.mem_of_getElem? hx) (m - n) (by omega)
   have hle := x.cnt_le (m - n)
   have hpos := x.cnt_pos (m - n)
   have hw1 : IntKind.i64.wrap ((m : Int) - (n : Int)) = ((m - n : Nat) : Int) := wrap_eq (by omega) (by omega) (by omega)
   have hw2 : IntKind.i64.wrap ((n : Int) + ((x.cnt (m - n) : Nat) : Int)) = ((n + x.cnt (m - n) : Nat) : Int) := wrap_eq (by omega) (by omega) (by omega)
   have hw := wrap_succ (i := i) (by omega)
   clear ih'
   generalize x.cnt (m - n) = q at *
   refine wq_ ?_
   first|exact ⟨by omega, by repeat (first|assumption|refine Agree.new ?_ (hgf0 _ _)), _, rfl, by omega, by omega, by omega, jv⟩|exact ⟨by omega, _, rfl, by omega, by omega, by omega, jv⟩
 ·have hd := lt_false hge
  obtain rfl : i = t.args.length := by omega
  rw [List.drop_length, Tm.cntL_nil] at jv
  subst jv
  clear ih'
  exact wk_
theorem c_cntFm : ∀ (t : Fm) (m : Nat), m ≤ 100000 → Pure Tryz.prog env 39 [.agg t.cells, .int .i64 m] (.int .i64 (t.cnt m : Nat)) := by
 intro t
 induction t using Fm.ind with | h t ih => ?_
 intro m hm h
 have ih' : ∀ x ∈ t.args, ∀ k : Nat, k ≤ m → Pure Tryz.prog env 39 [.agg x.cells, .int .i64 k] (.int .i64 (x.cnt k : Nat)) := fun x hx k hk => ih x hx k (by omega)
 have it' : ∀ x ∈ t.terms, ∀ k : Nat, k ≤ m → Pure Tryz.prog env 40 [.agg x.cells, .int .i64 k] (.int .i64 (x.cnt k : Nat)) := fun x hx k hk => c_cntTm x k (by omega)
 clear ih
 have hT := c_cntTy1 t.type m hm
 have hv0 := (t.cnt_eq m).symm
 have hw0 : IntKind.i64.wrap ((m : Int) - 1) = (m : Int) - 1 := wrap_eq rfl (by omega) (by omega)
 have hle0 := tyCnt_le t.type m
 have hpos0 := tyCnt_pos t.type m
 have hw3 : IntKind.i64.wrap (1 + ((tyCnt t.type m : Nat) : Int)) = ((1 + tyCnt t.type m : Nat) : Int) := wrap_eq (by omega) (by omega) (by omega)
 generalize tyCnt t.type m = q0 at *
 generalize t.cnt m = v at hv0 ⊢
 refine en_ Tryz.func39 [.tmp 4] fun g0 w0 gen hrel hfr hfr' hres => ?_
 refine wq_ ?_
 refine AR_loop_nat (fun i σ => σ.tm 6 = .int .i64 i ∧ σ.tm 1 = .int .i64 m ∧ σ.tm 2 = .ptr ⟨gen, 0, 0⟩ 0 ∧ σ.h ⟨gen, 0, 0⟩ = some (.box t.cells) ∧ Agree h σ.h ∧
  ∃ n : Nat, σ.tm 5 = .int .i64 n ∧ i + 1 ≤ n ∧ n ≤ m + 2 ∧ i ≤ t.terms.length ∧ Fm.cntL m (Tm.cntL m n (t.terms.drop i)) t.args = v) (m + 2) ?_ ?_
 ·simp only [go_sem, *]
  exact ⟨rfl, by repeat (first|exact Agree.refl _|refine Agree.new ?_ (hfr' _ _)), _, rfl, by omega, by omega, by omega, hv0⟩
 clear hv0 hT
 intro i σ hi ⟨j1, j2, j3, j4, j5, n, j6, j7, j8, j9, jv⟩
 refine AR_gen (fun gn hgn => ?_)
 have hgf := fresh_of hgn
 have hgf0 : ∀ r i, h ⟨gn, r, i⟩ = none := fun r i => agree_fresh j5 (hgf r i)
 have e1 := gen_ne hgn j4
 have e2 := gen_ne' hgn j4
 clear hgn
 by_cases hgo : i < t.terms.length ∧ n ≤ m
 ·obtain ⟨hlt, hb⟩ := hgo
  have hd := lt_true hlt
  have hd2 : decide ((n : Int) ≤ (m : Int)) = true := by simp; omega
  obtain ⟨x, hx⟩ : ∃ x, t.terms[i]? = some x := ⟨_, List.getElem?_eq_getElem hlt⟩
  rw [drop_get hx, Tm.cntL_cons hb] at jv
  have hc := it' x (List.mem_of_getElem? hx) (m - n) (by omega)
  have hle := x.cnt_le (m - n)
  have hpos := x.cnt_pos (m - n)
  have hw1 : IntKind.i64.wrap ((m : Int) - (n : Int)) = ((m - n : Nat) : Int) := wrap_eq (by omega) (by omega) (by omega)
  have hw2 : IntKind.i64.wrap ((n : Int) + ((x.cnt (m - n) : Nat) : Int)) = ((n + x.cnt (m - n) : Nat) : Int) := wrap_eq (by omega) (by omega) (by omega)
  have hw := wrap_succ (i := i) (by omega)
  clear ih' it'
  generalize x.cnt (m - n) = q at *
  refine wq_ ?_
  first|exact ⟨by omega, by repeat (first|assumption|refine Agree.new ?_ (hgf0 _ _)), _, rfl, by omega, by omega, by omega, jv⟩|exact ⟨by omega, _, rfl, by omega, by omega, by omega, jv⟩
 ·have hcase : decide ((i : Int) < (t.terms.length : Int)) = false ∨ (decide ((i : Int) < (t.terms.length : Int)) = true ∧ decide ((n : Int) ≤ (m : Int)) = false) := by
   simp only [decide_eq_false_iff_not, decide_eq_true_eq]; omega
  have jw : Fm.cntL m n (t.args.drop 0) = v := by
   have e : Tm.cntL m n (t.terms.drop i) = n := by
    rcases Nat.lt_or_ge m n with hb | hb
    ·exact Tm.cntL_stop (by omega)
    ·obtain rfl : i = t.terms.length := by omega
     rw [List.drop_length, Tm.cntL_nil]
   rw [e] at jv
   exact jv
  clear jv hgo it'
  rcases hcase with hd | ⟨hd, hd2⟩
  all_goals
   refine wq_ ?_
   refine AR_loop_nat (fun i' σ' => σ'.tm 7 = .int .i64 i' ∧ σ'.tm 1 = .int .i64 m ∧ σ'.tm 2 = .ptr ⟨gen, 0, 0⟩ 0 ∧ σ'.h ⟨gen, 0, 0⟩ = some (.box t.cells) ∧ Agree h σ'.h ∧
    ∃ n : Nat, σ'.tm 5 = .int .i64 n ∧ i' + 1 ≤ n ∧ n ≤ m + 2 ∧ i' ≤ t.args.length ∧ Fm.cntL m n (t.args.drop i') = v) (m + 2) ?_ ?_
   ·simp only [go_sem, *]
    exact ⟨rfl, _, rfl, by omega, by omega, by omega, jw⟩
   clear jw j1 j6 j7 j8 j9 hd j2 j3 j4 j5
   intro i2 σ2 hi2 ⟨j1, j2, j3, j4, j5, n2, j6, j7, j8, j9, jv⟩
   refine AR_gen (fun gn2 hgn2 => ?_)
   have hgf2 := fresh_of hgn2
   have hgf20 : ∀ r i, h ⟨gn2, r, i⟩ = none := fun r i => agree_fresh j5 (hgf2 r i)
   have e3 := gen_ne hgn2 j4
   have e4 := gen_ne' hgn2 j4
   clear hgn2
   rcases Nat.lt_or_ge i2 t.args.length with hlt | hge
   ·have hd := lt_true hlt
    rcases Nat.lt_or_ge m n2 with hb | hb
    ·have hd2 : decide ((n2 : Int) ≤ (m : Int)) = false := by simp; omega
     rw [Fm.cntL_stop (by omega)] at jv
     subst jv
     clear ih'
     exact wk_
    ·have hd2 : decide ((n2 : Int) ≤ (m : Int)) = true := by simp; omega
     obtain ⟨x, hx⟩ : ∃ x, t.args[i2]? = some x := ⟨_, List.getElem?_eq_getElem hlt⟩
     rw [drop_get hx, Fm.cntL_cons hb] at jv
     have hc := ih' x (List.mem_of_getElem? hx) (m - n2) (by omega)
     have hle := x.cnt_le (m - n2)
     have hpos := x.cnt_pos (m - n2)
     have hw1 : IntKind.i64.wrap ((m : Int) - (n2 : Int)) = ((m - n2 : Nat) : Int) := wrap_eq (by omega) (by omega) (by omega)
     have hw2 : IntKind.i64.wrap ((n2 : Int) + ((x.cnt (m - n2) : Nat) : Int)) = ((n2 + x.cnt (m - n2) : Nat) : Int) := wrap_eq (by omega) (by omega) (by omega)
     have hw := wrap_succ (i := i2) (by omega)
     clear ih'
     generalize x.cnt (m - n2) = q at *
     refine wq_ ?_
     first|exact ⟨by omega, by repeat (first|assumption|refine Agree.new ?_ (hgf20 _ _)), _, rfl, by omega, by omega, by omega, jv⟩|exact ⟨by omega, _, rfl, by omega, by omega, by omega, jv⟩
   ·have hd := lt_false hge
    obtain rfl : i2 = t.args.length := by omega
    rw [List.drop_length, Fm.cntL_nil] at jv
    subst jv
    clear ih'
    exact wk_
end Go.Proofs.YtmbpmbofehmdaaaGreatDoor
