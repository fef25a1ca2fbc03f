/-
 Walks: counting raw trees; large terms.
-/
import Derived.Test.YtpnjamplciaopaaGreatDoorMa
import Derived.Test.YtpnjamplciaopaaGreatDoorAbsDc
import Derived.Test.YtpnjamplciaopaaGreatDoorAbsC
set_option linter.unusedSimpArgs false
set_option linter.unusedVariables false
set_option maxRecDepth 20000
set_option maxHeartbeats 4000000
namespace Go.Proofs.YtpnjamplciaopaaGreatDoor
open Go GoAbs Go.Proofs
theorem c_cntTy : ∀ (t : Ty) (m : Nat), m ≤ 100000 → Pure Tryz.prog env 40 [.agg t.cells, .int .i64 m] (.int .i64 (t.cnt m : Nat)) := by
 intro t
 induction t using Ty.ind with | h t ih => ?_
 intro m hm h
 have ih' : ∀ x ∈ t.args, ∀ k : Nat, k ≤ m → Pure Tryz.prog env 40 [.agg x.cells, .int .i64 k] (.int .i64 (x.cnt k : Nat)) := fun x hx k hk => ih x hx k (by omega)
 clear ih
 have hv0 := (t.cnt_eq m).symm
 generalize t.cnt m = v at hv0 ⊢
 refine en Tryz.func40 [.tmp 4] rfl rfl fun g0 w0 gen hrel hfr hfr' hres => ?_
 repeat' (first
  | exact hin _ | exact agf (by assumption)
  | (first | refine wp rfl ?_ | refine spt rfl ?_ | refine spf rfl ?_ | (refine spl (fun hc => ?_) fun hc => ?_) <;> (try rw [beq_iff_eq] at hc) <;> try simp only [hc] | (refine gs (fun hb => ?_) fun hb => ?_) <;> try simp only [Bool.not_true, Bool.not_false] at hb | refine finF hrel ?_ ?_ ?_) <;> try simp only [go_sem, *])
 refine AR_loop_nat (fun i σ => σ.tm 6 = .int .i64 i ∧ σ.tm 1 = .int .i64 m ∧ σ.tm 2 = .ptr ⟨gen, 0, 0⟩ 0 ∧ σ.h ⟨gen, 0, 0⟩ = some (.box t.cells) ∧ Agree h σ.h ∧
  ∃ n : Nat, σ.tm 5 = .int .i64 n ∧ i + 1 ≤ n ∧ n ≤ m + 2 ∧ i ≤ t.args.length ∧ Ty.cntL m n (t.args.drop i) = v) (m + 2) ?_ ?_
 ·simp only [go_sem, *]
  exact ⟨rfl, by repeat (first | exact Agree.refl _ | refine Agree.new ?_ (hfr' _ _)), 1, rfl, by omega, by omega, by omega, hv0⟩
 clear hv0
 intro i σ hi ⟨j1, j2, j3, j4, j5, n, j6, j7, j8, j9, jv⟩
 refine AR_gen (fun gn hgn => ?_)
 have hgf := fresh_of hgn
 have hgf0 : ∀ r i, h ⟨gn, r, i⟩ = none := fun r i => agree_fresh j5 (hgf r i)
 have e1 := gen_ne hgn j4
 have e2 := gen_ne' hgn j4
 clear hgn
 rcases Nat.lt_or_ge i t.args.length with hlt | hge
 ·have hd := lt_true hlt
  rcases Nat.lt_or_ge m n with hb | hb
  ·have hd2 : decide ((n : Int) ≤ (m : Int)) = false := by simp; omega
   rw [Ty.cntL_stop (by omega)] at jv
   subst jv
   clear ih'
   repeat' (first
    | exact hin _ | exact agf (by assumption)
    | (first | refine wp rfl ?_ | refine spt rfl ?_ | refine spf rfl ?_ | (refine spl (fun hc => ?_) fun hc => ?_) <;> (try rw [beq_iff_eq] at hc) <;> try simp only [hc] | (refine gs (fun hb => ?_) fun hb => ?_) <;> try simp only [Bool.not_true, Bool.not_false] at hb | refine finF hrel ?_ ?_ ?_) <;> try simp only [go_sem, *])
  ·have hd2 : decide ((n : Int) ≤ (m : Int)) = true := by simp; omega
   obtain ⟨x, hx⟩ : ∃ x, t.args[i]? = some x := ⟨_, List.getElem?_eq_getElem hlt⟩
   rw [drop_get hx, Ty.cntL_cons hb] at jv
   have hc := ih' x (List.mem_of_getElem? hx) (m - n) (by omega)
   have hle := x.cnt_le (m - n)
   have hpos := x.cnt_pos (m - n)
   have hw1 : IntKind.i64.wrap ((m : Int) - (n : Int)) = ((m - n : Nat) : Int) := wrap_eq (by omega) (by omega) (by omega)
   have hw2 : IntKind.i64.wrap ((n : Int) + ((x.cnt (m - n) : Nat) : Int)) = ((n + x.cnt (m - n) : Nat) : Int) := wrap_eq (by omega) (by omega) (by omega)
   have hw := wrap_succ (i := i) (by omega)
   clear ih'
   generalize x.cnt (m - n) = q at *
   repeat' (first
    | (first | refine wp rfl ?_ | refine spt rfl ?_ | refine spf rfl ?_ | (refine spl (fun hc => ?_) fun hc => ?_) <;> (try rw [beq_iff_eq] at hc) <;> try simp only [hc] | (refine gs (fun hb => ?_) fun hb => ?_) <;> try simp only [Bool.not_true, Bool.not_false] at hb | refine cp (hc) ?_ | refine AR_inv ?_) <;> try simp only [go_sem, *])
   first | exact ⟨by omega, by repeat (first | assumption | refine Agree.new ?_ (hgf0 _ _)), _, rfl, by omega, by omega, by omega, jv⟩ | exact ⟨by omega, _, rfl, by omega, by omega, by omega, jv⟩
 ·have hd := lt_false hge
  obtain rfl : i = t.args.length := by omega
  rw [List.drop_length, Ty.cntL_nil] at jv
  subst jv
  clear ih'
  repeat' (first
   | exact hin _ | exact agf (by assumption)
   | (first | refine wp rfl ?_ | refine spt rfl ?_ | refine spf rfl ?_ | (refine spl (fun hc => ?_) fun hc => ?_) <;> (try rw [beq_iff_eq] at hc) <;> try simp only [hc] | (refine gs (fun hb => ?_) fun hb => ?_) <;> try simp only [Bool.not_true, Bool.not_false] at hb | refine finF hrel ?_ ?_ ?_) <;> try simp only [go_sem, *])
theorem c_cntTyNeg (t : Ty) : Pure Tryz.prog env 40 [.agg t.cells, .int .i64 (-1)] (.int .i64 1) := by
 intro h
 refine en Tryz.func40 [.tmp 4] rfl rfl fun g0 w0 gen hrel hfr hfr' hres => ?_
 repeat' (first
  | exact hin _ | exact agf (by assumption)
  | (first | refine wp rfl ?_ | refine spt rfl ?_ | refine spf rfl ?_ | (refine spl (fun hc => ?_) fun hc => ?_) <;> (try rw [beq_iff_eq] at hc) <;> try simp only [hc] | (refine gs (fun hb => ?_) fun hb => ?_) <;> try simp only [Bool.not_true, Bool.not_false] at hb | refine finF hrel ?_ ?_ ?_) <;> try simp only [go_sem, *])
 have d1 : decide ((1 : Int) ≤ -1) = false := rfl
 refine AR_loop_nat (fun i σ => σ.tm 6 = .int .i64 0 ∧ σ.tm 5 = .int .i64 1 ∧ σ.tm 1 = .int .i64 (-1) ∧ σ.tm 2 = .ptr ⟨gen, 0, 0⟩ 0 ∧ σ.h ⟨gen, 0, 0⟩ = some (.box t.cells) ∧ Agree h σ.h) 1 ?_ ?_
 ·simp only [go_sem, *]
  repeat (first | exact Agree.refl _ | refine Agree.new ?_ (hfr' _ _))
 intro i σ hi ⟨j1, j6, j2, j3, j4, j5⟩
 cases hd : decide ((0 : Int) < (t.args.length : Int))
 all_goals
  repeat' (first
   | exact hin _ | exact agf (by assumption)
   | (first | refine wp rfl ?_ | refine spt rfl ?_ | refine spf rfl ?_ | (refine spl (fun hc => ?_) fun hc => ?_) <;> (try rw [beq_iff_eq] at hc) <;> try simp only [hc] | (refine gs (fun hb => ?_) fun hb => ?_) <;> try simp only [Bool.not_true, Bool.not_false] at hb | refine finF hrel ?_ ?_ ?_) <;> try simp only [go_sem, *])
theorem c_cntTy1 (t : Ty) (m : Nat) (hm : m ≤ 100000) : Pure Tryz.prog env 40 [.agg t.cells, .int .i64 ((m : Int) - 1)] (.int .i64 (tyCnt t m : Nat)) := by
 unfold tyCnt
 by_cases h0 : m = 0
 ·subst h0
  exact c_cntTyNeg t
 ·rw [if_neg h0]
  have := c_cntTy t (m - 1) (by omega)
  rw [show ((m - 1 : Nat) : Int) = (m : Int) - 1 by omega] at this
  exact this
theorem c_cntTm : ∀ (t : Tm) (m : Nat), m ≤ 100000 → Pure Tryz.prog env 41 [.agg t.cells, .int .i64 m] (.int .i64 (t.cnt m : Nat)) := by
 intro t
 induction t using Tm.ind with | h t ih => ?_
 intro m hm h
 have ih' : ∀ x ∈ t.args, ∀ k : Nat, k ≤ m → Pure Tryz.prog env 41 [.agg x.cells, .int .i64 k] (.int .i64 (x.cnt k : Nat)) := fun x hx k hk => ih x hx k (by omega)
 clear ih
 have hT := c_cntTy1 t.type m hm
 have hv0 := (t.cnt_eq m).symm
 have hw0 : IntKind.i64.wrap ((m : Int) - 1) = (m : Int) - 1 := wrap_eq rfl (by omega) (by omega)
 have hle0 := tyCnt_le t.type m
 have hpos0 := tyCnt_pos t.type m
 have hw3 : IntKind.i64.wrap (1 + ((tyCnt t.type m : Nat) : Int)) = ((1 + tyCnt t.type m : Nat) : Int) := wrap_eq (by omega) (by omega) (by omega)
 generalize tyCnt t.type m = q0 at *
 generalize t.cnt m = v at hv0 ⊢
 refine en Tryz.func41 [.tmp 4] rfl rfl fun g0 w0 gen hrel hfr hfr' hres => ?_
 repeat' (first
  | exact hin _ | exact agf (by assumption)
  | (first | refine wp rfl ?_ | refine spt rfl ?_ | refine spf rfl ?_ | (refine spl (fun hc => ?_) fun hc => ?_) <;> (try rw [beq_iff_eq] at hc) <;> try simp only [hc] | (refine gs (fun hb => ?_) fun hb => ?_) <;> try simp only [Bool.not_true, Bool.not_false] at hb | refine cp (hT) ?_ | refine finF hrel ?_ ?_ ?_) <;> try simp only [go_sem, *])
 refine AR_loop_nat (fun i σ => σ.tm 6 = .int .i64 i ∧ σ.tm 1 = .int .i64 m ∧ σ.tm 2 = .ptr ⟨gen, 0, 0⟩ 0 ∧ σ.h ⟨gen, 0, 0⟩ = some (.box t.cells) ∧ Agree h σ.h ∧
  ∃ n : Nat, σ.tm 5 = .int .i64 n ∧ i + 1 ≤ n ∧ n ≤ m + 2 ∧ i ≤ t.args.length ∧ Tm.cntL m n (t.args.drop i) = v) (m + 2) ?_ ?_
 ·simp only [go_sem, *]
  exact ⟨rfl, by repeat (first | exact Agree.refl _ | refine Agree.new ?_ (hfr' _ _)), _, rfl, by omega, by omega, by omega, hv0⟩
 clear hv0 hT
 intro i σ hi ⟨j1, j2, j3, j4, j5, n, j6, j7, j8, j9, jv⟩
 refine AR_gen (fun gn hgn => ?_)
 have hgf := fresh_of hgn
 have hgf0 : ∀ r i, h ⟨gn, r, i⟩ = none := fun r i => agree_fresh j5 (hgf r i)
 have e1 := gen_ne hgn j4
 have e2 := gen_ne' hgn j4
 clear hgn
 rcases Nat.lt_or_ge i t.args.length with hlt | hge
 ·have hd := lt_true hlt
  rcases Nat.lt_or_ge m n with hb | hb
  ·have hd2 : decide ((n : Int) ≤ (m : Int)) = false := by simp; omega
   rw [Tm.cntL_stop (by omega)] at jv
   subst jv
   clear ih'
   repeat' (first
    | exact hin _ | exact agf (by assumption)
    | (first | refine wp rfl ?_ | refine spt rfl ?_ | refine spf rfl ?_ | (refine spl (fun hc => ?_) fun hc => ?_) <;> (try rw [beq_iff_eq] at hc) <;> try simp only [hc] | (refine gs (fun hb => ?_) fun hb => ?_) <;> try simp only [Bool.not_true, Bool.not_false] at hb | refine finF hrel ?_ ?_ ?_) <;> try simp only [go_sem, *])
  ·have hd2 : decide ((n : Int) ≤ (m : Int)) = true := by simp; omega
   obtain ⟨x, hx⟩ : ∃ x, t.args[i]? = some x := ⟨_, List.getElem?_eq_getElem hlt⟩
   rw [drop_get hx, Tm.cntL_cons hb] at jv
   have hc := ih' x (List.mem_of_getElem? hx) (m - n) (by omega)
   have hle := x.cnt_le (m - n)
   have hpos := x.cnt_pos (m - n)
   have hw1 : IntKind.i64.wrap ((m : Int) - (n : Int)) = ((m - n : Nat) : Int) := wrap_eq (by omega) (by omega) (by omega)
   have hw2 : IntKind.i64.wrap ((n : Int) + ((x.cnt (m - n) : Nat) : Int)) = ((n + x.cnt (m - n) : Nat) : Int) := wrap_eq (by omega) (by omega) (by omega)
   have hw := wrap_succ (i := i) (by omega)
   clear ih'
   generalize x.cnt (m - n) = q at *
   repeat' (first
    | (first | refine wp rfl ?_ | refine spt rfl ?_ | refine spf rfl ?_ | (refine spl (fun hc => ?_) fun hc => ?_) <;> (try rw [beq_iff_eq] at hc) <;> try simp only [hc] | (refine gs (fun hb => ?_) fun hb => ?_) <;> try simp only [Bool.not_true, Bool.not_false] at hb | refine cp (hc) ?_ | refine AR_inv ?_) <;> try simp only [go_sem, *])
   first | exact ⟨by omega, by repeat (first | assumption | refine Agree.new ?_ (hgf0 _ _)), _, rfl, by omega, by omega, by omega, jv⟩ | exact ⟨by omega, _, rfl, by omega, by omega, by omega, jv⟩
 ·have hd := lt_false hge
  obtain rfl : i = t.args.length := by omega
  rw [List.drop_length, Tm.cntL_nil] at jv
  subst jv
  clear ih'
  repeat' (first
   | exact hin _ | exact agf (by assumption)
   | (first | refine wp rfl ?_ | refine spt rfl ?_ | refine spf rfl ?_ | (refine spl (fun hc => ?_) fun hc => ?_) <;> (try rw [beq_iff_eq] at hc) <;> try simp only [hc] | (refine gs (fun hb => ?_) fun hb => ?_) <;> try simp only [Bool.not_true, Bool.not_false] at hb | refine finF hrel ?_ ?_ ?_) <;> try simp only [go_sem, *])
theorem c_sumCount : Pure Tryz.prog env 10 [] (.agg [.int .i64 0]) := by
 intro h
 refine en Tryz.func10 [.cell 0 35] rfl rfl fun g0 w0 gen hrel hfr hfr' hres => ?_
 repeat' (first
  | exact hin _ | exact agf (by assumption)
  | (first | refine wp rfl ?_ | refine finF hrel ?_ ?_ ?_) <;> try simp only [go_sem, *])
theorem c_sumFew (n : Nat) : Pure Tryz.prog env 14 [.agg [.int .i64 n]] (.bool (decide ((n : Int) ≤ 20000))) := by
 intro h
 refine en Tryz.func14 [.tmp 2] rfl rfl fun g0 w0 gen hrel hfr hfr' hres => ?_
 repeat' (first
  | exact hin _ | exact agf (by assumption)
  | (first | refine wp rfl ?_ | refine finF hrel ?_ ?_ ?_) <;> try simp only [go_sem, *])
theorem c_Large : ∀ t : Tm, TmW t → Pure Tryz.prog env 74 [.agg t.cells] (.bool (!t.least 268435456)) := by
 intro t
 induction t using Tm.ind with | h t ih => ?_
 intro ht h
 have hlen := ht.len
 have ih' : ∀ x ∈ t.args, Pure Tryz.prog env 74 [.agg x.cells] (.bool (!x.least 268435456)) := fun x hx => ih x hx (ht.arg hx)
 clear ih
 have hv0 : (!(decide (t.index ≤ 268435456) && Tm.leastL 268435456 t.args)) = !t.least 268435456 := by rw [t.least_eq]
 generalize hvv : (!t.least 268435456) = v at hv0 ⊢
 clear hvv
 cases hi : decide (t.index > 268435456) with
 | true =>
  have : decide (t.index ≤ 268435456) = false := by simp at hi ⊢; omega
  rw [this, Bool.false_and, Bool.not_false] at hv0
  subst hv0
  clear ih' this
  refine en Tryz.func74 [.tmp 2] rfl rfl fun g0 w0 gen hrel hfr hfr' hres => ?_
  repeat' (first
   | exact hin _ | exact agf (by assumption)
   | (first | refine wp rfl ?_ | refine spt rfl ?_ | refine spf rfl ?_ | (refine spl (fun hc => ?_) fun hc => ?_) <;> (try rw [beq_iff_eq] at hc) <;> try simp only [hc] | refine finF hrel ?_ ?_ ?_) <;> try simp only [go_sem, *])
 | false =>
 have : decide (t.index ≤ 268435456) = true := by simp at hi ⊢; omega
 rw [this, Bool.true_and] at hv0
 clear this
 refine en Tryz.func74 [.tmp 2] rfl rfl fun g0 w0 gen hrel hfr hfr' hres => ?_
 repeat' (first
  | exact hin _ | exact agf (by assumption)
  | (first | refine wp rfl ?_ | refine spt rfl ?_ | refine spf rfl ?_ | (refine spl (fun hc => ?_) fun hc => ?_) <;> (try rw [beq_iff_eq] at hc) <;> try simp only [hc] | refine finF hrel ?_ ?_ ?_) <;> try simp only [go_sem, *])
 refine AR_loop_nat (fun i σ => σ.tm 3 = .int .i64 i ∧ σ.tm 1 = .ptr ⟨gen, 0, 0⟩ 0 ∧
  σ.h ⟨gen, 0, 0⟩ = some (.box t.cells) ∧ Agree h σ.h ∧ (!Tm.leastL 268435456 (t.args.drop i)) = v) t.args.length ?_ ?_
 ·simp only [go_sem, *]
  exact ⟨rfl, by repeat (first | exact Agree.refl _ | assumption | refine Agree.new ?_ (hfr' _ _))⟩
 clear hv0 hi
 intro i σ hi ⟨j1, j2, j4, j5, j7⟩
 refine AR_gen (fun gn hgn => ?_)
 have hgf := fresh_of hgn
 have hgf0 : ∀ r i, h ⟨gn, r, i⟩ = none := fun r i => agree_fresh j5 (hgf r i)
 have e1 := gen_ne hgn j4
 have e2 := gen_ne' hgn j4
 have hw := wrap_succ (i := i) (by omega)
 clear hgn
 rcases Nat.lt_or_ge i t.args.length with hlt | hge
 ·have hd := lt_true hlt
  obtain ⟨x, hx⟩ : ∃ x, t.args[i]? = some x := ⟨_, List.getElem?_eq_getElem hlt⟩
  rw [drop_get hx, Tm.leastL_cons] at j7
  have hc := ih' x (List.mem_of_getElem? hx)
  clear ih'
  cases hn : x.least 268435456 with
  | false =>
   rw [hn, Bool.not_false] at hc
   rw [hn, Bool.false_and, Bool.not_false] at j7
   subst j7
   repeat' (first
    | exact hin _ | exact agf (by assumption)
    | (first | refine wp rfl ?_ | refine spt rfl ?_ | refine spf rfl ?_ | (refine spl (fun hc => ?_) fun hc => ?_) <;> (try rw [beq_iff_eq] at hc) <;> try simp only [hc] | refine cp (hc) ?_ | refine finF hrel ?_ ?_ ?_) <;> try simp only [go_sem, *])
  | true =>
   rw [hn, Bool.not_true] at hc
   rw [hn, Bool.true_and] at j7
   repeat' (first
    | exact hin _ | exact agf (by assumption)
    | (first | refine wp rfl ?_ | refine spt rfl ?_ | refine spf rfl ?_ | (refine spl (fun hc => ?_) fun hc => ?_) <;> (try rw [beq_iff_eq] at hc) <;> try simp only [hc] | refine AR_inv ?_ | refine cp (hc) ?_ | refine finF hrel ?_ ?_ ?_) <;> try simp only [go_sem, *])
 ·have hd := lt_false hge
  obtain rfl : i = t.args.length := by omega
  rw [List.drop_length, Tm.leastL_nil, Bool.not_true] at j7
  subst j7
  clear ih'
  repeat' (first
   | exact hin _ | exact agf (by assumption)
   | (first | refine wp rfl ?_ | refine spt rfl ?_ | refine spf rfl ?_ | (refine spl (fun hc => ?_) fun hc => ?_) <;> (try rw [beq_iff_eq] at hc) <;> try simp only [hc] | refine finF hrel ?_ ?_ ?_) <;> try simp only [go_sem, *])
end Go.Proofs.YtpnjamplciaopaaGreatDoor
