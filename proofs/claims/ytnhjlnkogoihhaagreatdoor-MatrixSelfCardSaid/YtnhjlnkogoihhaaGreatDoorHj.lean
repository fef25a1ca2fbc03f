/-
  Walks: counting raw trees; large terms.
-/
import Derived.Test.YtnhjlnkogoihhaaGreatDoorWe
import Derived.Test.YtnhjlnkogoihhaaGreatDoorAbsD
import Derived.Test.YtnhjlnkogoihhaaGreatDoorAbsC
set_option linter.unusedSimpArgs false
set_option linter.unusedVariables false
set_option maxRecDepth 20000
set_option maxHeartbeats 4000000
namespace Go.Proofs.YtnhjlnkogoihhaaGreatDoor
open Go GoAbs Go.Proofs

theorem c_cntTy : ∀ (t : Ty) (m : Nat), m ≤ 100000 → Pure Tryz.prog env 80 [.agg t.cells, .int .i64 m] (.int .i64 (t.cnt m : Nat)) := by
  intro t
  induction t using Ty.ind with | h t ih => ?_
  intro m hm h
  have ih' : ∀ x ∈ t.args, ∀ k : Nat, k ≤ m → Pure Tryz.prog env 80 [.agg x.cells, .int .i64 k] (.int .i64 (x.cnt k : Nat)) := fun x hx k hk => ih x hx k (by omega)
  clear ih
  have hv0 := (t.cnt_eq m).symm
  generalize t.cnt m = v at hv0 ⊢
  refine enter Tryz.func80 [.tmp 4] rfl (by kernel_rfl) follows (by kernel_rfl) rfl fun g0 w0 gen hrel hfr hfr' hres => ?_
  repeat' (first
    | exact hin _ | exact agf (by assumption)
    | (first | refine wp rfl ?_ | refine spt rfl ?_ | refine spf rfl ?_ | (refine spl (fun hc => ?_) fun hc => ?_) <;> (try rw [beq_iff_eq] at hc) <;> try simp only [hc] | (refine guarded_split (fun hb => ?_) fun hb => ?_) <;> try simp only [Bool.not_true, Bool.not_false] at hb | refine finF hrel ?_ ?_ ?_) <;> try simp only [go_sem, *])
  refine AR_loop_nat (fun i σ => σ.tm 6 = .int .i64 i ∧ σ.tm 1 = .int .i64 m ∧ σ.tm 2 = .ptr ⟨gen, 0, 0⟩ 0 ∧ σ.h ⟨gen, 0, 0⟩ = some (.box t.cells) ∧ Agree h σ.h ∧
    ∃ n : Nat, σ.tm 5 = .int .i64 n ∧ i + 1 ≤ n ∧ n ≤ m + 2 ∧ i ≤ t.args.length ∧ Ty.cntL m n (t.args.drop i) = v) (m + 2) ?_ ?_
  · simp only [go_sem, *]
    exact ⟨rfl, by repeat (first | exact Agree.refl _ | refine Agree.new ?_ (hfr' _ _)), 1, rfl, by omega, by omega, by omega, hv0⟩
  clear hv0
  intro i σ hi ⟨j1, j2, j3, j4, j5, n, j6, j7, j8, j9, jv⟩
  refine AR_gen (fun gn hgn => ?_)
  have hgf := fresh_of hgn
  have hgf0 : ∀ r i, h ⟨gn, r, i⟩ = none := fun r i => agree_fresh j5 (hgf r i)
  have e1 := gen_ne hgn j4
  have e2 := gen_ne' hgn j4
  clear hgn
  rcases Nat.lt_or_ge i t.args.length with hlt | hge
  · have hd := lt_true hlt
    rcases Nat.lt_or_ge m n with hb | hb
    · have hd2 : decide ((n : Int) ≤ (m : Int)) = false := by simp; omega
      rw [Ty.cntL_stop (by omega)] at jv
      subst jv
      clear ih'
      repeat' (first
        | exact hin _ | exact agf (by assumption)
        | (first | refine wp rfl ?_ | refine spt rfl ?_ | refine spf rfl ?_ | (refine spl (fun hc => ?_) fun hc => ?_) <;> (try rw [beq_iff_eq] at hc) <;> try simp only [hc] | (refine guarded_split (fun hb => ?_) fun hb => ?_) <;> try simp only [Bool.not_true, Bool.not_false] at hb | refine finF hrel ?_ ?_ ?_) <;> try simp only [go_sem, *])
    · have hd2 : decide ((n : Int) ≤ (m : Int)) = true := by simp; omega
      obtain ⟨x, hx⟩ : ∃ x, t.args[i]? = some x := ⟨_, List.getElem?_eq_getElem hlt⟩
      rw [drop_get hx, Ty.cntL_cons hb] at jv
      have hc := ih' x (List.mem_of_getElem? hx) (m - n) (by omega)
      have hle := x.cnt_le (m - n)
      have hpos := x.cnt_pos (m - n)
      have hw1 : IntKind.i64.wrap ((m : Int) - (n : Int)) = ((m - n : Nat) : Int) := wrap_eq (by omega) (by omega) (by omega)
      have hw2 : IntKind.i64.wrap ((n : Int) + ((x.cnt (m - n) : Nat) : Int)) = ((n + x.cnt (m - n) : Nat) : Int) := wrap_eq (by omega) (by omega) (by omega)
      have hw := wrap_succ (i := i) (by omega)
      clear ih'
      generalize x.cnt (m - n) = q at *
      repeat' (first
        | (first | refine wp rfl ?_ | refine spt rfl ?_ | refine spf rfl ?_ | (refine spl (fun hc => ?_) fun hc => ?_) <;> (try rw [beq_iff_eq] at hc) <;> try simp only [hc] | (refine guarded_split (fun hb => ?_) fun hb => ?_) <;> try simp only [Bool.not_true, Bool.not_false] at hb | refine Call1_pure (hc) ?_ | refine AR_inv ?_) <;> try simp only [go_sem, *])
      first | exact ⟨by omega, by repeat (first | assumption | refine Agree.new ?_ (hgf0 _ _)), _, rfl, by omega, by omega, by omega, jv⟩ | exact ⟨by omega, _, rfl, by omega, by omega, by omega, jv⟩
  · have hd := lt_false hge
    obtain rfl : i = t.args.length := by omega
    rw [List.drop_length, Ty.cntL_nil] at jv
    subst jv
    clear ih'
    repeat' (first
      | exact hin _ | exact agf (by assumption)
      | (first | refine wp rfl ?_ | refine spt rfl ?_ | refine spf rfl ?_ | (refine spl (fun hc => ?_) fun hc => ?_) <;> (try rw [beq_iff_eq] at hc) <;> try simp only [hc] | (refine guarded_split (fun hb => ?_) fun hb => ?_) <;> try simp only [Bool.not_true, Bool.not_false] at hb | refine finF hrel ?_ ?_ ?_) <;> try simp only [go_sem, *])

theorem c_cntTyNeg (t : Ty) : Pure Tryz.prog env 80 [.agg t.cells, .int .i64 (-1)] (.int .i64 1) := by
  intro h
  refine enter Tryz.func80 [.tmp 4] rfl (by kernel_rfl) follows (by kernel_rfl) rfl fun g0 w0 gen hrel hfr hfr' hres => ?_
  repeat' (first
    | exact hin _ | exact agf (by assumption)
    | (first | refine wp rfl ?_ | refine spt rfl ?_ | refine spf rfl ?_ | (refine spl (fun hc => ?_) fun hc => ?_) <;> (try rw [beq_iff_eq] at hc) <;> try simp only [hc] | (refine guarded_split (fun hb => ?_) fun hb => ?_) <;> try simp only [Bool.not_true, Bool.not_false] at hb | refine finF hrel ?_ ?_ ?_) <;> try simp only [go_sem, *])
  have d1 : decide ((1 : Int) ≤ -1) = false := rfl
  refine AR_loop_nat (fun i σ => σ.tm 6 = .int .i64 0 ∧ σ.tm 5 = .int .i64 1 ∧ σ.tm 1 = .int .i64 (-1) ∧ σ.tm 2 = .ptr ⟨gen, 0, 0⟩ 0 ∧ σ.h ⟨gen, 0, 0⟩ = some (.box t.cells) ∧ Agree h σ.h) 1 ?_ ?_
  · simp only [go_sem, *]
    repeat (first | exact Agree.refl _ | refine Agree.new ?_ (hfr' _ _))
  intro i σ hi ⟨j1, j6, j2, j3, j4, j5⟩
  cases hd : decide ((0 : Int) < (t.args.length : Int))
  all_goals
    repeat' (first
      | exact hin _ | exact agf (by assumption)
      | (first | refine wp rfl ?_ | refine spt rfl ?_ | refine spf rfl ?_ | (refine spl (fun hc => ?_) fun hc => ?_) <;> (try rw [beq_iff_eq] at hc) <;> try simp only [hc] | (refine guarded_split (fun hb => ?_) fun hb => ?_) <;> try simp only [Bool.not_true, Bool.not_false] at hb | refine finF hrel ?_ ?_ ?_) <;> try simp only [go_sem, *])

theorem c_cntTy1 (t : Ty) (m : Nat) (hm : m ≤ 100000) : Pure Tryz.prog env 80 [.agg t.cells, .int .i64 ((m : Int) - 1)] (.int .i64 (tyCnt t m : Nat)) := by
  unfold tyCnt
  by_cases h0 : m = 0
  · subst h0
    exact c_cntTyNeg t
  · rw [if_neg h0]
    have := c_cntTy t (m - 1) (by omega)
    rw [show ((m - 1 : Nat) : Int) = (m : Int) - 1 by omega] at this
    exact this

theorem c_cntTm : ∀ (t : Tm) (m : Nat), m ≤ 100000 → Pure Tryz.prog env 81 [.agg t.cells, .int .i64 m] (.int .i64 (t.cnt m : Nat)) := by
  intro t
  induction t using Tm.ind with | h t ih => ?_
  intro m hm h
  have ih' : ∀ x ∈ t.args, ∀ k : Nat, k ≤ m → Pure Tryz.prog env 81 [.agg x.cells, .int .i64 k] (.int .i64 (x.cnt k : Nat)) := fun x hx k hk => ih x hx k (by omega)
  clear ih
  have hT := c_cntTy1 t.type m hm
  have hv0 := (t.cnt_eq m).symm
  have hw0 : IntKind.i64.wrap ((m : Int) - 1) = (m : Int) - 1 := wrap_eq rfl (by omega) (by omega)
  have hle0 := tyCnt_le t.type m
  have hpos0 := tyCnt_pos t.type m
  have hw3 : IntKind.i64.wrap (1 + ((tyCnt t.type m : Nat) : Int)) = ((1 + tyCnt t.type m : Nat) : Int) := wrap_eq (by omega) (by omega) (by omega)
  generalize tyCnt t.type m = q0 at *
  generalize t.cnt m = v at hv0 ⊢
  refine enter Tryz.func81 [.tmp 4] rfl (by kernel_rfl) follows (by kernel_rfl) rfl fun g0 w0 gen hrel hfr hfr' hres => ?_
  repeat' (first
    | exact hin _ | exact agf (by assumption)
    | (first | refine wp rfl ?_ | refine spt rfl ?_ | refine spf rfl ?_ | (refine spl (fun hc => ?_) fun hc => ?_) <;> (try rw [beq_iff_eq] at hc) <;> try simp only [hc] | (refine guarded_split (fun hb => ?_) fun hb => ?_) <;> try simp only [Bool.not_true, Bool.not_false] at hb | refine Call1_pure (hT) ?_ | refine finF hrel ?_ ?_ ?_) <;> try simp only [go_sem, *])
  refine AR_loop_nat (fun i σ => σ.tm 6 = .int .i64 i ∧ σ.tm 1 = .int .i64 m ∧ σ.tm 2 = .ptr ⟨gen, 0, 0⟩ 0 ∧ σ.h ⟨gen, 0, 0⟩ = some (.box t.cells) ∧ Agree h σ.h ∧
    ∃ n : Nat, σ.tm 5 = .int .i64 n ∧ i + 1 ≤ n ∧ n ≤ m + 2 ∧ i ≤ t.args.length ∧ Tm.cntL m n (t.args.drop i) = v) (m + 2) ?_ ?_
  · simp only [go_sem, *]
    exact ⟨rfl, by repeat (first | exact Agree.refl _ | refine Agree.new ?_ (hfr' _ _)), _, rfl, by omega, by omega, by omega, hv0⟩
  clear hv0 hT
  intro i σ hi ⟨j1, j2, j3, j4, j5, n, j6, j7, j8, j9, jv⟩
  refine AR_gen (fun gn hgn => ?_)
  have hgf := fresh_of hgn
  have hgf0 : ∀ r i, h ⟨gn, r, i⟩ = none := fun r i => agree_fresh j5 (hgf r i)
  have e1 := gen_ne hgn j4
  have e2 := gen_ne' hgn j4
  clear hgn
  rcases Nat.lt_or_ge i t.args.length with hlt | hge
  · have hd := lt_true hlt
    rcases Nat.lt_or_ge m n with hb | hb
    · have hd2 : decide ((n : Int) ≤ (m : Int)) = false := by simp; omega
      rw [Tm.cntL_stop (by omega)] at jv
      subst jv
      clear ih'
      repeat' (first
        | exact hin _ | exact agf (by assumption)
        | (first | refine wp rfl ?_ | refine spt rfl ?_ | refine spf rfl ?_ | (refine spl (fun hc => ?_) fun hc => ?_) <;> (try rw [beq_iff_eq] at hc) <;> try simp only [hc] | (refine guarded_split (fun hb => ?_) fun hb => ?_) <;> try simp only [Bool.not_true, Bool.not_false] at hb | refine finF hrel ?_ ?_ ?_) <;> try simp only [go_sem, *])
    · have hd2 : decide ((n : Int) ≤ (m : Int)) = true := by simp; omega
      obtain ⟨x, hx⟩ : ∃ x, t.args[i]? = some x := ⟨_, List.getElem?_eq_getElem hlt⟩
      rw [drop_get hx, Tm.cntL_cons hb] at jv
      have hc := ih' x (List.mem_of_getElem? hx) (m - n) (by omega)
      have hle := x.cnt_le (m - n)
      have hpos := x.cnt_pos (m - n)
      have hw1 : IntKind.i64.wrap ((m : Int) - (n : Int)) = ((m - n : Nat) : Int) := wrap_eq (by omega) (by omega) (by omega)
      have hw2 : IntKind.i64.wrap ((n : Int) + ((x.cnt (m - n) : Nat) : Int)) = ((n + x.cnt (m - n) : Nat) : Int) := wrap_eq (by omega) (by omega) (by omega)
      have hw := wrap_succ (i := i) (by omega)
      clear ih'
      generalize x.cnt (m - n) = q at *
      repeat' (first
        | (first | refine wp rfl ?_ | refine spt rfl ?_ | refine spf rfl ?_ | (refine spl (fun hc => ?_) fun hc => ?_) <;> (try rw [beq_iff_eq] at hc) <;> try simp only [hc] | (refine guarded_split (fun hb => ?_) fun hb => ?_) <;> try simp only [Bool.not_true, Bool.not_false] at hb | refine Call1_pure (hc) ?_ | refine AR_inv ?_) <;> try simp only [go_sem, *])
      first | exact ⟨by omega, by repeat (first | assumption | refine Agree.new ?_ (hgf0 _ _)), _, rfl, by omega, by omega, by omega, jv⟩ | exact ⟨by omega, _, rfl, by omega, by omega, by omega, jv⟩
  · have hd := lt_false hge
    obtain rfl : i = t.args.length := by omega
    rw [List.drop_length, Tm.cntL_nil] at jv
    subst jv
    clear ih'
    repeat' (first
      | exact hin _ | exact agf (by assumption)
      | (first | refine wp rfl ?_ | refine spt rfl ?_ | refine spf rfl ?_ | (refine spl (fun hc => ?_) fun hc => ?_) <;> (try rw [beq_iff_eq] at hc) <;> try simp only [hc] | (refine guarded_split (fun hb => ?_) fun hb => ?_) <;> try simp only [Bool.not_true, Bool.not_false] at hb | refine finF hrel ?_ ?_ ?_) <;> try simp only [go_sem, *])

theorem c_sumCount : Pure Tryz.prog env 15 [] (.agg [.int .i64 0]) := by
  intro h
  refine enter Tryz.func15 [.cell 0 35] rfl (by kernel_rfl) follows (by kernel_rfl) rfl fun g0 w0 gen hrel hfr hfr' hres => ?_
  repeat' (first
    | exact hin _ | exact agf (by assumption)
    | (first | refine wp rfl ?_ | refine finF hrel ?_ ?_ ?_) <;> try simp only [go_sem, *])

theorem c_sumFew (n : Nat) : Pure Tryz.prog env 19 [.agg [.int .i64 n]] (.bool (decide ((n : Int) ≤ 20000))) := by
  intro h
  refine enter Tryz.func19 [.tmp 2] rfl (by kernel_rfl) follows (by kernel_rfl) rfl fun g0 w0 gen hrel hfr hfr' hres => ?_
  repeat' (first
    | exact hin _ | exact agf (by assumption)
    | (first | refine wp rfl ?_ | refine finF hrel ?_ ?_ ?_) <;> try simp only [go_sem, *])

theorem c_sumTerm (l : List Tm) (hl : l.length ≤ 10) : Pure Tryz.prog env 18 [.agg [.int .i64 0], .sl .any (l.map Tm.cells)] (.agg [.int .i64 (sumTm 0 l : Nat)]) := by
  intro h
  have hv0 : sumTm 0 l = sumTm 0 l := rfl
  generalize hvv : sumTm 0 l = v
  rw [hvv] at hv0
  refine enter Tryz.func18 [.cell 4 35] rfl (by kernel_rfl) follows (by kernel_rfl) rfl fun g0 w0 gen hrel hfr hfr' hres => ?_
  repeat' (first
    | (refine ⟨?_, ?_⟩; focus ((repeat' (first | refine And.intro ?_ ?_ | refine Or.inr ?_)); all_goals kernel_rfl))
    | exact hin _ | exact agf (by assumption)
    | (first | refine wp rfl ?_ | refine spt rfl ?_ | refine spf rfl ?_ | (refine spl (fun hc => ?_) fun hc => ?_) <;> (try rw [beq_iff_eq] at hc) <;> try simp only [hc] | (refine guarded_split (fun hb => ?_) fun hb => ?_) <;> try simp only [Bool.not_true, Bool.not_false] at hb | refine finF hrel ?_ ?_ ?_) <;> try simp only [go_sem, *])
  refine AR_loop_nat (fun i σ => σ.tm 5 = .int .i64 i ∧ σ.tm 1 = .sl .any (l.map Tm.cells) ∧ σ.tm 2 = .ptr ⟨gen, 0, 0⟩ 0 ∧ σ.tm 4 = .ptr ⟨gen, 0, 1⟩ 0 ∧ σ.h ⟨gen, 0, 1⟩ = some (.box [.int .i64 0]) ∧ Agree h σ.h ∧
    ∃ n : Nat, σ.h ⟨gen, 0, 0⟩ = some (.box [.int .i64 n]) ∧ n ≤ 50000 ∧ sumTm n (l.drop i) = v) l.length ?_ ?_
  · simp only [go_sem, *]
    exact ⟨rfl, by repeat (first | exact Agree.refl _ | refine Agree.new ?_ (hfr' _ _)), 0, rfl, by omega, hvv⟩
  clear hv0 hvv
  intro i σ hi ⟨j1, j2, j3, j4, j5, jA, n, j6, j7, jv⟩
  refine AR_gen (fun gn hgn => ?_)
  have hgf := fresh_of hgn
  have hgf0 : ∀ r i, h ⟨gn, r, i⟩ = none := fun r i => agree_fresh jA (hgf r i)
  have e1 := gen_ne hgn j5
  have e2 := gen_ne' hgn j5
  have hF := c_sumFew n
  clear hgn
  rcases Nat.lt_or_ge i l.length with hlt | hge
  · have hd := lt_true hlt
    rcases Nat.lt_or_ge 20000 n with hb | hb
    · have hd2 : decide ((n : Int) ≤ 20000) = false := by simp; omega
      rw [hd2] at hF
      rw [sumTm_stop (by omega)] at jv
      subst jv
      repeat' (first
        | (refine ⟨?_, ?_⟩; focus ((repeat' (first | refine And.intro ?_ ?_ | refine Or.inr ?_)); all_goals kernel_rfl))
        | exact hin _ | exact agf (by assumption)
        | (first | refine wp rfl ?_ | refine spt rfl ?_ | refine spf rfl ?_ | (refine spl (fun hc => ?_) fun hc => ?_) <;> (try rw [beq_iff_eq] at hc) <;> try simp only [hc] | (refine guarded_split (fun hb => ?_) fun hb => ?_) <;> try simp only [Bool.not_true, Bool.not_false] at hb | refine Call1_pure (hF) ?_ | refine finF hrel ?_ ?_ ?_) <;> try simp only [go_sem, *])
    · have hd2 : decide ((n : Int) ≤ 20000) = true := by simp; omega
      rw [hd2] at hF
      obtain ⟨x, hx⟩ : ∃ x, l[i]? = some x := ⟨_, List.getElem?_eq_getElem hlt⟩
      rw [drop_get hx, sumTm_cons hb] at jv
      have hc := c_cntTm x 20000 (by omega)
      change Pure Tryz.prog env _ [.agg x.cells, .int .i64 20000] _ at hc
      have hle := x.cnt_le 20000
      have hw2 : IntKind.i64.wrap ((n : Int) + ((x.cnt 20000 : Nat) : Int)) = ((n + x.cnt 20000 : Nat) : Int) := wrap_eq (by omega) (by omega) (by omega)
      have hw := wrap_succ (i := i) (by omega)
      generalize x.cnt 20000 = q at *
      repeat' (first
        | (refine ⟨?_, ?_⟩; focus ((repeat' (first | refine And.intro ?_ ?_ | refine Or.inr ?_)); all_goals kernel_rfl))
        | (first | refine wp rfl ?_ | refine spt rfl ?_ | refine spf rfl ?_ | (refine spl (fun hc => ?_) fun hc => ?_) <;> (try rw [beq_iff_eq] at hc) <;> try simp only [hc] | (refine guarded_split (fun hb => ?_) fun hb => ?_) <;> try simp only [Bool.not_true, Bool.not_false] at hb | refine Call1_pure (hF) ?_ | refine Call1_pure (hc) ?_ | refine AR_inv ?_) <;> try simp only [go_sem, *])
      exact ⟨Agree.new jA (hfr' _ _), n + q, rfl, by omega, jv⟩
  · have hd := lt_false hge
    obtain rfl : i = l.length := by omega
    rw [List.drop_length, sumTm] at jv
    subst jv
    repeat' (first
      | (refine ⟨?_, ?_⟩; focus ((repeat' (first | refine And.intro ?_ ?_ | refine Or.inr ?_)); all_goals kernel_rfl))
      | exact hin _ | exact agf (by assumption)
      | (first | refine wp rfl ?_ | refine spt rfl ?_ | refine spf rfl ?_ | (refine spl (fun hc => ?_) fun hc => ?_) <;> (try rw [beq_iff_eq] at hc) <;> try simp only [hc] | (refine guarded_split (fun hb => ?_) fun hb => ?_) <;> try simp only [Bool.not_true, Bool.not_false] at hb | refine Call1_pure (hF) ?_ | refine finF hrel ?_ ?_ ?_) <;> try simp only [go_sem, *])

theorem c_Large : ∀ t : Tm, TmW t → Pure Tryz.prog env 74 [.agg t.cells] (.bool (!t.least 268435456)) := by
  intro t
  induction t using Tm.ind with | h t ih => ?_
  intro ht h
  have hlen := ht.len
  have ih' : ∀ x ∈ t.args, Pure Tryz.prog env 74 [.agg x.cells] (.bool (!x.least 268435456)) := fun x hx => ih x hx (ht.arg hx)
  clear ih
  have hv0 : (!(decide (t.index ≤ 268435456) && Tm.leastL 268435456 t.args)) = !t.least 268435456 := by rw [t.least_eq]
  generalize hvv : (!t.least 268435456) = v at hv0 ⊢
  clear hvv
  cases hi : decide (t.index > 268435456) with
  | true =>
    have : decide (t.index ≤ 268435456) = false := by simp at hi ⊢; omega
    rw [this, Bool.false_and, Bool.not_false] at hv0
    subst hv0
    clear ih' this
    refine enter Tryz.func74 [.tmp 2] rfl (by kernel_rfl) follows (by kernel_rfl) rfl fun g0 w0 gen hrel hfr hfr' hres => ?_
    repeat' (first
      | exact hin _ | exact agf (by assumption)
      | (first | refine wp rfl ?_ | refine spt rfl ?_ | refine spf rfl ?_ | (refine spl (fun hc => ?_) fun hc => ?_) <;> (try rw [beq_iff_eq] at hc) <;> try simp only [hc] | refine finF hrel ?_ ?_ ?_) <;> try simp only [go_sem, *])
  | false =>
  have : decide (t.index ≤ 268435456) = true := by simp at hi ⊢; omega
  rw [this, Bool.true_and] at hv0
  clear this
  refine enter Tryz.func74 [.tmp 2] rfl (by kernel_rfl) follows (by kernel_rfl) rfl fun g0 w0 gen hrel hfr hfr' hres => ?_
  repeat' (first
    | exact hin _ | exact agf (by assumption)
    | (first | refine wp rfl ?_ | refine spt rfl ?_ | refine spf rfl ?_ | (refine spl (fun hc => ?_) fun hc => ?_) <;> (try rw [beq_iff_eq] at hc) <;> try simp only [hc] | refine finF hrel ?_ ?_ ?_) <;> try simp only [go_sem, *])
  refine AR_loop_nat (fun i σ => σ.tm 3 = .int .i64 i ∧ σ.tm 1 = .ptr ⟨gen, 0, 0⟩ 0 ∧
    σ.h ⟨gen, 0, 0⟩ = some (.box t.cells) ∧ Agree h σ.h ∧ (!Tm.leastL 268435456 (t.args.drop i)) = v) t.args.length ?_ ?_
  · simp only [go_sem, *]
    exact ⟨rfl, by repeat (first | exact Agree.refl _ | assumption | refine Agree.new ?_ (hfr' _ _))⟩
  clear hv0 hi
  intro i σ hi ⟨j1, j2, j4, j5, j7⟩
  refine AR_gen (fun gn hgn => ?_)
  have hgf := fresh_of hgn
  have hgf0 : ∀ r i, h ⟨gn, r, i⟩ = none := fun r i => agree_fresh j5 (hgf r i)
  have e1 := gen_ne hgn j4
  have e2 := gen_ne' hgn j4
  have hw := wrap_succ (i := i) (by omega)
  clear hgn
  rcases Nat.lt_or_ge i t.args.length with hlt | hge
  · have hd := lt_true hlt
    obtain ⟨x, hx⟩ : ∃ x, t.args[i]? = some x := ⟨_, List.getElem?_eq_getElem hlt⟩
    rw [drop_get hx, Tm.leastL_cons] at j7
    have hc := ih' x (List.mem_of_getElem? hx)
    clear ih'
    cases hn : x.least 268435456 with
    | false =>
      rw [hn, Bool.not_false] at hc
      rw [hn, Bool.false_and, Bool.not_false] at j7
      subst j7
      repeat' (first
        | exact hin _ | exact agf (by assumption)
        | (first | refine wp rfl ?_ | refine spt rfl ?_ | refine spf rfl ?_ | (refine spl (fun hc => ?_) fun hc => ?_) <;> (try rw [beq_iff_eq] at hc) <;> try simp only [hc] | refine Call1_pure (hc) ?_ | refine finF hrel ?_ ?_ ?_) <;> try simp only [go_sem, *])
    | true =>
      rw [hn, Bool.not_true] at hc
      rw [hn, Bool.true_and] at j7
      repeat' (first
        | exact hin _ | exact agf (by assumption)
        | (first | refine wp rfl ?_ | refine spt rfl ?_ | refine spf rfl ?_ | (refine spl (fun hc => ?_) fun hc => ?_) <;> (try rw [beq_iff_eq] at hc) <;> try simp only [hc] | refine AR_inv ?_ | refine Call1_pure (hc) ?_ | refine finF hrel ?_ ?_ ?_) <;> try simp only [go_sem, *])
  · have hd := lt_false hge
    obtain rfl : i = t.args.length := by omega
    rw [List.drop_length, Tm.leastL_nil, Bool.not_true] at j7
    subst j7
    clear ih'
    repeat' (first
      | exact hin _ | exact agf (by assumption)
      | (first | refine wp rfl ?_ | refine spt rfl ?_ | refine spf rfl ?_ | (refine spl (fun hc => ?_) fun hc => ?_) <;> (try rw [beq_iff_eq] at hc) <;> try simp only [hc] | refine finF hrel ?_ ?_ ?_) <;> try simp only [go_sem, *])
end Go.Proofs.YtnhjlnkogoihhaaGreatDoor
