/-
 Walks: sums of raw trees.
-/
import Derived.Test.YtpnjamplciaopaaGreatDoorJe
import Derived.Test.YtpnjamplciaopaaGreatDoorAbsDc
set_option linter.unusedSimpArgs false
set_option linter.unusedVariables false
set_option maxRecDepth 20000
set_option maxHeartbeats 4000000
namespace Go.Proofs.YtpnjamplciaopaaGreatDoor
open Go GoAbs Go.Proofs
theorem c_sumFm (s : Nat) (hs : s ≤ 45000) (l : List Fm) (hl : l.length ≤ 10) : Pure Tryz.prog env 11 [.agg [.int .i64 s], .sl .any (l.map Fm.cells)] (.agg [.int .i64 (sumFm s l : Nat)]) := by
 intro h
 have hv0 : sumFm s l = sumFm s l := rfl
 generalize hvv : sumFm s l = v
 rw [hvv] at hv0
 refine en Tryz.func11 [.cell 4 35] rfl rfl fun g0 w0 gen hrel hfr hfr' hres => ?_
 repeat' (first
  | (refine ⟨?_, ?_⟩; focus ((repeat' (first | refine And.intro ?_ ?_ | refine Or.inr ?_)); all_goals kernel_rfl))
  | exact hin _ | exact agf (by assumption)
  | (first | refine wp rfl ?_ | refine spt rfl ?_ | refine spf rfl ?_ | (refine spl (fun hc => ?_) fun hc => ?_) <;> (try rw [beq_iff_eq] at hc) <;> try simp only [hc] | (refine gs (fun hb => ?_) fun hb => ?_) <;> try simp only [Bool.not_true, Bool.not_false] at hb | refine finF hrel ?_ ?_ ?_) <;> try simp only [go_sem, *])
 refine AR_loop_nat (fun i σ => σ.tm 5 = .int .i64 i ∧ σ.tm 1 = .sl .any (l.map Fm.cells) ∧ σ.tm 2 = .ptr ⟨gen, 0, 0⟩ 0 ∧ σ.tm 4 = .ptr ⟨gen, 0, 1⟩ 0 ∧ σ.h ⟨gen, 0, 1⟩ = some (.box [.int .i64 0]) ∧ Agree h σ.h ∧
  ∃ n : Nat, σ.h ⟨gen, 0, 0⟩ = some (.box [.int .i64 n]) ∧ n ≤ 50000 ∧ sumFm n (l.drop i) = v) l.length ?_ ?_
 ·simp only [go_sem, *]
  exact ⟨rfl, by repeat (first | exact Agree.refl _ | refine Agree.new ?_ (hfr' _ _)), s, rfl, by omega, hvv⟩
 clear hv0 hvv
 intro i σ hi ⟨j1, j2, j3, j4, j5, jA, n, j6, j7, jv⟩
 refine AR_gen (fun gn hgn => ?_)
 have hgf := fresh_of hgn
 have hgf0 : ∀ r i, h ⟨gn, r, i⟩ = none := fun r i => agree_fresh jA (hgf r i)
 have e1 := gen_ne hgn j5
 have e2 := gen_ne' hgn j5
 have hF := c_sumFew n
 clear hgn
 rcases Nat.lt_or_ge i l.length with hlt | hge
 ·have hd := lt_true hlt
  rcases Nat.lt_or_ge 20000 n with hb | hb
  ·have hd2 : decide ((n : Int) ≤ 20000) = false := by simp; omega
   rw [hd2] at hF
   rw [sumFm_stop (by omega)] at jv
   subst jv
   repeat' (first
    | (refine ⟨?_, ?_⟩; focus ((repeat' (first | refine And.intro ?_ ?_ | refine Or.inr ?_)); all_goals kernel_rfl))
    | exact hin _ | exact agf (by assumption)
    | (first | refine wp rfl ?_ | refine spt rfl ?_ | refine spf rfl ?_ | (refine spl (fun hc => ?_) fun hc => ?_) <;> (try rw [beq_iff_eq] at hc) <;> try simp only [hc] | (refine gs (fun hb => ?_) fun hb => ?_) <;> try simp only [Bool.not_true, Bool.not_false] at hb | refine cp (hF) ?_ | refine finF hrel ?_ ?_ ?_) <;> try simp only [go_sem, *])
  ·have hd2 : decide ((n : Int) ≤ 20000) = true := by simp; omega
   rw [hd2] at hF
   obtain ⟨x, hx⟩ : ∃ x, l[i]? = some x := ⟨_, List.getElem?_eq_getElem hlt⟩
   rw [drop_get hx, sumFm_cons hb] at jv
   have hc := c_cntFm x 20000 (by omega)
   change Pure Tryz.prog env _ [.agg x.cells, .int .i64 20000] _ at hc
   have hle := x.cnt_le 20000
   have hw2 : IntKind.i64.wrap ((n : Int) + ((x.cnt 20000 : Nat) : Int)) = ((n + x.cnt 20000 : Nat) : Int) := wrap_eq (by omega) (by omega) (by omega)
   have hw := wrap_succ (i := i) (by omega)
   generalize x.cnt 20000 = q at *
   repeat' (first
    | (refine ⟨?_, ?_⟩; focus ((repeat' (first | refine And.intro ?_ ?_ | refine Or.inr ?_)); all_goals kernel_rfl))
    | (first | refine wp rfl ?_ | refine spt rfl ?_ | refine spf rfl ?_ | (refine spl (fun hc => ?_) fun hc => ?_) <;> (try rw [beq_iff_eq] at hc) <;> try simp only [hc] | (refine gs (fun hb => ?_) fun hb => ?_) <;> try simp only [Bool.not_true, Bool.not_false] at hb | refine cp (hF) ?_ | refine cp (hc) ?_ | refine AR_inv ?_) <;> try simp only [go_sem, *])
   exact ⟨Agree.new jA (hfr' _ _), n + q, rfl, by omega, jv⟩
 ·have hd := lt_false hge
  obtain rfl : i = l.length := by omega
  rw [List.drop_length, sumFm] at jv
  subst jv
  repeat' (first
   | (refine ⟨?_, ?_⟩; focus ((repeat' (first | refine And.intro ?_ ?_ | refine Or.inr ?_)); all_goals kernel_rfl))
   | exact hin _ | exact agf (by assumption)
   | (first | refine wp rfl ?_ | refine spt rfl ?_ | refine spf rfl ?_ | (refine spl (fun hc => ?_) fun hc => ?_) <;> (try rw [beq_iff_eq] at hc) <;> try simp only [hc] | (refine gs (fun hb => ?_) fun hb => ?_) <;> try simp only [Bool.not_true, Bool.not_false] at hb | refine cp (hF) ?_ | refine finF hrel ?_ ?_ ?_) <;> try simp only [go_sem, *])
theorem c_sumTy (s : Nat) (hs : s ≤ 45000) (l : List Ty) (hl : l.length ≤ 10) : Pure Tryz.prog env 12 [.agg [.int .i64 s], .sl .any (l.map Ty.cells)] (.agg [.int .i64 (sumTy s l : Nat)]) := by
 intro h
 have hv0 : sumTy s l = sumTy s l := rfl
 generalize hvv : sumTy s l = v
 rw [hvv] at hv0
 refine en Tryz.func12 [.cell 4 35] rfl rfl fun g0 w0 gen hrel hfr hfr' hres => ?_
 repeat' (first
  | (refine ⟨?_, ?_⟩; focus ((repeat' (first | refine And.intro ?_ ?_ | refine Or.inr ?_)); all_goals kernel_rfl))
  | exact hin _ | exact agf (by assumption)
  | (first | refine wp rfl ?_ | refine spt rfl ?_ | refine spf rfl ?_ | (refine spl (fun hc => ?_) fun hc => ?_) <;> (try rw [beq_iff_eq] at hc) <;> try simp only [hc] | (refine gs (fun hb => ?_) fun hb => ?_) <;> try simp only [Bool.not_true, Bool.not_false] at hb | refine finF hrel ?_ ?_ ?_) <;> try simp only [go_sem, *])
 refine AR_loop_nat (fun i σ => σ.tm 5 = .int .i64 i ∧ σ.tm 1 = .sl .any (l.map Ty.cells) ∧ σ.tm 2 = .ptr ⟨gen, 0, 0⟩ 0 ∧ σ.tm 4 = .ptr ⟨gen, 0, 1⟩ 0 ∧ σ.h ⟨gen, 0, 1⟩ = some (.box [.int .i64 0]) ∧ Agree h σ.h ∧
  ∃ n : Nat, σ.h ⟨gen, 0, 0⟩ = some (.box [.int .i64 n]) ∧ n ≤ 50000 ∧ sumTy n (l.drop i) = v) l.length ?_ ?_
 ·simp only [go_sem, *]
  exact ⟨rfl, by repeat (first | exact Agree.refl _ | refine Agree.new ?_ (hfr' _ _)), s, rfl, by omega, hvv⟩
 clear hv0 hvv
 intro i σ hi ⟨j1, j2, j3, j4, j5, jA, n, j6, j7, jv⟩
 refine AR_gen (fun gn hgn => ?_)
 have hgf := fresh_of hgn
 have hgf0 : ∀ r i, h ⟨gn, r, i⟩ = none := fun r i => agree_fresh jA (hgf r i)
 have e1 := gen_ne hgn j5
 have e2 := gen_ne' hgn j5
 have hF := c_sumFew n
 clear hgn
 rcases Nat.lt_or_ge i l.length with hlt | hge
 ·have hd := lt_true hlt
  rcases Nat.lt_or_ge 20000 n with hb | hb
  ·have hd2 : decide ((n : Int) ≤ 20000) = false := by simp; omega
   rw [hd2] at hF
   rw [sumTy_stop (by omega)] at jv
   subst jv
   repeat' (first
    | (refine ⟨?_, ?_⟩; focus ((repeat' (first | refine And.intro ?_ ?_ | refine Or.inr ?_)); all_goals kernel_rfl))
    | exact hin _ | exact agf (by assumption)
    | (first | refine wp rfl ?_ | refine spt rfl ?_ | refine spf rfl ?_ | (refine spl (fun hc => ?_) fun hc => ?_) <;> (try rw [beq_iff_eq] at hc) <;> try simp only [hc] | (refine gs (fun hb => ?_) fun hb => ?_) <;> try simp only [Bool.not_true, Bool.not_false] at hb | refine cp (hF) ?_ | refine finF hrel ?_ ?_ ?_) <;> try simp only [go_sem, *])
  ·have hd2 : decide ((n : Int) ≤ 20000) = true := by simp; omega
   rw [hd2] at hF
   obtain ⟨x, hx⟩ : ∃ x, l[i]? = some x := ⟨_, List.getElem?_eq_getElem hlt⟩
   rw [drop_get hx, sumTy_cons hb] at jv
   have hc := c_cntTy x 20000 (by omega)
   change Pure Tryz.prog env _ [.agg x.cells, .int .i64 20000] _ at hc
   have hle := x.cnt_le 20000
   have hw2 : IntKind.i64.wrap ((n : Int) + ((x.cnt 20000 : Nat) : Int)) = ((n + x.cnt 20000 : Nat) : Int) := wrap_eq (by omega) (by omega) (by omega)
   have hw := wrap_succ (i := i) (by omega)
   generalize x.cnt 20000 = q at *
   repeat' (first
    | (refine ⟨?_, ?_⟩; focus ((repeat' (first | refine And.intro ?_ ?_ | refine Or.inr ?_)); all_goals kernel_rfl))
    | (first | refine wp rfl ?_ | refine spt rfl ?_ | refine spf rfl ?_ | (refine spl (fun hc => ?_) fun hc => ?_) <;> (try rw [beq_iff_eq] at hc) <;> try simp only [hc] | (refine gs (fun hb => ?_) fun hb => ?_) <;> try simp only [Bool.not_true, Bool.not_false] at hb | refine cp (hF) ?_ | refine cp (hc) ?_ | refine AR_inv ?_) <;> try simp only [go_sem, *])
   exact ⟨Agree.new jA (hfr' _ _), n + q, rfl, by omega, jv⟩
 ·have hd := lt_false hge
  obtain rfl : i = l.length := by omega
  rw [List.drop_length, sumTy] at jv
  subst jv
  repeat' (first
   | (refine ⟨?_, ?_⟩; focus ((repeat' (first | refine And.intro ?_ ?_ | refine Or.inr ?_)); all_goals kernel_rfl))
   | exact hin _ | exact agf (by assumption)
   | (first | refine wp rfl ?_ | refine spt rfl ?_ | refine spf rfl ?_ | (refine spl (fun hc => ?_) fun hc => ?_) <;> (try rw [beq_iff_eq] at hc) <;> try simp only [hc] | (refine gs (fun hb => ?_) fun hb => ?_) <;> try simp only [Bool.not_true, Bool.not_false] at hb | refine cp (hF) ?_ | refine finF hrel ?_ ?_ ?_) <;> try simp only [go_sem, *])
theorem c_sumTm2 (s : Nat) (hs : s ≤ 45000) (l : List Tm) (hl : l.length ≤ 10) : Pure Tryz.prog env 13 [.agg [.int .i64 s], .sl .any (l.map Tm.cells)] (.agg [.int .i64 (sumTm s l : Nat)]) := by
 intro h
 have hv0 : sumTm s l = sumTm s l := rfl
 generalize hvv : sumTm s l = v
 rw [hvv] at hv0
 refine en Tryz.func13 [.cell 4 35] rfl rfl fun g0 w0 gen hrel hfr hfr' hres => ?_
 repeat' (first
  | (refine ⟨?_, ?_⟩; focus ((repeat' (first | refine And.intro ?_ ?_ | refine Or.inr ?_)); all_goals kernel_rfl))
  | exact hin _ | exact agf (by assumption)
  | (first | refine wp rfl ?_ | refine spt rfl ?_ | refine spf rfl ?_ | (refine spl (fun hc => ?_) fun hc => ?_) <;> (try rw [beq_iff_eq] at hc) <;> try simp only [hc] | (refine gs (fun hb => ?_) fun hb => ?_) <;> try simp only [Bool.not_true, Bool.not_false] at hb | refine finF hrel ?_ ?_ ?_) <;> try simp only [go_sem, *])
 refine AR_loop_nat (fun i σ => σ.tm 5 = .int .i64 i ∧ σ.tm 1 = .sl .any (l.map Tm.cells) ∧ σ.tm 2 = .ptr ⟨gen, 0, 0⟩ 0 ∧ σ.tm 4 = .ptr ⟨gen, 0, 1⟩ 0 ∧ σ.h ⟨gen, 0, 1⟩ = some (.box [.int .i64 0]) ∧ Agree h σ.h ∧
  ∃ n : Nat, σ.h ⟨gen, 0, 0⟩ = some (.box [.int .i64 n]) ∧ n ≤ 50000 ∧ sumTm n (l.drop i) = v) l.length ?_ ?_
 ·simp only [go_sem, *]
  exact ⟨rfl, by repeat (first | exact Agree.refl _ | refine Agree.new ?_ (hfr' _ _)), s, rfl, by omega, hvv⟩
 clear hv0 hvv
 intro i σ hi ⟨j1, j2, j3, j4, j5, jA, n, j6, j7, jv⟩
 refine AR_gen (fun gn hgn => ?_)
 have hgf := fresh_of hgn
 have hgf0 : ∀ r i, h ⟨gn, r, i⟩ = none := fun r i => agree_fresh jA (hgf r i)
 have e1 := gen_ne hgn j5
 have e2 := gen_ne' hgn j5
 have hF := c_sumFew n
 clear hgn
 rcases Nat.lt_or_ge i l.length with hlt | hge
 ·have hd := lt_true hlt
  rcases Nat.lt_or_ge 20000 n with hb | hb
  ·have hd2 : decide ((n : Int) ≤ 20000) = false := by simp; omega
   rw [hd2] at hF
   rw [sumTm_stop (by omega)] at jv
   subst jv
   repeat' (first
    | (refine ⟨?_, ?_⟩; focus ((repeat' (first | refine And.intro ?_ ?_ | refine Or.inr ?_)); all_goals kernel_rfl))
    | exact hin _ | exact agf (by assumption)
    | (first | refine wp rfl ?_ | refine spt rfl ?_ | refine spf rfl ?_ | (refine spl (fun hc => ?_) fun hc => ?_) <;> (try rw [beq_iff_eq] at hc) <;> try simp only [hc] | (refine gs (fun hb => ?_) fun hb => ?_) <;> try simp only [Bool.not_true, Bool.not_false] at hb | refine cp (hF) ?_ | refine finF hrel ?_ ?_ ?_) <;> try simp only [go_sem, *])
  ·have hd2 : decide ((n : Int) ≤ 20000) = true := by simp; omega
   rw [hd2] at hF
   obtain ⟨x, hx⟩ : ∃ x, l[i]? = some x := ⟨_, List.getElem?_eq_getElem hlt⟩
   rw [drop_get hx, sumTm_cons hb] at jv
   have hc := c_cntTm x 20000 (by omega)
   change Pure Tryz.prog env _ [.agg x.cells, .int .i64 20000] _ at hc
   have hle := x.cnt_le 20000
   have hw2 : IntKind.i64.wrap ((n : Int) + ((x.cnt 20000 : Nat) : Int)) = ((n + x.cnt 20000 : Nat) : Int) := wrap_eq (by omega) (by omega) (by omega)
   have hw := wrap_succ (i := i) (by omega)
   generalize x.cnt 20000 = q at *
   repeat' (first
    | (refine ⟨?_, ?_⟩; focus ((repeat' (first | refine And.intro ?_ ?_ | refine Or.inr ?_)); all_goals kernel_rfl))
    | (first | refine wp rfl ?_ | refine spt rfl ?_ | refine spf rfl ?_ | (refine spl (fun hc => ?_) fun hc => ?_) <;> (try rw [beq_iff_eq] at hc) <;> try simp only [hc] | (refine gs (fun hb => ?_) fun hb => ?_) <;> try simp only [Bool.not_true, Bool.not_false] at hb | refine cp (hF) ?_ | refine cp (hc) ?_ | refine AR_inv ?_) <;> try simp only [go_sem, *])
   exact ⟨Agree.new jA (hfr' _ _), n + q, rfl, by omega, jv⟩
 ·have hd := lt_false hge
  obtain rfl : i = l.length := by omega
  rw [List.drop_length, sumTm] at jv
  subst jv
  repeat' (first
   | (refine ⟨?_, ?_⟩; focus ((repeat' (first | refine And.intro ?_ ?_ | refine Or.inr ?_)); all_goals kernel_rfl))
   | exact hin _ | exact agf (by assumption)
   | (first | refine wp rfl ?_ | refine spt rfl ?_ | refine spf rfl ?_ | (refine spl (fun hc => ?_) fun hc => ?_) <;> (try rw [beq_iff_eq] at hc) <;> try simp only [hc] | (refine gs (fun hb => ?_) fun hb => ?_) <;> try simp only [Bool.not_true, Bool.not_false] at hb | refine cp (hF) ?_ | refine finF hrel ?_ ?_ ?_) <;> try simp only [go_sem, *])
end Go.Proofs.YtpnjamplciaopaaGreatDoor
