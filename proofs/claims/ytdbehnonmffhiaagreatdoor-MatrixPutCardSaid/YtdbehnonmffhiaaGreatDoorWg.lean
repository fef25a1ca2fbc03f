/-
  Walks: checks of types; kinds of terms.
-/
import Derived.Test.YtdbehnonmffhiaaGreatDoorWf
set_option linter.unusedSimpArgs false
set_option linter.unusedVariables false
set_option maxRecDepth 20000
namespace Go.Proofs.YtdbehnonmffhiaaGreatDoor
open Go GoAbs Go.Proofs

theorem c_CheckType (t : Ty) (ht : TyW t) : Pure Tryz.prog env 111 [.agg t.cells] (two (chk 64 t.nodes)) := by
  intro h
  have hc := c_typeNodes t ht
  have hin : ∀ S, InV S (two (chk 64 t.nodes)) := fun S => by simp [two, InV, InL]
  cases hn : t.nodes with
  | none =>
    rw [hn] at hc hin
    refine enter Tryz.func111 [.tmp 2, .tmp 3] rfl (by kernel_rfl) follows (by kernel_rfl) rfl fun g0 w0 gen hrel hfr hfr' hres => ?_
    repeat' (first
      | exact hin _ | exact agf (by assumption)
      | (first | refine wp rfl ?_ | refine spt rfl ?_ | refine spf rfl ?_ | (refine spl (fun hc => ?_) fun hc => ?_) <;> (try rw [beq_iff_eq] at hc) <;> try simp only [hc] | refine Call1_pure (hc) ?_ | refine finF hrel ?_ ?_ ?_) <;> try simp only [go_sem, *])
    all_goals simp [two, chk]
  | some n =>
    rw [hn] at hc hin
    refine enter Tryz.func111 [.tmp 2, .tmp 3] rfl (by kernel_rfl) follows (by kernel_rfl) rfl fun g0 w0 gen hrel hfr hfr' hres => ?_
    repeat' (first
      | exact hin _ | exact agf (by assumption)
      | (first | refine wp rfl ?_ | refine spt rfl ?_ | refine spf rfl ?_ | (refine spl (fun hc => ?_) fun hc => ?_) <;> (try rw [beq_iff_eq] at hc) <;> try simp only [hc] | refine Call1_pure (hc) ?_ | refine finF hrel ?_ ?_ ?_) <;> try simp only [go_sem, *])
    all_goals (try simp only [decide_eq_true_eq, decide_eq_false_iff_not] at *)
    all_goals first | (have hcn : ¬ 64 < n := by omega); simp [two, chk, hcn] | (have hcn : 64 < n := by omega); simp [two, chk, hcn]

theorem c_typesCheck (t : Ty) (ht : TyW t) : Pure Tryz.prog env 123 [.agg t.cells] (.int .i64 (tyErr t)) := by
  intro h
  have hc := c_CheckType t ht
  unfold two at hc
  refine enter Tryz.func123 [.tmp 2] rfl (by kernel_rfl) follows (by kernel_rfl) rfl fun g0 w0 gen hrel hfr hfr' hres => ?_
  repeat' (first
    | exact hin _ | exact agf (by assumption)
    | (first | refine wp rfl ?_ | refine Call1_pure (hc) ?_ | refine finF hrel ?_ ?_ ?_) <;> try simp only [go_sem, *])
  all_goals simp [tyErr]

theorem c_NoType (t : Ty) : Pure Tryz.prog env 112 [.agg t.cells] (.bool (noType t)) := by
  intro h
  refine enter Tryz.func112 [.tmp 2] rfl (by kernel_rfl) follows (by kernel_rfl) rfl fun g0 w0 gen hrel hfr hfr' hres => ?_
  repeat' (first
    | exact hin _ | exact agf (by assumption)
    | (first | refine wp rfl ?_ | (refine guarded_split (fun hb => ?_) fun hb => ?_) <;> try simp only [Bool.not_true, Bool.not_false] at hb | refine finF hrel ?_ ?_ ?_) <;> try simp only [go_sem, *])
  all_goals simp_all [noType]

theorem c_Typed (k : Int) : Pure Tryz.prog env 110 [.int .i64 k] (.bool (typed k)) := by
  intro h
  refine enter Tryz.func110 [.tmp 2] rfl (by kernel_rfl) follows (by kernel_rfl) rfl fun g0 w0 gen hrel hfr hfr' hres => ?_
  repeat' (first
    | exact hin _ | exact agf (by assumption)
    | (first | refine wp rfl ?_ | (refine guarded_split (fun hb => ?_) fun hb => ?_) <;> try simp only [Bool.not_true, Bool.not_false] at hb | refine finF hrel ?_ ?_ ?_) <;> try simp only [go_sem, *])
  all_goals simp_all [typed]

theorem c_Arity (k : Int) : Pure Tryz.prog env 109 [.int .i64 k] (optN (arity k)) := by
  intro h
  have hin : ∀ S, InV S (optN (arity k)) := fun S => by cases arity k <;> simp [optN, InV, InL]
  have hk : k < 1 ∨ 14 ≤ k ∨ k = 1 ∨ k = 2 ∨ k = 3 ∨ k = 4 ∨ k = 5 ∨ k = 6 ∨ k = 7 ∨ k = 8 ∨ k = 9 ∨ k = 10 ∨ k = 11 ∨ k = 12 ∨ k = 13 := by omega
  rcases hk with hk | hk | hk
  · have hv : optN none = optN (arity k) := by simp [arity, hk]
    rw [← hv]
    clear hv hin
    refine enter Tryz.func109 [.tmp 2, .tmp 3] rfl (by kernel_rfl) follows (by kernel_rfl) rfl fun g0 w0 gen hrel hfr hfr' hres => ?_
    repeat' (first
      | exact hin _ | exact agf (by assumption)
      | (first | refine wp rfl ?_ | refine spt rfl ?_ | refine spf rfl ?_ | (refine spl (fun hc => ?_) fun hc => ?_) <;> (try rw [beq_iff_eq] at hc) <;> try simp only [hc] | (refine guarded_split (fun hb => ?_) fun hb => ?_) <;> try simp only [Bool.not_true, Bool.not_false] at hb | refine finF hrel ?_ ?_ ?_) <;> try simp only [go_sem, *])
    all_goals (exfalso; first | (simp_all; done) | (simp_all; omega))
  · have hv : optN none = optN (arity k) := by simp [arity, hk]
    rw [← hv]
    clear hv hin
    refine enter Tryz.func109 [.tmp 2, .tmp 3] rfl (by kernel_rfl) follows (by kernel_rfl) rfl fun g0 w0 gen hrel hfr hfr' hres => ?_
    repeat' (first
      | exact hin _ | exact agf (by assumption)
      | (first | refine wp rfl ?_ | refine spt rfl ?_ | refine spf rfl ?_ | (refine spl (fun hc => ?_) fun hc => ?_) <;> (try rw [beq_iff_eq] at hc) <;> try simp only [hc] | (refine guarded_split (fun hb => ?_) fun hb => ?_) <;> try simp only [Bool.not_true, Bool.not_false] at hb | refine finF hrel ?_ ?_ ?_) <;> try simp only [go_sem, *])
    all_goals (exfalso; first | (simp_all; done) | (simp_all; omega))
  · have hv : ∃ a, arity k = some a ∧ ((env 0).getD [])[k.toNat]? = some (.int .i64 a) := by
      rcases hk with rfl | rfl | rfl | rfl | rfl | rfl | rfl | rfl | rfl | rfl | rfl | rfl | rfl <;> exact ⟨_, rfl, rfl⟩
    obtain ⟨a, h1, h2⟩ := hv
    rw [h1]
    clear hin
    have k1 : decide (k < 1) = false := by simp; omega
    have k2 : decide (14 ≤ k) = false := by simp; omega
    have k3 : 0 ≤ k := by omega
    have k4 : k < ((14 : Nat) : Int) := by omega
    have k6 : env 0 = some [.int .i64 0, .int .i64 0, .int .i64 1, .int .i64 2, .int .i64 0, .int .i64 1, .int .i64 3, .int .i64 0, .int .i64 2, .int .i64 3, .int .i64 2, .int .i64 1, .int .i64 1, .int .i64 0] := rfl
    have h3 : [V.int .i64 0, .int .i64 0, .int .i64 1, .int .i64 2, .int .i64 0, .int .i64 1, .int .i64 3, .int .i64 0, .int .i64 2, .int .i64 3, .int .i64 2, .int .i64 1, .int .i64 1, .int .i64 0][0 + k.toNat * 1]? = some (.int .i64 a) := by rw [Nat.zero_add, Nat.mul_one]; exact h2
    have k5 : k.toNat < 14 := by omega
    clear h2 hk
    refine enter Tryz.func109 [.tmp 2, .tmp 3] rfl (by kernel_rfl) follows (by kernel_rfl) rfl fun g0 w0 gen hrel hfr hfr' hres => ?_
    repeat' (first
      | exact hin _ | exact agf (by assumption)
      | (first | refine wp rfl ?_ | refine spt rfl ?_ | refine spf rfl ?_ | (refine spl (fun hc => ?_) fun hc => ?_) <;> (try rw [beq_iff_eq] at hc) <;> try simp only [hc] | (refine guarded_split (fun hb => ?_) fun hb => ?_) <;> try simp only [Bool.not_true, Bool.not_false] at hb | refine finF hrel ?_ ?_ ?_) <;> try simp only [go_sem, *])

end Go.Proofs.YtdbehnonmffhiaaGreatDoor
