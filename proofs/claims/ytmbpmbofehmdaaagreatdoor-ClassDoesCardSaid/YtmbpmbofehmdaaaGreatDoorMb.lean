/-
 Walks: several parts in one text.
-/
import Derived.Test.YtmbpmbofehmdaaaGreatDoorMa
import Derived.Test.YtmbpmbofehmdaaaGreatDoorAbsB
set_option linter.unusedSimpArgs false
set_option linter.unusedVariables false
set_option maxRecDepth 20000
namespace Go.Proofs.YtmbpmbofehmdaaaGreatDoor
open Go GoAbs Go.Proofs
theorem c_typeNodes : ∀ t : Ty, TyW t → Pure Tryz.prog env 141 [.agg t.cells] (optN t.nodes) := by
 intro t
 induction t using Ty.ind with | h t ih => ?_
 intro ht h
 have hlen := ht.len
 have ih' : ∀ x ∈ t.args, Pure Tryz.prog env 141 [.agg x.cells] (optN x.nodes) := fun x hx => ih x hx (ht.arg hx)
 clear ih
 have hin : ∀ S, InV S (optN t.nodes) := fun S => by cases t.nodes <;> simp [optN, InV, InL]
 generalize hv : optN t.nodes = v at hin ⊢
 refine en_ Tryz.func141 [.tmp 2, .tmp 3] fun g0 w0 gen hrel hfr hfr' hres => ?_
 repeat' (first
  |refine AR_cutB (id := 0) (fun σ => σ.tm 1 = .ptr ⟨gen, 0, 0⟩ 0 ∧ σ.h ⟨gen, 0, 0⟩ = some (.box t.cells) ∧ Agree h σ.h ∧ ∃ w, tyWant t.kind = some w ∧ σ.tm 4 = .int .i64 w) ?_ ?_
  |refine AR_seq ?_|refine AR_skip ?_|refine AR_block ?_|refine AR_block_end ?_|refine AR_exit ?_|refine AR_code_exit ?_|refine AR_inv_exit ?_|refine AR_block_hit ?_
  |refine AR_block_pass (by decide) ?_|refine AR_ret ?_|refine AR_fall ?_
  |(refine ⟨?_,?_⟩; focus ((repeat' (first|refine ⟨?_,?_⟩|refine .inr ?_)); all_goals kernel_rfl))
  |refine AR_cond_t rfl ?_|refine AR_cond_f rfl ?_|(refine AR_cond rfl (fun hc => ?_) (fun hc => ?_) <;> (try rw [beq_iff_eq] at hc) <;> (try simp only [hc]))
  | ((first|refine AR_region ?_|(refine guarded_split (fun hb => ?_) (fun hb => ?_) <;> (try simp only [Bool.not_true, Bool.not_false] at hb))|refine AR_inv ?_|refine AR_fin hrel (by first|exact hin _ | simp only [go_sem, and_self]) ag_ ?_) <;> simp only [go_sem, *]))
 ·exact ⟨.new (.refl _) (hfr' _ _), 0, rfl, rfl⟩
 ·exact ⟨.new (.refl _) (hfr' _ _), 0, rfl, rfl⟩
 ·exact ⟨.new (.refl _) (hfr' _ _), 0, rfl, rfl⟩
 ·exact ⟨.new (.refl _) (hfr' _ _), 2, rfl, rfl⟩
 ·exact ⟨.new (.refl _) (hfr' _ _), 2, rfl, rfl⟩
 ·rw [← hv, Ty.nodes_eq]; simp [tyWant, optN, *]
 intro σ ⟨j1, j2, j3, w, j4, j5⟩
 cases hw : ((t.args.length : Int) == w) with
 | false =>
  have hw' : ((t.args.length : Int) != w) = true := by simp [bne, hw]
  have hv' : optN none = v := by rw [← hv, Ty.nodes_eq, j4]; simp [hw]
  subst hv'
  clear hw hv ih'
  exact wk_
 | true =>
  have hw' : ((t.args.length : Int) != w) = false := by simp [bne, hw]
  have hv' : optN (Ty.nodesL 1 t.args) = v := by rw [← hv, Ty.nodes_eq, j4]; simp [hw]
  clear hw hv
  refine wq_ ?_
  refine AR_loop_nat (fun i σ => σ.tm 27 = .int .i64 i ∧ σ.tm 26 = .int .i64 t.args.length ∧ σ.tm 25 = .sl .any (t.args.map Ty.cells) ∧
   σ.h ⟨gen, 0, 0⟩ = some (.box t.cells) ∧ Agree h σ.h ∧ ∃ n, σ.tm 5 = .int .i64 n ∧ optN (Ty.nodesL n (t.args.drop i)) = v) t.args.length ?_ ?_
  ·simp only [go_sem, *]
   exact ⟨rfl, _, rfl, hv'⟩
  clear j1 j2 j3 j5 hw' hv'
  clear σ
  intro i σ hi ⟨j1, j2, j3, j4, j5, n, j6, j7⟩
  refine AR_gen (fun gn hgn => ?_)
  have hgf := fresh_of hgn
  have hgf0 : ∀ r i, h ⟨gn, r, i⟩ = none := fun r i => agree_fresh j5 (hgf r i)
  have e1 := gen_ne hgn j4
  have e2 := gen_ne' hgn j4
  have hw := wrap_succ (i := i) (by omega)
  clear hgn
  rcases Nat.lt_or_ge i t.args.length with hlt | hge
  ·have hd := lt_true hlt
   obtain ⟨x, hx⟩ : ∃ x, t.args[i]? = some x := ⟨_, List.getElem?_eq_getElem hlt⟩
   rw [drop_get hx] at j7
   have hc := ih' x (List.mem_of_getElem? hx)
   clear ih'
   cases hn : x.nodes with
   | none =>
    rw [hn] at hc
    rw [Ty.nodesL_none hn] at j7
    subst j7
    exact wk_
   | some k =>
    rw [hn] at hc
    rw [Ty.nodesL_some hn] at j7
    refine wq_ ?_
    exact ⟨by repeat (first|assumption|refine Agree.new ?_ (hgf0 _ _)), _, rfl, j7⟩
  ·have hd := lt_false hge
   obtain rfl : i = t.args.length := by omega
   rw [List.drop_length, Ty.nodesL_nil] at j7
   subst j7
   clear ih'
   exact wk_
theorem c_CheckType (t : Ty) (ht : TyW t) : Pure Tryz.prog env 139 [.agg t.cells] (two (chk 64 t.nodes)) := by
 intro h
 have hc := c_typeNodes t ht
 have hin : ∀ S, InV S (two (chk 64 t.nodes)) := fun S => by simp [two, InV, InL]
 cases hn : t.nodes with
 | none =>
  rw [hn] at hc hin
  refine en_ Tryz.func139 [.tmp 2, .tmp 3] fun g0 w0 gen hrel hfr hfr' hres => ?_
  first|refine wq_ ?_|exact wk_
  all_goals simp [two, chk]
 | some n =>
  rw [hn] at hc hin
  refine en_ Tryz.func139 [.tmp 2, .tmp 3] fun g0 w0 gen hrel hfr hfr' hres => ?_
  repeat' (first
   |exact hin _|exact agf (by assumption)
   | (first|refine wp rfl ?_|refine spt rfl ?_|refine spf rfl ?_|(refine spl (fun hc => ?_) fun hc => ?_) <;> (try rw [beq_iff_eq] at hc) <;> try simp only [hc]|refine cp hc ?_|refine finF hrel ?_ ?_ ?_)<;>try simp only [go_sem, *])
  all_goals (try simp only [decide_eq_true_eq, decide_eq_false_iff_not] at *)
  all_goals first | (have hcn : ¬ 64 < n := by omega); simp [two, chk, hcn] | (have hcn : 64 < n := by omega); simp [two, chk, hcn]
theorem c_NoType (t : Ty) : Pure Tryz.prog env 140 [.agg t.cells] (.bool (noType t)) := by
 intro h
 refine en_ Tryz.func140 [.tmp 2] fun g0 w0 gen hrel hfr hfr' hres => ?_
 repeat' (first
  |exact hin _|exact agf (by assumption)
  | (first|refine wp rfl ?_|(refine gs (fun hb => ?_) fun hb => ?_) <;> try simp only [Bool.not_true, Bool.not_false] at hb|refine finF hrel ?_ ?_ ?_)<;>try simp only [go_sem, *])
 all_goals simp_all [noType]
theorem c_Typed (k : Int) : Pure Tryz.prog env 138 [.int .i64 k] (.bool (typed k)) := by
 intro h
 refine en_ Tryz.func138 [.tmp 2] fun g0 w0 gen hrel hfr hfr' hres => ?_
 repeat' (first
  |exact hin _|exact agf (by assumption)
  | (first|refine wp rfl ?_|(refine gs (fun hb => ?_) fun hb => ?_) <;> try simp only [Bool.not_true, Bool.not_false] at hb|refine finF hrel ?_ ?_ ?_)<;>try simp only [go_sem, *])
 all_goals simp_all [typed]
theorem c_Arity (k : Int) : Pure Tryz.prog env 137 [.int .i64 k] (optN (arity k)) := by
 intro h
 have hin : ∀ S, InV S (optN (arity k)) := fun S => by cases arity k <;> simp [optN, InV, InL]
 have hk : k < 1 ∨ 14 ≤ k ∨ k = 1 ∨ k = 2 ∨ k = 3 ∨ k = 4 ∨ k = 5 ∨ k = 6 ∨ k = 7 ∨ k = 8 ∨ k = 9 ∨ k = 10 ∨ k = 11 ∨ k = 12 ∨ k = 13 := by omega
 rcases hk with hk | hk | hk
 ·have hv : optN none = optN (arity k) := by simp [arity, hk]
  rw [← hv]
  clear hv hin
  refine en_ Tryz.func137 [.tmp 2, .tmp 3] fun g0 w0 gen hrel hfr hfr' hres => ?_
  repeat' (first
   |exact hin _|exact agf (by assumption)
   | (first|refine wp rfl ?_|refine spt rfl ?_|refine spf rfl ?_|(refine spl (fun hc => ?_) fun hc => ?_) <;> (try rw [beq_iff_eq] at hc) <;> try simp only [hc]|(refine gs (fun hb => ?_) fun hb => ?_) <;> try simp only [Bool.not_true, Bool.not_false] at hb|refine finF hrel ?_ ?_ ?_)<;>try simp only [go_sem, *])
  all_goals (exfalso; first | (simp_all; done) | (simp_all; omega))
 ·have hv : optN none = optN (arity k) := by simp [arity, hk]
  rw [← hv]
  clear hv hin
  refine en_ Tryz.func137 [.tmp 2, .tmp 3] fun g0 w0 gen hrel hfr hfr' hres => ?_
  repeat' (first
   |exact hin _|exact agf (by assumption)
   | (first|refine wp rfl ?_|refine spt rfl ?_|refine spf rfl ?_|(refine spl (fun hc => ?_) fun hc => ?_) <;> (try rw [beq_iff_eq] at hc) <;> try simp only [hc]|(refine gs (fun hb => ?_) fun hb => ?_) <;> try simp only [Bool.not_true, Bool.not_false] at hb|refine finF hrel ?_ ?_ ?_)<;>try simp only [go_sem, *])
  all_goals (exfalso; first | (simp_all; done) | (simp_all; omega))
 ·have hv : ∃ a, arity k = some a ∧ ((env 0).getD [])[k.toNat]? = some (.int .i64 a) := by
   rcases hk with rfl | rfl | rfl | rfl | rfl | rfl | rfl | rfl | rfl | rfl | rfl | rfl | rfl <;> exact ⟨_, rfl, rfl⟩
  obtain ⟨a, h1, h2⟩ := hv
  rw [h1]
  clear hin
  have k1 : decide (k < 1) = false := by simp; omega
  have k2 : decide (14 ≤ k) = false := by simp; omega
  have k3 : 0 ≤ k := by omega
  have k4 : k < ((14 : Nat) : Int) := by omega
  have k6 : env 0 = some [.int .i64 0, .int .i64 0, .int .i64 1, .int .i64 2, .int .i64 0, .int .i64 1, .int .i64 3, .int .i64 0, .int .i64 2, .int .i64 3, .int .i64 2, .int .i64 1, .int .i64 1, .int .i64 0] := rfl
  have h3 : [V.int .i64 0, .int .i64 0, .int .i64 1, .int .i64 2, .int .i64 0, .int .i64 1, .int .i64 3, .int .i64 0, .int .i64 2, .int .i64 3, .int .i64 2, .int .i64 1, .int .i64 1, .int .i64 0][0 + k.toNat * 1]? = some (.int .i64 a) := by rw [Nat.zero_add, Nat.mul_one]; exact h2
  have k5 : k.toNat < 14 := by omega
  clear h2 hk
  exact ek_ Tryz.func137 [.tmp 2, .tmp 3]
theorem c_CheckType' (t : Ty) (ht : TyW t) : Pure Tryz.prog env 139 [.agg t.cells] (.tup [.int .i64 (chk 64 t.nodes).1, .int .i64 (tyErr t)]) := c_CheckType t ht
theorem c_termNodes : ∀ t : Tm, TmW t → Pure Tryz.prog env 129 [.agg t.cells] (optN t.nodes) := by
 intro t
 induction t using Tm.ind with | h t ih => ?_
 intro ht h
 have hlen := ht.len
 have ih' : ∀ x ∈ t.args, Pure Tryz.prog env 129 [.agg x.cells] (optN x.nodes) := fun x hx => ih x hx (ht.arg hx)
 clear ih
 have hin : ∀ S, InV S (optN t.nodes) := fun S => by cases t.nodes <;> simp [optN, InV, InL]
 have hct := c_CheckType' t.type ht.ty
 have hca := c_Arity t.kind
 generalize hv : optN t.nodes = v at hin ⊢
 cases ha : arity t.kind with
 | none =>
  rw [ha] at hca
  have hv' : optN none = v := by rw [← hv, Tm.nodes_eq]; simp [tmHead, ha]
  subst hv'
  clear ih' hct
  exact ek_ Tryz.func129 [.tmp 2, .tmp 3]
 | some a =>
 rw [ha] at hca
 refine en_ Tryz.func129 [.tmp 2, .tmp 3] fun g0 w0 gen hrel hfr hfr' hres => ?_
 repeat' (first
  |refine AR_cutS (id := 2) (fun σ => σ.tm 1 = .ptr ⟨gen, 0, 0⟩ 0 ∧ σ.h ⟨gen, 0, 0⟩ = some (.box t.cells) ∧ Agree h σ.h ∧ ((t.args.length : Int) == a && decide (0 ≤ t.index) && (t.index == 0 || t.kind == 1)) = true) ?_ ?_
  |refine AR_seq ?_|refine AR_skip ?_|refine AR_block ?_|refine AR_block_end ?_|refine AR_exit ?_|refine AR_code_exit ?_|refine AR_inv_exit ?_|refine AR_block_hit ?_
  |refine AR_block_pass (by decide) ?_|refine AR_ret ?_|refine AR_fall ?_
  |(refine ⟨?_,?_⟩; focus ((repeat' (first|refine ⟨?_,?_⟩|refine .inr ?_)); all_goals kernel_rfl))
  |refine AR_cond_t rfl ?_|refine AR_cond_f rfl ?_|(refine AR_cond rfl (fun hc => ?_) (fun hc => ?_) <;> (try rw [beq_iff_eq] at hc) <;> (try simp only [hc]))
  | ((first|refine AR_region ?_|(refine guarded_split (fun hb => ?_) (fun hb => ?_) <;> (try simp only [Bool.not_true, Bool.not_false] at hb))|refine AR_inv ?_|refine Call1_pure (hca) ?_|refine AR_fin hrel (by first|exact hin _ | simp only [go_sem, and_self]) ag_ ?_) <;> simp only [go_sem, *]))
 all_goals first
  | (clear ih' hca hct; rw [← hv, Tm.nodes_eq]; simp_all [tmHead, optN]; done)
  | (clear ih' hca hct; rw [← hv, Tm.nodes_eq]; clear hv hin; have hh : tmHead t.kind t.index t.type t.args.length = false := by { simp_all [tmHead]; intros; omega }; rw [hh]; rfl)
  | (clear ih' hca hct; refine ⟨.new (.refl _) (hfr' _ _), ?_⟩; simp_all; done)
  | (clear ih' hca hct; refine ⟨.new (.refl _) (hfr' _ _), ?_⟩; simp_all; omega)
  | skip
 clear hca
 intro σ ⟨j1, j2, j3, hd0⟩
 repeat' (first
  |(refine AR_cutC (t := 45) (fun σ => σ.tm 1 = .ptr ⟨gen, 0, 0⟩ 0 ∧ σ.h ⟨gen, 0, 0⟩ = some (.box t.cells) ∧ Agree h σ.h ∧ tmHead t.kind t.index t.type t.args.length = true) rfl (fun hc => ?_) (fun hc => ?_) ?_ <;> (try rw [beq_iff_eq] at hc) <;> (try simp only [hc]))
  |refine AR_seq ?_|refine AR_skip ?_|refine AR_block ?_|refine AR_block_end ?_|refine AR_exit ?_|refine AR_code_exit ?_|refine AR_inv_exit ?_|refine AR_block_hit ?_
  |refine AR_block_pass (by decide) ?_|refine AR_ret ?_|refine AR_fall ?_
  |(refine ⟨?_,?_⟩; focus ((repeat' (first|refine ⟨?_,?_⟩|refine .inr ?_)); all_goals kernel_rfl))
  |refine AR_cond_t rfl ?_|refine AR_cond_f rfl ?_|(refine AR_cond rfl (fun hc => ?_) (fun hc => ?_) <;> (try rw [beq_iff_eq] at hc) <;> (try simp only [hc]))
  | ((first|refine AR_region ?_|(refine guarded_split (fun hb => ?_) (fun hb => ?_) <;> (try simp only [Bool.not_true, Bool.not_false] at hb))|refine AR_inv ?_|refine Call1_pure (hct) ?_|refine Call1_pure (c_NoType _) ?_|refine Call1_pure (c_Typed _) ?_|refine AR_fin hrel (by first|exact hin _ | simp only [go_sem, and_self]) ag_ ?_) <;> simp only [go_sem, *]))
 all_goals first
  | (clear ih' hct; rw [← hv, Tm.nodes_eq]; simp_all [tmHead, optN]; done)
  | (clear ih' hct; simp_all [tmHead]; done)
  | skip
 clear hct j1 j2 j3 hd0
 clear σ
 intro σ ⟨j1, j2, j3, j4⟩
 have hv' : optN (Tm.nodesL 1 t.args) = v := by rw [← hv, Tm.nodes_eq, j4]; simp
 clear hv
 refine wq_ ?_
 refine AR_loop_nat (fun i σ => σ.tm 61 = .int .i64 i ∧ σ.tm 60 = .int .i64 t.args.length ∧ σ.tm 59 = .sl .any (t.args.map Tm.cells) ∧
  σ.h ⟨gen, 0, 0⟩ = some (.box t.cells) ∧ Agree h σ.h ∧ ∃ n, σ.tm 8 = .int .i64 n ∧ optN (Tm.nodesL n (t.args.drop i)) = v) t.args.length ?_ ?_
 ·simp only [go_sem, *]
  exact ⟨rfl, _, rfl, hv'⟩
 clear j1 j2 j3 j4 hv'
 clear σ
 intro i σ hi ⟨j1, j2, j3, j4, j5, n, j6, j7⟩
 refine AR_gen (fun gn hgn => ?_)
 have hgf := fresh_of hgn
 have hgf0 : ∀ r i, h ⟨gn, r, i⟩ = none := fun r i => agree_fresh j5 (hgf r i)
 have e1 := gen_ne hgn j4
 have e2 := gen_ne' hgn j4
 have hw := wrap_succ (i := i) (by omega)
 clear hgn
 rcases Nat.lt_or_ge i t.args.length with hlt | hge
 ·have hd := lt_true hlt
  obtain ⟨x, hx⟩ : ∃ x, t.args[i]? = some x := ⟨_, List.getElem?_eq_getElem hlt⟩
  rw [drop_get hx] at j7
  have hc := ih' x (List.mem_of_getElem? hx)
  clear ih'
  cases hn : x.nodes with
  | none =>
   rw [hn] at hc
   rw [Tm.nodesL_none hn] at j7
   subst j7
   exact wk_
  | some k =>
   rw [hn] at hc
   rw [Tm.nodesL_some hn] at j7
   refine wq_ ?_
   exact ⟨by repeat (first|assumption|refine Agree.new ?_ (hgf0 _ _)), _, rfl, j7⟩
 ·have hd := lt_false hge
  obtain rfl : i = t.args.length := by omega
  rw [List.drop_length, Tm.nodesL_nil] at j7
  subst j7
  clear ih'
  exact wk_
theorem c_formed (t : Fm) (ht : FmW t) : Pure Tryz.prog env 133 [.agg t.cells] (.bool (formed t.kind t.type t.terms.length t.args.length)) := by
 intro h
 have hct := c_CheckType' t.type ht.ty
 generalize hv : formed t.kind t.type t.terms.length t.args.length = v
 refine en_ Tryz.func133 [.tmp 2] fun g0 w0 gen hrel hfr hfr' hres => ?_
 repeat' (first
  |refine AR_cutB (id := 0) (fun σ => σ.tm 1 = .ptr ⟨gen, 0, 0⟩ 0 ∧ σ.h ⟨gen, 0, 0⟩ = some (.box t.cells) ∧ Agree h σ.h ∧ ∃ a b c, fmWant t.kind = some (a, b, c) ∧ σ.tm 3 = .int .i64 a ∧ σ.tm 4 = .int .i64 b ∧ σ.tm 5 = .bool c) ?_ ?_
  |refine AR_seq ?_|refine AR_skip ?_|refine AR_block ?_|refine AR_block_end ?_|refine AR_exit ?_|refine AR_code_exit ?_|refine AR_inv_exit ?_|refine AR_block_hit ?_
  |refine AR_block_pass (by decide) ?_|refine AR_ret ?_|refine AR_fall ?_
  |(refine ⟨?_,?_⟩; focus ((repeat' (first|refine ⟨?_,?_⟩|refine .inr ?_)); all_goals kernel_rfl))
  |refine AR_cond_t rfl ?_|refine AR_cond_f rfl ?_|(refine AR_cond rfl (fun hc => ?_) (fun hc => ?_) <;> (try rw [beq_iff_eq] at hc) <;> (try simp only [hc]))
  | ((first|refine AR_region ?_|(refine guarded_split (fun hb => ?_) (fun hb => ?_) <;> (try simp only [Bool.not_true, Bool.not_false] at hb))|refine AR_inv ?_|refine AR_fin hrel (by first|exact hin _ | simp only [go_sem, and_self]) ag_ ?_) <;> simp only [go_sem, *]))
 all_goals first
  |exact ⟨.new (.refl _) (hfr' _ _), _, _, _, rfl, rfl, rfl, rfl⟩
  | (clear hct; rw [← hv]; simp_all [formed, fmWant]; done)
  | skip
 intro σ ⟨j1, j2, j3, a, b, c, hw, j4, j5, j6⟩
 have hv' : ((if c then tyErr t.type == 0 else noType t.type) && (t.terms.length : Int) == a && (t.args.length : Int) == b) = v := by rw [← hv]; simp [formed, hw]
 clear hv
 cases c with
 | true =>
  repeat' (first
   |exact hin _|exact agf (by assumption)
   | (first|refine wp rfl ?_|refine spt rfl ?_|refine spf rfl ?_|(refine spl (fun hc => ?_) fun hc => ?_) <;> (try rw [beq_iff_eq] at hc) <;> try simp only [hc]|(refine gs (fun hb => ?_) fun hb => ?_) <;> try simp only [Bool.not_true, Bool.not_false] at hb|refine cp hct ?_|refine finF hrel ?_ ?_ ?_)<;>try simp only [go_sem, *])
  all_goals (clear hct; subst hv'; simp_all; done)
 | false =>
  clear hct
  repeat' (first
   |exact hin _|exact agf (by assumption)
   | (first|refine wp rfl ?_|refine spt rfl ?_|refine spf rfl ?_|(refine spl (fun hc => ?_) fun hc => ?_) <;> (try rw [beq_iff_eq] at hc) <;> try simp only [hc]|(refine gs (fun hb => ?_) fun hb => ?_) <;> try simp only [Bool.not_true, Bool.not_false] at hb|refine cp (c_NoType _) ?_|refine finF hrel ?_ ?_ ?_)<;>try simp only [go_sem, *])
  all_goals (subst hv'; simp_all; done)
def fmRest (o : Option Int) (a : List Fm) : Option Int := match o with | none => none | some n => Fm.nodesL n a
theorem fmRest_none (a : List Fm) : fmRest none a = none := rfl
theorem fmRest_some (n : Int) (a : List Fm) : fmRest (some n) a = Fm.nodesL n a := rfl
theorem c_formulaNodes : ∀ t : Fm, FmW t → Pure Tryz.prog env 115 [.agg t.cells] (optN t.nodes) := by
 intro t
 induction t using Fm.ind with | h t ih => ?_
 intro ht h
 have hlen := ht.len
 have hlen2 := ht.tlen
 have ih' : ∀ x ∈ t.args, Pure Tryz.prog env 115 [.agg x.cells] (optN x.nodes) := fun x hx => ih x hx (ht.arg hx)
 clear ih
 have hin : ∀ S, InV S (optN t.nodes) := fun S => by cases t.nodes <;> simp [optN, InV, InL]
 have hcf := c_formed t ht
 generalize hv : optN t.nodes = v at hin ⊢
 cases hf : formed t.kind t.type t.terms.length t.args.length with
 | false =>
  rw [hf] at hcf
  have hv' : optN none = v := by rw [← hv, Fm.nodes_eq, hf]; simp
  subst hv'
  clear ih' hv
  exact ek_ Tryz.func115 [.tmp 2, .tmp 3]
 | true =>
 rw [hf] at hcf
 have hv' : optN (fmRest (Tm.nodesL 1 t.terms) t.args) = v := by rw [← hv, Fm.nodes_eq, hf]; rfl
 clear hv
 refine en_ Tryz.func115 [.tmp 2, .tmp 3] fun g0 w0 gen hrel hfr hfr' hres => ?_
 refine wq_ ?_
 clear hcf
 refine AR_loop_nat (fun i σ => σ.tm 1 = .ptr ⟨gen, 0, 0⟩ 0 ∧ σ.tm 19 = .int .i64 i ∧ σ.tm 18 = .int .i64 t.terms.length ∧ σ.tm 17 = .sl .any (t.terms.map Tm.cells) ∧
  σ.h ⟨gen, 0, 0⟩ = some (.box t.cells) ∧ Agree h σ.h ∧ ∃ n, σ.tm 4 = .int .i64 n ∧ optN (fmRest (Tm.nodesL n (t.terms.drop i)) t.args) = v) t.terms.length ?_ ?_
 ·simp only [go_sem, *]
  exact ⟨rfl, by repeat (first|exact Agree.refl _|assumption|refine Agree.new ?_ (hfr' _ _)), _, rfl, hv'⟩
 clear hv'
 intro i σ hi ⟨j0, j1, j2, j3, j4, j5, n, j6, j7⟩
 refine AR_gen (fun gn hgn => ?_)
 have hgf := fresh_of hgn
 have hgf0 : ∀ r i, h ⟨gn, r, i⟩ = none := fun r i => agree_fresh j5 (hgf r i)
 have e1 := gen_ne hgn j4
 have e2 := gen_ne' hgn j4
 have hw := wrap_succ (i := i) (by omega)
 clear hgn
 rcases Nat.lt_or_ge i t.terms.length with hlt | hge
 ·have hd := lt_true hlt
  obtain ⟨x, hx⟩ : ∃ x, t.terms[i]? = some x := ⟨_, List.getElem?_eq_getElem hlt⟩
  rw [drop_get hx] at j7
  have hc := c_termNodes x (ht.term (List.mem_of_getElem? hx))
  clear ih'
  cases hn : x.nodes with
  | none =>
   rw [hn] at hc
   rw [Tm.nodesL_none hn, fmRest_none] at j7
   subst j7
   exact wk_
  | some k =>
   rw [hn] at hc
   rw [Tm.nodesL_some hn] at j7
   refine wq_ ?_
   exact ⟨by repeat (first|assumption|refine Agree.new ?_ (hgf0 _ _)), _, rfl, j7⟩
 have hd := lt_false hge
 obtain rfl : i = t.terms.length := by omega
 rw [List.drop_length, Tm.nodesL_nil, fmRest_some] at j7
 have hv' := j7
 clear j7
 refine wq_ ?_
 refine AR_loop_nat (fun i σ => σ.tm 1 = .ptr ⟨gen, 0, 0⟩ 0 ∧ σ.tm 37 = .int .i64 i ∧ σ.tm 36 = .int .i64 t.args.length ∧ σ.tm 35 = .sl .any (t.args.map Fm.cells) ∧
  σ.h ⟨gen, 0, 0⟩ = some (.box t.cells) ∧ Agree h σ.h ∧ ∃ n, σ.tm 4 = .int .i64 n ∧ optN (Fm.nodesL n (t.args.drop i)) = v) t.args.length ?_ ?_
 ·simp only [go_sem, *]
  exact ⟨rfl, _, rfl, hv'⟩
 clear j0 j1 j2 j3 j4 j5 j6 hv' hge hd hi e1 e2 hgf hgf0 hw
 clear σ
 intro i σ hi ⟨j0, j1, j2, j3, j4, j5, n, j6, j7⟩
 refine AR_gen (fun gn hgn => ?_)
 have hgf := fresh_of hgn
 have hgf0 : ∀ r i, h ⟨gn, r, i⟩ = none := fun r i => agree_fresh j5 (hgf r i)
 have e1 := gen_ne hgn j4
 have e2 := gen_ne' hgn j4
 have hw := wrap_succ (i := i) (by omega)
 clear hgn
 rcases Nat.lt_or_ge i t.args.length with hlt | hge
 ·have hd := lt_true hlt
  obtain ⟨x, hx⟩ : ∃ x, t.args[i]? = some x := ⟨_, List.getElem?_eq_getElem hlt⟩
  rw [drop_get hx] at j7
  have hc := ih' x (List.mem_of_getElem? hx)
  clear ih'
  cases hn : x.nodes with
  | none =>
   rw [hn] at hc
   rw [Fm.nodesL_none hn] at j7
   subst j7
   exact wk_
  | some k =>
   rw [hn] at hc
   rw [Fm.nodesL_some hn] at j7
   refine wq_ ?_
   exact ⟨by repeat (first|assumption|refine Agree.new ?_ (hgf0 _ _)), _, rfl, j7⟩
 ·have hd := lt_false hge
  obtain rfl : i = t.args.length := by omega
  rw [List.drop_length, Fm.nodesL_nil] at j7
  subst j7
  clear ih'
  exact wk_
theorem c_CheckFormula (t : Fm) (ht : FmW t) : Pure Tryz.prog env 89 [.agg t.cells] (two (chk 4096 t.nodes)) := by
 intro h
 have hc := c_formulaNodes t ht
 have hin : ∀ S, InV S (two (chk 4096 t.nodes)) := fun S => by simp [two, InV, InL]
 cases hn : t.nodes with
 | none =>
  rw [hn] at hc hin
  refine en_ Tryz.func89 [.tmp 2, .tmp 3] fun g0 w0 gen hrel hfr hfr' hres => ?_
  first|refine wq_ ?_|exact wk_
  all_goals simp [two, chk]
 | some n =>
  rw [hn] at hc hin
  refine en_ Tryz.func89 [.tmp 2, .tmp 3] fun g0 w0 gen hrel hfr hfr' hres => ?_
  repeat' (first
   |exact hin _|exact agf (by assumption)
   | (first|refine wp rfl ?_|refine spt rfl ?_|refine spf rfl ?_|(refine spl (fun hc => ?_) fun hc => ?_) <;> (try rw [beq_iff_eq] at hc) <;> try simp only [hc]|refine cp hc ?_|refine finF hrel ?_ ?_ ?_)<;>try simp only [go_sem, *])
  all_goals (try simp only [decide_eq_true_eq, decide_eq_false_iff_not] at *)
  all_goals first | (have hcn : ¬ 4096 < n := by omega); simp [two, chk, hcn] | (have hcn : 4096 < n := by omega); simp [two, chk, hcn]
theorem c_fmCheck (t : Fm) (ht : FmW t) : Pure Tryz.prog env 55 [.agg t.cells] (.int .i64 (fmErr t)) := by
 intro h
 have hc := c_CheckFormula t ht
 unfold two at hc
 refine en_ Tryz.func55 [.tmp 2] fun g0 w0 gen hrel hfr hfr' hres => ?_
 first|refine wq_ ?_|exact wk_
 all_goals simp [fmErr]
end Go.Proofs.YtmbpmbofehmdaaaGreatDoor
