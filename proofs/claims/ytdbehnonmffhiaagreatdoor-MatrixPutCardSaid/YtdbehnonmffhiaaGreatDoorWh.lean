/-
  Walks: counts of terms.
-/
import Derived.Test.YtdbehnonmffhiaaGreatDoorWg
set_option linter.unusedSimpArgs false
set_option linter.unusedVariables false
set_option maxRecDepth 20000
namespace Go.Proofs.YtdbehnonmffhiaaGreatDoor
open Go GoAbs Go.Proofs

theorem c_CheckType' (t : Ty) (ht : TyW t) : Pure Tryz.prog env 111 [.agg t.cells] (.tup [.int .i64 (chk 64 t.nodes).1, .int .i64 (tyErr t)]) := c_CheckType t ht

theorem c_termNodes : ∀ t : Tm, TmW t → Pure Tryz.prog env 90 [.agg t.cells] (optN t.nodes) := by
  intro t
  induction t using Tm.ind with | h t ih => ?_
  intro ht h
  have hlen := ht.len
  have ih' : ∀ x ∈ t.args, Pure Tryz.prog env 90 [.agg x.cells] (optN x.nodes) := fun x hx => ih x hx (ht.arg hx)
  clear ih
  have hin : ∀ S, InV S (optN t.nodes) := fun S => by cases t.nodes <;> simp [optN, InV, InL]
  have hct := c_CheckType' t.type ht.ty
  have hca := c_Arity t.kind
  generalize hv : optN t.nodes = v at hin ⊢
  cases ha : arity t.kind with
  | none =>
    rw [ha] at hca
    have hv' : optN none = v := by rw [← hv, Tm.nodes_eq]; simp [tmHead, ha]
    subst hv'
    clear ih' hct
    refine enter Tryz.func90 [.tmp 2, .tmp 3] rfl (by kernel_rfl) follows (by kernel_rfl) rfl fun g0 w0 gen hrel hfr hfr' hres => ?_
    repeat' (first
      | exact hin _ | exact agf (by assumption)
      | (first | refine wp rfl ?_ | refine spt rfl ?_ | refine spf rfl ?_ | (refine spl (fun hc => ?_) fun hc => ?_) <;> (try rw [beq_iff_eq] at hc) <;> try simp only [hc] | (refine guarded_split (fun hb => ?_) fun hb => ?_) <;> try simp only [Bool.not_true, Bool.not_false] at hb | refine Call1_pure (hca) ?_ | refine finF hrel ?_ ?_ ?_) <;> try simp only [go_sem, *])
  | some a =>
  rw [ha] at hca
  refine enter Tryz.func90 [.tmp 2, .tmp 3] rfl (by kernel_rfl) follows (by kernel_rfl) rfl fun g0 w0 gen hrel hfr hfr' hres => ?_
  repeat' (first
    | refine AR_cutS (id := 2) (fun σ => σ.tm 1 = .ptr ⟨gen, 0, 0⟩ 0 ∧ σ.h ⟨gen, 0, 0⟩ = some (.box t.cells) ∧ Agree h σ.h ∧ ((t.args.length : Int) == a && decide (0 ≤ t.index) && (t.index == 0 || t.kind == 1)) = true) ?_ ?_
    | refine AR_seq ?_ | refine AR_skip ?_ | refine AR_block ?_ | refine AR_block_end ?_ | refine AR_exit ?_ | refine AR_code_exit ?_ | refine AR_inv_exit ?_ | refine AR_block_hit ?_
    | refine AR_block_pass (by decide) ?_ | refine AR_ret ?_ | refine AR_fall ?_
    | (refine ⟨?_, ?_⟩; focus ((repeat' (first | (refine And.intro ?_ ?_) | (refine Or.inr ?_))); all_goals kernel_rfl))
    | refine AR_cond_t rfl ?_ | refine AR_cond_f rfl ?_ | (refine AR_cond rfl (fun hc => ?_) (fun hc => ?_) <;> (try rw [beq_iff_eq] at hc) <;> (try simp only [hc]))
    | ((first | refine AR_region ?_ | (refine guarded_split (fun hb => ?_) (fun hb => ?_) <;> (try simp only [Bool.not_true, Bool.not_false] at hb)) | refine AR_inv ?_ | refine Call1_pure (hca) ?_ | refine AR_fin hrel (by first | exact hin _ | simp only [go_sem, and_self]) (by repeat (first | exact Agree.refl _ | assumption | refine Agree.new ?_ (hgf0 _ _) | refine Agree.new ?_ (hfr' _ _))) ?_) <;> simp only [go_sem, *]))
  all_goals first
    | (clear ih' hca hct; rw [← hv, Tm.nodes_eq]; simp_all [tmHead, optN]; done)
    | (clear ih' hca hct; rw [← hv, Tm.nodes_eq]; clear hv hin; have hh : tmHead t.kind t.index t.type t.args.length = false := by { simp_all [tmHead]; intros; omega }; rw [hh]; rfl)
    | (clear ih' hca hct; refine ⟨.new (.refl _) (hfr' _ _), ?_⟩; simp_all; done)
    | (clear ih' hca hct; refine ⟨.new (.refl _) (hfr' _ _), ?_⟩; simp_all; omega)
    | skip
  clear hca
  intro σ ⟨j1, j2, j3, hd0⟩
  repeat' (first
    | (refine AR_cutC (t := 45) (fun σ => σ.tm 1 = .ptr ⟨gen, 0, 0⟩ 0 ∧ σ.h ⟨gen, 0, 0⟩ = some (.box t.cells) ∧ Agree h σ.h ∧ tmHead t.kind t.index t.type t.args.length = true) rfl (fun hc => ?_) (fun hc => ?_) ?_ <;> (try rw [beq_iff_eq] at hc) <;> (try simp only [hc]))
    | refine AR_seq ?_ | refine AR_skip ?_ | refine AR_block ?_ | refine AR_block_end ?_ | refine AR_exit ?_ | refine AR_code_exit ?_ | refine AR_inv_exit ?_ | refine AR_block_hit ?_
    | refine AR_block_pass (by decide) ?_ | refine AR_ret ?_ | refine AR_fall ?_
    | (refine ⟨?_, ?_⟩; focus ((repeat' (first | (refine And.intro ?_ ?_) | (refine Or.inr ?_))); all_goals kernel_rfl))
    | refine AR_cond_t rfl ?_ | refine AR_cond_f rfl ?_ | (refine AR_cond rfl (fun hc => ?_) (fun hc => ?_) <;> (try rw [beq_iff_eq] at hc) <;> (try simp only [hc]))
    | ((first | refine AR_region ?_ | (refine guarded_split (fun hb => ?_) (fun hb => ?_) <;> (try simp only [Bool.not_true, Bool.not_false] at hb)) | refine AR_inv ?_ | refine Call1_pure (hct) ?_ | refine Call1_pure (c_NoType _) ?_ | refine Call1_pure (c_Typed _) ?_ | refine AR_fin hrel (by first | exact hin _ | simp only [go_sem, and_self]) (by repeat (first | exact Agree.refl _ | assumption | refine Agree.new ?_ (hgf0 _ _) | refine Agree.new ?_ (hfr' _ _))) ?_) <;> simp only [go_sem, *]))
  all_goals first
    | (clear ih' hct; rw [← hv, Tm.nodes_eq]; simp_all [tmHead, optN]; done)
    | (clear ih' hct; simp_all [tmHead]; done)
    | skip
  clear hct j1 j2 j3 hd0
  clear σ
  intro σ ⟨j1, j2, j3, j4⟩
  have hv' : optN (Tm.nodesL 1 t.args) = v := by rw [← hv, Tm.nodes_eq, j4]; simp
  clear hv
  repeat' (first
    | exact hin _ | exact agf (by assumption)
    | (first | refine wp rfl ?_ | refine spt rfl ?_ | refine spf rfl ?_ | (refine spl (fun hc => ?_) fun hc => ?_) <;> (try rw [beq_iff_eq] at hc) <;> try simp only [hc] | (refine guarded_split (fun hb => ?_) fun hb => ?_) <;> try simp only [Bool.not_true, Bool.not_false] at hb | refine finF hrel ?_ ?_ ?_) <;> try simp only [go_sem, *])
  refine AR_loop_nat (fun i σ => σ.tm 61 = .int .i64 i ∧ σ.tm 60 = .int .i64 t.args.length ∧ σ.tm 59 = .sl .any (t.args.map Tm.cells) ∧
    σ.h ⟨gen, 0, 0⟩ = some (.box t.cells) ∧ Agree h σ.h ∧ ∃ n, σ.tm 8 = .int .i64 n ∧ optN (Tm.nodesL n (t.args.drop i)) = v) t.args.length ?_ ?_
  · simp only [go_sem, *]
    exact ⟨rfl, _, rfl, hv'⟩
  clear j1 j2 j3 j4 hv'
  clear σ
  intro i σ hi ⟨j1, j2, j3, j4, j5, n, j6, j7⟩
  refine AR_gen (fun gn hgn => ?_)
  have hgf := fresh_of hgn
  have hgf0 : ∀ r i, h ⟨gn, r, i⟩ = none := fun r i => agree_fresh j5 (hgf r i)
  have e1 := gen_ne hgn j4
  have e2 := gen_ne' hgn j4
  have hw := wrap_succ (i := i) (by omega)
  clear hgn
  rcases Nat.lt_or_ge i t.args.length with hlt | hge
  · have hd := lt_true hlt
    obtain ⟨x, hx⟩ : ∃ x, t.args[i]? = some x := ⟨_, List.getElem?_eq_getElem hlt⟩
    rw [drop_get hx] at j7
    have hc := ih' x (List.mem_of_getElem? hx)
    clear ih'
    cases hn : x.nodes with
    | none =>
      rw [hn] at hc
      rw [Tm.nodesL_none hn] at j7
      subst j7
      repeat' (first
        | exact hin _ | exact agf (by assumption)
        | (first | refine wp rfl ?_ | refine spt rfl ?_ | refine spf rfl ?_ | (refine spl (fun hc => ?_) fun hc => ?_) <;> (try rw [beq_iff_eq] at hc) <;> try simp only [hc] | (refine guarded_split (fun hb => ?_) fun hb => ?_) <;> try simp only [Bool.not_true, Bool.not_false] at hb | refine Call1_pure (hc) ?_ | refine finF hrel ?_ ?_ ?_) <;> try simp only [go_sem, *])
    | some k =>
      rw [hn] at hc
      rw [Tm.nodesL_some hn] at j7
      repeat' (first
        | exact hin _ | exact agf (by assumption)
        | (first | refine wp rfl ?_ | refine spt rfl ?_ | refine spf rfl ?_ | (refine spl (fun hc => ?_) fun hc => ?_) <;> (try rw [beq_iff_eq] at hc) <;> try simp only [hc] | (refine guarded_split (fun hb => ?_) fun hb => ?_) <;> try simp only [Bool.not_true, Bool.not_false] at hb | refine AR_inv ?_ | refine Call1_pure (hc) ?_ | refine finF hrel ?_ ?_ ?_) <;> try simp only [go_sem, *])
      exact ⟨by repeat (first | assumption | refine Agree.new ?_ (hgf0 _ _)), _, rfl, j7⟩
  · have hd := lt_false hge
    obtain rfl : i = t.args.length := by omega
    rw [List.drop_length, Tm.nodesL_nil] at j7
    subst j7
    clear ih'
    repeat' (first
      | exact hin _ | exact agf (by assumption)
      | (first | refine wp rfl ?_ | refine spt rfl ?_ | refine spf rfl ?_ | (refine spl (fun hc => ?_) fun hc => ?_) <;> (try rw [beq_iff_eq] at hc) <;> try simp only [hc] | (refine guarded_split (fun hb => ?_) fun hb => ?_) <;> try simp only [Bool.not_true, Bool.not_false] at hb | refine finF hrel ?_ ?_ ?_) <;> try simp only [go_sem, *])
end Go.Proofs.YtdbehnonmffhiaaGreatDoor
