/-
  Walks: what is well made.
-/
import Derived.Test.YtdbehnonmffhiaaGreatDoorWc
import Derived.Test.YtdbehnonmffhiaaGreatDoorAbsB
set_option linter.unusedSimpArgs false
set_option linter.unusedVariables false
set_option maxRecDepth 20000
namespace Go.Proofs.YtdbehnonmffhiaaGreatDoor
open Go GoAbs Go.Proofs

theorem c_typeNodes : ∀ t : Ty, TyW t → Pure Tryz.prog env 124 [.agg t.cells] (optN t.nodes) := by
  intro t
  induction t using Ty.ind with | h t ih => ?_
  intro ht h
  have hlen := ht.len
  have ih' : ∀ x ∈ t.args, Pure Tryz.prog env 124 [.agg x.cells] (optN x.nodes) := fun x hx => ih x hx (ht.arg hx)
  clear ih
  have hin : ∀ S, InV S (optN t.nodes) := fun S => by cases t.nodes <;> simp [optN, InV, InL]
  generalize hv : optN t.nodes = v at hin ⊢
  refine enter Tryz.func124 [.tmp 2, .tmp 3] rfl (by kernel_rfl) follows (by kernel_rfl) rfl fun g0 w0 gen hrel hfr hfr' hres => ?_
  repeat' (first
    | refine AR_cutB (id := 0) (fun σ => σ.tm 1 = .ptr ⟨gen, 0, 0⟩ 0 ∧ σ.h ⟨gen, 0, 0⟩ = some (.box t.cells) ∧ Agree h σ.h ∧ ∃ w, tyWant t.kind = some w ∧ σ.tm 4 = .int .i64 w) ?_ ?_
    | refine AR_seq ?_ | refine AR_skip ?_ | refine AR_block ?_ | refine AR_block_end ?_ | refine AR_exit ?_ | refine AR_code_exit ?_ | refine AR_inv_exit ?_ | refine AR_block_hit ?_
    | refine AR_block_pass (by decide) ?_ | refine AR_ret ?_ | refine AR_fall ?_
    | (refine ⟨?_, ?_⟩; focus ((repeat' (first | (refine And.intro ?_ ?_) | (refine Or.inr ?_))); all_goals kernel_rfl))
    | refine AR_cond_t rfl ?_ | refine AR_cond_f rfl ?_ | (refine AR_cond rfl (fun hc => ?_) (fun hc => ?_) <;> (try rw [beq_iff_eq] at hc) <;> (try simp only [hc]))
    | ((first | refine AR_region ?_ | (refine guarded_split (fun hb => ?_) (fun hb => ?_) <;> (try simp only [Bool.not_true, Bool.not_false] at hb)) | refine AR_inv ?_ | refine AR_fin hrel (by first | exact hin _ | simp only [go_sem, and_self]) (by repeat (first | exact Agree.refl _ | assumption | refine Agree.new ?_ (hgf0 _ _) | refine Agree.new ?_ (hfr' _ _))) ?_) <;> simp only [go_sem, *]))
  · exact ⟨.new (.refl _) (hfr' _ _), 0, rfl, rfl⟩
  · exact ⟨.new (.refl _) (hfr' _ _), 0, rfl, rfl⟩
  · exact ⟨.new (.refl _) (hfr' _ _), 0, rfl, rfl⟩
  · exact ⟨.new (.refl _) (hfr' _ _), 2, rfl, rfl⟩
  · exact ⟨.new (.refl _) (hfr' _ _), 2, rfl, rfl⟩
  · rw [← hv, Ty.nodes_eq]; simp [tyWant, optN, *]
  intro σ ⟨j1, j2, j3, w, j4, j5⟩
  cases hw : ((t.args.length : Int) == w) with
  | false =>
    have hw' : ((t.args.length : Int) != w) = true := by simp [bne, hw]
    have hv' : optN none = v := by rw [← hv, Ty.nodes_eq, j4]; simp [hw]
    subst hv'
    clear hw hv ih'
    repeat' (first
      | exact hin _ | exact agf (by assumption)
      | (first | refine wp rfl ?_ | refine spt rfl ?_ | refine spf rfl ?_ | (refine spl (fun hc => ?_) fun hc => ?_) <;> (try rw [beq_iff_eq] at hc) <;> try simp only [hc] | refine finF hrel ?_ ?_ ?_) <;> try simp only [go_sem, *])
  | true =>
    have hw' : ((t.args.length : Int) != w) = false := by simp [bne, hw]
    have hv' : optN (Ty.nodesL 1 t.args) = v := by rw [← hv, Ty.nodes_eq, j4]; simp [hw]
    clear hw hv
    repeat' (first
      | exact hin _ | exact agf (by assumption)
      | (first | refine wp rfl ?_ | refine spt rfl ?_ | refine spf rfl ?_ | (refine spl (fun hc => ?_) fun hc => ?_) <;> (try rw [beq_iff_eq] at hc) <;> try simp only [hc] | refine finF hrel ?_ ?_ ?_) <;> try simp only [go_sem, *])
    refine AR_loop_nat (fun i σ => σ.tm 27 = .int .i64 i ∧ σ.tm 26 = .int .i64 t.args.length ∧ σ.tm 25 = .sl .any (t.args.map Ty.cells) ∧
      σ.h ⟨gen, 0, 0⟩ = some (.box t.cells) ∧ Agree h σ.h ∧ ∃ n, σ.tm 5 = .int .i64 n ∧ optN (Ty.nodesL n (t.args.drop i)) = v) t.args.length ?_ ?_
    · simp only [go_sem, *]
      exact ⟨rfl, _, rfl, hv'⟩
    clear j1 j2 j3 j5 hw' hv'
    clear σ
    intro i σ hi ⟨j1, j2, j3, j4, j5, n, j6, j7⟩
    refine AR_gen (fun gn hgn => ?_)
    have hgf := fresh_of hgn
    have hgf0 : ∀ r i, h ⟨gn, r, i⟩ = none := fun r i => agree_fresh j5 (hgf r i)
    have e1 := gen_ne hgn j4
    have e2 := gen_ne' hgn j4
    have hw := wrap_succ (i := i) (by omega)
    clear hgn
    rcases Nat.lt_or_ge i t.args.length with hlt | hge
    · have hd := lt_true hlt
      obtain ⟨x, hx⟩ : ∃ x, t.args[i]? = some x := ⟨_, List.getElem?_eq_getElem hlt⟩
      rw [drop_get hx] at j7
      have hc := ih' x (List.mem_of_getElem? hx)
      clear ih'
      cases hn : x.nodes with
      | none =>
        rw [hn] at hc
        rw [Ty.nodesL_none hn] at j7
        subst j7
        repeat' (first
          | exact hin _ | exact agf (by assumption)
          | (first | refine wp rfl ?_ | refine spt rfl ?_ | refine spf rfl ?_ | (refine spl (fun hc => ?_) fun hc => ?_) <;> (try rw [beq_iff_eq] at hc) <;> try simp only [hc] | refine Call1_pure (hc) ?_ | refine finF hrel ?_ ?_ ?_) <;> try simp only [go_sem, *])
      | some k =>
        rw [hn] at hc
        rw [Ty.nodesL_some hn] at j7
        repeat' (first
          | exact hin _ | exact agf (by assumption)
          | (first | refine wp rfl ?_ | refine spt rfl ?_ | refine spf rfl ?_ | (refine spl (fun hc => ?_) fun hc => ?_) <;> (try rw [beq_iff_eq] at hc) <;> try simp only [hc] | refine AR_inv ?_ | refine Call1_pure (hc) ?_ | refine finF hrel ?_ ?_ ?_) <;> try simp only [go_sem, *])
        exact ⟨by repeat (first | assumption | refine Agree.new ?_ (hgf0 _ _)), _, rfl, j7⟩
    · have hd := lt_false hge
      obtain rfl : i = t.args.length := by omega
      rw [List.drop_length, Ty.nodesL_nil] at j7
      subst j7
      clear ih'
      repeat' (first
        | exact hin _ | exact agf (by assumption)
        | (first | refine wp rfl ?_ | refine spt rfl ?_ | refine spf rfl ?_ | (refine spl (fun hc => ?_) fun hc => ?_) <;> (try rw [beq_iff_eq] at hc) <;> try simp only [hc] | refine finF hrel ?_ ?_ ?_) <;> try simp only [go_sem, *])
end Go.Proofs.YtdbehnonmffhiaaGreatDoor
