/-
  Walks: formulas that are well made.
-/
import Derived.Test.YtdbehnonmffhiaaGreatDoorWh
set_option linter.unusedSimpArgs false
set_option linter.unusedVariables false
set_option maxRecDepth 20000
namespace Go.Proofs.YtdbehnonmffhiaaGreatDoor
open Go GoAbs Go.Proofs

theorem c_formed (t : Fm) (ht : FmW t) : Pure Tryz.prog env 126 [.agg t.cells] (.bool (formed t.kind t.type t.terms.length t.args.length)) := by
  intro h
  have hct := c_CheckType' t.type ht.ty
  generalize hv : formed t.kind t.type t.terms.length t.args.length = v
  refine enter Tryz.func126 [.tmp 2] rfl (by kernel_rfl) follows (by kernel_rfl) rfl fun g0 w0 gen hrel hfr hfr' hres => ?_
  repeat' (first
    | refine AR_cutB (id := 0) (fun σ => σ.tm 1 = .ptr ⟨gen, 0, 0⟩ 0 ∧ σ.h ⟨gen, 0, 0⟩ = some (.box t.cells) ∧ Agree h σ.h ∧ ∃ a b c, fmWant t.kind = some (a, b, c) ∧ σ.tm 3 = .int .i64 a ∧ σ.tm 4 = .int .i64 b ∧ σ.tm 5 = .bool c) ?_ ?_
    | refine AR_seq ?_ | refine AR_skip ?_ | refine AR_block ?_ | refine AR_block_end ?_ | refine AR_exit ?_ | refine AR_code_exit ?_ | refine AR_inv_exit ?_ | refine AR_block_hit ?_
    | refine AR_block_pass (by decide) ?_ | refine AR_ret ?_ | refine AR_fall ?_
    | (refine ⟨?_, ?_⟩; focus ((repeat' (first | (refine And.intro ?_ ?_) | (refine Or.inr ?_))); all_goals kernel_rfl))
    | refine AR_cond_t rfl ?_ | refine AR_cond_f rfl ?_ | (refine AR_cond rfl (fun hc => ?_) (fun hc => ?_) <;> (try rw [beq_iff_eq] at hc) <;> (try simp only [hc]))
    | ((first | refine AR_region ?_ | (refine guarded_split (fun hb => ?_) (fun hb => ?_) <;> (try simp only [Bool.not_true, Bool.not_false] at hb)) | refine AR_inv ?_ | refine AR_fin hrel (by first | exact hin _ | simp only [go_sem, and_self]) (by repeat (first | exact Agree.refl _ | assumption | refine Agree.new ?_ (hgf0 _ _) | refine Agree.new ?_ (hfr' _ _))) ?_) <;> simp only [go_sem, *]))
  all_goals first
    | exact ⟨.new (.refl _) (hfr' _ _), _, _, _, rfl, rfl, rfl, rfl⟩
    | (clear hct; rw [← hv]; simp_all [formed, fmWant]; done)
    | skip
  intro σ ⟨j1, j2, j3, a, b, c, hw, j4, j5, j6⟩
  have hv' : ((if c then tyErr t.type == 0 else noType t.type) && (t.terms.length : Int) == a && (t.args.length : Int) == b) = v := by rw [← hv]; simp [formed, hw]
  clear hv
  cases c with
  | true =>
    repeat' (first
      | exact hin _ | exact agf (by assumption)
      | (first | refine wp rfl ?_ | refine spt rfl ?_ | refine spf rfl ?_ | (refine spl (fun hc => ?_) fun hc => ?_) <;> (try rw [beq_iff_eq] at hc) <;> try simp only [hc] | (refine guarded_split (fun hb => ?_) fun hb => ?_) <;> try simp only [Bool.not_true, Bool.not_false] at hb | refine Call1_pure (hct) ?_ | refine finF hrel ?_ ?_ ?_) <;> try simp only [go_sem, *])
    all_goals (clear hct; subst hv'; simp_all; done)
  | false =>
    clear hct
    repeat' (first
      | exact hin _ | exact agf (by assumption)
      | (first | refine wp rfl ?_ | refine spt rfl ?_ | refine spf rfl ?_ | (refine spl (fun hc => ?_) fun hc => ?_) <;> (try rw [beq_iff_eq] at hc) <;> try simp only [hc] | (refine guarded_split (fun hb => ?_) fun hb => ?_) <;> try simp only [Bool.not_true, Bool.not_false] at hb | refine Call1_pure (c_NoType _) ?_ | refine finF hrel ?_ ?_ ?_) <;> try simp only [go_sem, *])
    all_goals (subst hv'; simp_all; done)

end Go.Proofs.YtdbehnonmffhiaaGreatDoor
