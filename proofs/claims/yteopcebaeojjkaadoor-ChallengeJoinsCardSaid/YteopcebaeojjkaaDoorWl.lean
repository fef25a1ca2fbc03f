/-
  Walks: witnesses and challenges.
-/
import Derived.Test.YteopcebaeojjkaaDoorWk
set_option linter.unusedSimpArgs false
set_option linter.unusedVariables false
set_option maxRecDepth 20000
namespace Go.Proofs.YteopcebaeojjkaaDoor
open Go GoAbs Go.Proofs

theorem c_sized (a b : Ty) (ha : TyW a) (hb : TyW b) : Pure Tryd.prog env 76 [.agg (bothC a b)] (bothV (sized a b)) := by
  intro h
  have h1 := c_typesCheck a ha
  have h2 := c_typesCheck b hb
  have hin : ∀ S, InV S (bothV (sized a b)) := fun S => by simp [bothV, InV, InL, bothC_in]
  generalize hv : bothV (sized a b) = v at hin ⊢
  refine en Tryd.func76 [.cell 2 69, .tmp 3] rfl rfl fun g0 w0 gen hrel hfr hfr' hres => ?_
  repeat' (first
    | exact hin _ | exact agf (by assumption)
    | (first | refine wp rfl ?_ | refine spt rfl ?_ | refine spf rfl ?_ | (refine spl (fun hc => ?_) fun hc => ?_) <;> (try rw [beq_iff_eq] at hc) <;> try simp only [hc] | refine finF hrel ?_ ?_ ?_) <;> try simp only [go_sem, *])
  rw [Ty.cells_eq] at h1 h2
  refine AR_loop_nat (fun i σ => σ.tm 12 = .int .i64 i ∧ σ.tm 11 = .agg (bothC a b) ∧ σ.tm 1 = .ptr ⟨gen, 0, 0⟩ 0 ∧ σ.tm 2 = .ptr ⟨gen, 0, 1⟩ 0 ∧
    σ.h ⟨gen, 0, 0⟩ = some (.box (bothC a b)) ∧ σ.h ⟨gen, 0, 1⟩ = some (.box [.int .i64 0, .sl .full [], .int .i64 0, .sl .full []]) ∧ Agree h σ.h ∧ (1 ≤ i → tyErr a = 0) ∧ (2 ≤ i → tyErr b = 0)) 2 ?_ ?_
  · simp only [go_sem, *]
    first | exact ⟨rfl, rfl, by repeat (first | exact Agree.refl _ | assumption | refine Agree.new ?_ (hfr' _ _))⟩ | (refine ⟨rfl, rfl, ?_, by intro q; simp at q, by intro q; simp at q⟩; repeat (first | exact Agree.refl _ | assumption | refine Agree.new ?_ (hfr' _ _))) | trace_state
  intro i σ hi ⟨j1, j2, j3, j4, j5, j6, j8, j9, j10⟩
  rw [bothC] at j2
  refine AR_gen (fun gn hgn => ?_)
  have hgf := fresh_of hgn
  have hgf0 : ∀ r i, h ⟨gn, r, i⟩ = none := fun r i => agree_fresh j8 (hgf r i)
  have e1 := gen_ne hgn j5
  have e2 := gen_ne' hgn j5
  clear hgn
  have h02 : (0 : Int) < ((2 : Nat) : Int) := by decide
  have h12 : (1 : Int) < ((2 : Nat) : Int) := by decide
  have hd0 : decide ((0 : Int) < 2) = true := rfl
  have hd1 : decide ((1 : Int) < 2) = true := rfl
  have hd2 : decide ((2 : Int) < 2) = false := rfl
  obtain rfl | rfl | rfl : i = 0 ∨ i = 1 ∨ i = 2 := by omega
  · replace j1 : σ.tm 12 = .int .i64 0 := j1
    clear h2 j9 j10 hi
    cases he : (tyErr a != 0) with
    | true =>
      repeat' (first
        | exact hin _ | exact agf (by assumption)
        | (first | refine wp rfl ?_ | refine spt rfl ?_ | refine spf rfl ?_ | (refine spl (fun hc => ?_) fun hc => ?_) <;> (try rw [beq_iff_eq] at hc) <;> try simp only [hc] | refine cp (h1) ?_ | refine finF hrel ?_ ?_ ?_) <;> try simp only [go_sem, *])
      all_goals (clear h1; rw [← hv]; have he' : tyErr a ≠ 0 := by simpa using he
                 simp [bothV, sized, he', tZero, bothC, Ty.mk_kind, Ty.mk_args])
    | false =>
      have he' : tyErr a = 0 := by simpa using he
      clear he
      have hee : ((0 : Int) != 0) = false := rfl
      repeat' (first
        | (first | refine wp rfl ?_ | refine spt rfl ?_ | refine spf rfl ?_ | (refine spl (fun hc => ?_) fun hc => ?_) <;> (try rw [beq_iff_eq] at hc) <;> try simp only [hc] | refine cp (h1) ?_) <;> try simp only [go_sem, *])
      refine AR_inv ?_
      simp only [go_sem, *]
      first | exact ⟨rfl, rfl, by repeat (first | assumption | refine Agree.new ?_ (hgf0 _ _))⟩ | (refine ⟨rfl, rfl, ?_, ?_⟩; (repeat (first | assumption | refine Agree.new ?_ (hgf0 _ _))); intro q; first | assumption | simp at q) | trace_state
  · replace j1 : σ.tm 12 = .int .i64 1 := j1
    have ha' := j9 (by omega)
    clear h1 j9 j10 hi
    cases he : (tyErr b != 0) with
    | true =>
      repeat' (first
        | exact hin _ | exact agf (by assumption)
        | (first | refine wp rfl ?_ | refine spt rfl ?_ | refine spf rfl ?_ | (refine spl (fun hc => ?_) fun hc => ?_) <;> (try rw [beq_iff_eq] at hc) <;> try simp only [hc] | refine cp (h2) ?_ | refine finF hrel ?_ ?_ ?_) <;> try simp only [go_sem, *])
      all_goals (clear h2; rw [← hv]; have he' : tyErr b ≠ 0 := by simpa using he
                 simp [bothV, sized, he', ha', tZero, bothC, Ty.mk_kind, Ty.mk_args])
    | false =>
      have he' : tyErr b = 0 := by simpa using he
      clear he
      have hee : ((0 : Int) != 0) = false := rfl
      repeat' (first
        | (first | refine wp rfl ?_ | refine spt rfl ?_ | refine spf rfl ?_ | (refine spl (fun hc => ?_) fun hc => ?_) <;> (try rw [beq_iff_eq] at hc) <;> try simp only [hc] | refine cp (h2) ?_) <;> try simp only [go_sem, *])
      refine AR_inv ?_
      simp only [go_sem, *]
      first | exact ⟨rfl, rfl, by repeat (first | assumption | refine Agree.new ?_ (hgf0 _ _))⟩ | (refine ⟨rfl, rfl, ?_, ?_⟩; (repeat (first | assumption | refine Agree.new ?_ (hgf0 _ _))); intro q; first | assumption | simp at q) | trace_state
  · replace j1 : σ.tm 12 = .int .i64 2 := j1
    have ha' := j9 (by omega)
    have hb' := j10 (by omega)
    clear h1 h2 j9 j10 hi
    repeat' (first
      | exact hin _ | exact agf (by assumption)
      | (first | refine wp rfl ?_ | refine spt rfl ?_ | refine spf rfl ?_ | (refine spl (fun hc => ?_) fun hc => ?_) <;> (try rw [beq_iff_eq] at hc) <;> try simp only [hc] | refine finF hrel ?_ ?_ ?_) <;> try simp only [go_sem, *])
    all_goals (rw [← hv]; simp [bothV, sized, ha', hb', bothC])

end Go.Proofs.YteopcebaeojjkaaDoor
