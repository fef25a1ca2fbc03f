/-
  Walks: witnesses and challenges.
-/
import Derived.Test.YteopcebaeojjkaaDoorMb
import Derived.Test.YteopcebaeojjkaaDoorMa
set_option linter.unusedSimpArgs false
set_option linter.unusedVariables false
set_option maxRecDepth 20000
namespace Go.Proofs.YteopcebaeojjkaaDoor
open Go GoAbs Go.Proofs

theorem c_uniform : ∀ t : Fm, FmW t → Pure Tryd.prog env 64 [.agg t.cells] (.bool t.uni) := by
  intro t
  induction t using Fm.ind with | h t ih => ?_
  intro ht h
  have hlen := ht.len
  have ih' : ∀ x ∈ t.args, Pure Tryd.prog env 64 [.agg x.cells] (.bool x.uni) := fun x hx => ih x hx (ht.arg hx)
  clear ih
  generalize hv : t.uni = v
  cases hk : (t.kind == 6 || t.kind == 7) with
  | true =>
    have hv' : true = v := by rw [← hv, Fm.uni_eq, hk]; rfl
    subst hv'
    clear ih' hv
    refine en Tryd.func64 [.tmp 2] rfl rfl fun g0 w0 gen hrel hfr hfr' hres => ?_
    repeat' (first
      | exact hin _ | exact agf (by assumption)
      | (first | refine wp rfl ?_ | refine spt rfl ?_ | refine spf rfl ?_ | (refine spl (fun hc => ?_) fun hc => ?_) <;> (try rw [beq_iff_eq] at hc) <;> try simp only [hc] | (refine gs (fun hb => ?_) fun hb => ?_) <;> try simp only [Bool.not_true, Bool.not_false] at hb | refine finF hrel ?_ ?_ ?_) <;> try simp only [go_sem, *])
    all_goals (exfalso; simp_all; done)
  | false =>
  have hv' : Fm.uniL t.args = v := by rw [← hv, Fm.uni_eq, hk]; rfl
  have hk6 : (t.kind == 6) = false := by cases h6 : (t.kind == 6) <;> simp_all
  have hk7 : (t.kind == 7) = false := by cases h6 : (t.kind == 7) <;> simp_all
  clear hv hk
  refine en Tryd.func64 [.tmp 2] rfl rfl fun g0 w0 gen hrel hfr hfr' hres => ?_
  repeat' (first
    | exact hin _ | exact agf (by assumption)
    | (first | refine wp rfl ?_ | refine spt rfl ?_ | refine spf rfl ?_ | (refine spl (fun hc => ?_) fun hc => ?_) <;> (try rw [beq_iff_eq] at hc) <;> try simp only [hc] | (refine gs (fun hb => ?_) fun hb => ?_) <;> try simp only [Bool.not_true, Bool.not_false] at hb | refine finF hrel ?_ ?_ ?_) <;> try simp only [go_sem, *])
  refine AR_loop_nat (fun i σ => σ.tm 16 = .int .i64 i ∧ σ.tm 15 = .int .i64 t.args.length ∧ σ.tm 14 = .sl .any (t.args.map Fm.cells) ∧
    σ.h ⟨gen, 0, 0⟩ = some (.box t.cells) ∧ Agree h σ.h ∧ Fm.uniL (t.args.drop i) = v) t.args.length ?_ ?_
  · simp only [go_sem, *]
    exact ⟨rfl, by repeat (first | exact Agree.refl _ | assumption | refine Agree.new ?_ (hfr' _ _))⟩
  clear hv' hk6 hk7
  intro i σ hi ⟨j1, j2, j3, j4, j5, j7⟩
  refine AR_gen (fun gn hgn => ?_)
  have hgf := fresh_of hgn
  have hgf0 : ∀ r i, h ⟨gn, r, i⟩ = none := fun r i => agree_fresh j5 (hgf r i)
  have e1 := gen_ne hgn j4
  have e2 := gen_ne' hgn j4
  have hw := wrap_succ (i := i) (by omega)
  clear hgn
  rcases Nat.lt_or_ge i t.args.length with hlt | hge
  · have hd := lt_true hlt
    obtain ⟨x, hx⟩ : ∃ x, t.args[i]? = some x := ⟨_, List.getElem?_eq_getElem hlt⟩
    rw [drop_get hx, Fm.uniL_cons] at j7
    have hc := ih' x (List.mem_of_getElem? hx)
    clear ih'
    cases hn : x.uni with
    | true =>
      rw [hn] at hc
      rw [hn, Bool.true_or] at j7
      subst j7
      repeat' (first
        | exact hin _ | exact agf (by assumption)
        | (first | refine wp rfl ?_ | refine spt rfl ?_ | refine spf rfl ?_ | (refine spl (fun hc => ?_) fun hc => ?_) <;> (try rw [beq_iff_eq] at hc) <;> try simp only [hc] | (refine gs (fun hb => ?_) fun hb => ?_) <;> try simp only [Bool.not_true, Bool.not_false] at hb | refine cp (hc) ?_ | refine finF hrel ?_ ?_ ?_) <;> try simp only [go_sem, *])
    | false =>
      rw [hn] at hc
      rw [hn, Bool.false_or] at j7
      repeat' (first
        | exact hin _ | exact agf (by assumption)
        | (first | refine wp rfl ?_ | refine spt rfl ?_ | refine spf rfl ?_ | (refine spl (fun hc => ?_) fun hc => ?_) <;> (try rw [beq_iff_eq] at hc) <;> try simp only [hc] | (refine gs (fun hb => ?_) fun hb => ?_) <;> try simp only [Bool.not_true, Bool.not_false] at hb | refine AR_inv ?_ | refine cp (hc) ?_ | refine finF hrel ?_ ?_ ?_) <;> try simp only [go_sem, *])
      repeat (first | assumption | refine Agree.new ?_ (hgf0 _ _))
  · have hd := lt_false hge
    obtain rfl : i = t.args.length := by omega
    rw [List.drop_length, Fm.uniL_nil] at j7
    subst j7
    clear ih'
    repeat' (first
      | exact hin _ | exact agf (by assumption)
      | (first | refine wp rfl ?_ | refine spt rfl ?_ | refine spf rfl ?_ | (refine spl (fun hc => ?_) fun hc => ?_) <;> (try rw [beq_iff_eq] at hc) <;> try simp only [hc] | (refine gs (fun hb => ?_) fun hb => ?_) <;> try simp only [Bool.not_true, Bool.not_false] at hb | refine finF hrel ?_ ?_ ?_) <;> try simp only [go_sem, *])

end Go.Proofs.YteopcebaeojjkaaDoor
