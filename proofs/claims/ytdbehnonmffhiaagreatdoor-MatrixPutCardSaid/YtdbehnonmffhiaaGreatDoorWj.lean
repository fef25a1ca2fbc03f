/-
  Walks: counts of formulas, and their checks.
-/
import Derived.Test.YtdbehnonmffhiaaGreatDoorWi
set_option linter.unusedSimpArgs false
set_option linter.unusedVariables false
set_option maxRecDepth 20000
namespace Go.Proofs.YtdbehnonmffhiaaGreatDoor
open Go GoAbs Go.Proofs

def fmRest (o : Option Int) (a : List Fm) : Option Int := match o with | none => none | some n => Fm.nodesL n a
theorem fmRest_none (a : List Fm) : fmRest none a = none := rfl
theorem fmRest_some (n : Int) (a : List Fm) : fmRest (some n) a = Fm.nodesL n a := rfl

theorem c_formulaNodes : ∀ t : Fm, FmW t → Pure Tryz.prog env 122 [.agg t.cells] (optN t.nodes) := by
  intro t
  induction t using Fm.ind with | h t ih => ?_
  intro ht h
  have hlen := ht.len
  have hlen2 := ht.tlen
  have ih' : ∀ x ∈ t.args, Pure Tryz.prog env 122 [.agg x.cells] (optN x.nodes) := fun x hx => ih x hx (ht.arg hx)
  clear ih
  have hin : ∀ S, InV S (optN t.nodes) := fun S => by cases t.nodes <;> simp [optN, InV, InL]
  have hcf := c_formed t ht
  generalize hv : optN t.nodes = v at hin ⊢
  cases hf : formed t.kind t.type t.terms.length t.args.length with
  | false =>
    rw [hf] at hcf
    have hv' : optN none = v := by rw [← hv, Fm.nodes_eq, hf]; simp
    subst hv'
    clear ih' hv
    refine enter Tryz.func122 [.tmp 2, .tmp 3] rfl (by kernel_rfl) follows (by kernel_rfl) rfl fun g0 w0 gen hrel hfr hfr' hres => ?_
    repeat' (first
      | exact hin _ | exact agf (by assumption)
      | (first | refine wp rfl ?_ | refine spt rfl ?_ | refine spf rfl ?_ | (refine spl (fun hc => ?_) fun hc => ?_) <;> (try rw [beq_iff_eq] at hc) <;> try simp only [hc] | refine Call1_pure (hcf) ?_ | refine finF hrel ?_ ?_ ?_) <;> try simp only [go_sem, *])
  | true =>
  rw [hf] at hcf
  have hv' : optN (fmRest (Tm.nodesL 1 t.terms) t.args) = v := by rw [← hv, Fm.nodes_eq, hf]; rfl
  clear hv
  refine enter Tryz.func122 [.tmp 2, .tmp 3] rfl (by kernel_rfl) follows (by kernel_rfl) rfl fun g0 w0 gen hrel hfr hfr' hres => ?_
  repeat' (first
    | exact hin _ | exact agf (by assumption)
    | (first | refine wp rfl ?_ | refine spt rfl ?_ | refine spf rfl ?_ | (refine spl (fun hc => ?_) fun hc => ?_) <;> (try rw [beq_iff_eq] at hc) <;> try simp only [hc] | refine Call1_pure (hcf) ?_ | refine finF hrel ?_ ?_ ?_) <;> try simp only [go_sem, *])
  clear hcf
  refine AR_loop_nat (fun i σ => σ.tm 1 = .ptr ⟨gen, 0, 0⟩ 0 ∧ σ.tm 19 = .int .i64 i ∧ σ.tm 18 = .int .i64 t.terms.length ∧ σ.tm 17 = .sl .any (t.terms.map Tm.cells) ∧
    σ.h ⟨gen, 0, 0⟩ = some (.box t.cells) ∧ Agree h σ.h ∧ ∃ n, σ.tm 4 = .int .i64 n ∧ optN (fmRest (Tm.nodesL n (t.terms.drop i)) t.args) = v) t.terms.length ?_ ?_
  · simp only [go_sem, *]
    exact ⟨rfl, by repeat (first | exact Agree.refl _ | assumption | refine Agree.new ?_ (hfr' _ _)), _, rfl, hv'⟩
  clear hv'
  intro i σ hi ⟨j0, j1, j2, j3, j4, j5, n, j6, j7⟩
  refine AR_gen (fun gn hgn => ?_)
  have hgf := fresh_of hgn
  have hgf0 : ∀ r i, h ⟨gn, r, i⟩ = none := fun r i => agree_fresh j5 (hgf r i)
  have e1 := gen_ne hgn j4
  have e2 := gen_ne' hgn j4
  have hw := wrap_succ (i := i) (by omega)
  clear hgn
  rcases Nat.lt_or_ge i t.terms.length with hlt | hge
  · have hd := lt_true hlt
    obtain ⟨x, hx⟩ : ∃ x, t.terms[i]? = some x := ⟨_, List.getElem?_eq_getElem hlt⟩
    rw [drop_get hx] at j7
    have hc := c_termNodes x (ht.term (List.mem_of_getElem? hx))
    clear ih'
    cases hn : x.nodes with
    | none =>
      rw [hn] at hc
      rw [Tm.nodesL_none hn, fmRest_none] at j7
      subst j7
      repeat' (first
        | exact hin _ | exact agf (by assumption)
        | (first | refine wp rfl ?_ | refine spt rfl ?_ | refine spf rfl ?_ | (refine spl (fun hc => ?_) fun hc => ?_) <;> (try rw [beq_iff_eq] at hc) <;> try simp only [hc] | refine Call1_pure (hc) ?_ | refine finF hrel ?_ ?_ ?_) <;> try simp only [go_sem, *])
    | some k =>
      rw [hn] at hc
      rw [Tm.nodesL_some hn] at j7
      repeat' (first
        | exact hin _ | exact agf (by assumption)
        | (first | refine wp rfl ?_ | refine spt rfl ?_ | refine spf rfl ?_ | (refine spl (fun hc => ?_) fun hc => ?_) <;> (try rw [beq_iff_eq] at hc) <;> try simp only [hc] | refine AR_inv ?_ | refine Call1_pure (hc) ?_ | refine finF hrel ?_ ?_ ?_) <;> try simp only [go_sem, *])
      exact ⟨by repeat (first | assumption | refine Agree.new ?_ (hgf0 _ _)), _, rfl, j7⟩
  have hd := lt_false hge
  obtain rfl : i = t.terms.length := by omega
  rw [List.drop_length, Tm.nodesL_nil, fmRest_some] at j7
  have hv' := j7
  clear j7
  repeat' (first
    | exact hin _ | exact agf (by assumption)
    | (first | refine wp rfl ?_ | refine spt rfl ?_ | refine spf rfl ?_ | (refine spl (fun hc => ?_) fun hc => ?_) <;> (try rw [beq_iff_eq] at hc) <;> try simp only [hc] | refine finF hrel ?_ ?_ ?_) <;> try simp only [go_sem, *])
  refine AR_loop_nat (fun i σ => σ.tm 1 = .ptr ⟨gen, 0, 0⟩ 0 ∧ σ.tm 37 = .int .i64 i ∧ σ.tm 36 = .int .i64 t.args.length ∧ σ.tm 35 = .sl .any (t.args.map Fm.cells) ∧
    σ.h ⟨gen, 0, 0⟩ = some (.box t.cells) ∧ Agree h σ.h ∧ ∃ n, σ.tm 4 = .int .i64 n ∧ optN (Fm.nodesL n (t.args.drop i)) = v) t.args.length ?_ ?_
  · simp only [go_sem, *]
    exact ⟨rfl, _, rfl, hv'⟩
  clear j0 j1 j2 j3 j4 j5 j6 hv' hge hd hi e1 e2 hgf hgf0 hw
  clear σ
  intro i σ hi ⟨j0, j1, j2, j3, j4, j5, n, j6, j7⟩
  refine AR_gen (fun gn hgn => ?_)
  have hgf := fresh_of hgn
  have hgf0 : ∀ r i, h ⟨gn, r, i⟩ = none := fun r i => agree_fresh j5 (hgf r i)
  have e1 := gen_ne hgn j4
  have e2 := gen_ne' hgn j4
  have hw := wrap_succ (i := i) (by omega)
  clear hgn
  rcases Nat.lt_or_ge i t.args.length with hlt | hge
  · have hd := lt_true hlt
    obtain ⟨x, hx⟩ : ∃ x, t.args[i]? = some x := ⟨_, List.getElem?_eq_getElem hlt⟩
    rw [drop_get hx] at j7
    have hc := ih' x (List.mem_of_getElem? hx)
    clear ih'
    cases hn : x.nodes with
    | none =>
      rw [hn] at hc
      rw [Fm.nodesL_none hn] at j7
      subst j7
      repeat' (first
        | exact hin _ | exact agf (by assumption)
        | (first | refine wp rfl ?_ | refine spt rfl ?_ | refine spf rfl ?_ | (refine spl (fun hc => ?_) fun hc => ?_) <;> (try rw [beq_iff_eq] at hc) <;> try simp only [hc] | refine Call1_pure (hc) ?_ | refine finF hrel ?_ ?_ ?_) <;> try simp only [go_sem, *])
    | some k =>
      rw [hn] at hc
      rw [Fm.nodesL_some hn] at j7
      repeat' (first
        | exact hin _ | exact agf (by assumption)
        | (first | refine wp rfl ?_ | refine spt rfl ?_ | refine spf rfl ?_ | (refine spl (fun hc => ?_) fun hc => ?_) <;> (try rw [beq_iff_eq] at hc) <;> try simp only [hc] | refine AR_inv ?_ | refine Call1_pure (hc) ?_ | refine finF hrel ?_ ?_ ?_) <;> try simp only [go_sem, *])
      exact ⟨by repeat (first | assumption | refine Agree.new ?_ (hgf0 _ _)), _, rfl, j7⟩
  · have hd := lt_false hge
    obtain rfl : i = t.args.length := by omega
    rw [List.drop_length, Fm.nodesL_nil] at j7
    subst j7
    clear ih'
    repeat' (first
      | exact hin _ | exact agf (by assumption)
      | (first | refine wp rfl ?_ | refine spt rfl ?_ | refine spf rfl ?_ | (refine spl (fun hc => ?_) fun hc => ?_) <;> (try rw [beq_iff_eq] at hc) <;> try simp only [hc] | refine finF hrel ?_ ?_ ?_) <;> try simp only [go_sem, *])

theorem c_CheckFormula (t : Fm) (ht : FmW t) : Pure Tryz.prog env 106 [.agg t.cells] (two (chk 4096 t.nodes)) := by
  intro h
  have hc := c_formulaNodes t ht
  have hin : ∀ S, InV S (two (chk 4096 t.nodes)) := fun S => by simp [two, InV, InL]
  cases hn : t.nodes with
  | none =>
    rw [hn] at hc hin
    refine enter Tryz.func106 [.tmp 2, .tmp 3] rfl (by kernel_rfl) follows (by kernel_rfl) rfl fun g0 w0 gen hrel hfr hfr' hres => ?_
    repeat' (first
      | exact hin _ | exact agf (by assumption)
      | (first | refine wp rfl ?_ | refine spt rfl ?_ | refine spf rfl ?_ | (refine spl (fun hc => ?_) fun hc => ?_) <;> (try rw [beq_iff_eq] at hc) <;> try simp only [hc] | refine Call1_pure (hc) ?_ | refine finF hrel ?_ ?_ ?_) <;> try simp only [go_sem, *])
    all_goals simp [two, chk]
  | some n =>
    rw [hn] at hc hin
    refine enter Tryz.func106 [.tmp 2, .tmp 3] rfl (by kernel_rfl) follows (by kernel_rfl) rfl fun g0 w0 gen hrel hfr hfr' hres => ?_
    repeat' (first
      | exact hin _ | exact agf (by assumption)
      | (first | refine wp rfl ?_ | refine spt rfl ?_ | refine spf rfl ?_ | (refine spl (fun hc => ?_) fun hc => ?_) <;> (try rw [beq_iff_eq] at hc) <;> try simp only [hc] | refine Call1_pure (hc) ?_ | refine finF hrel ?_ ?_ ?_) <;> try simp only [go_sem, *])
    all_goals (try simp only [decide_eq_true_eq, decide_eq_false_iff_not] at *)
    all_goals first | (have hcn : ¬ 4096 < n := by omega); simp [two, chk, hcn] | (have hcn : 4096 < n := by omega); simp [two, chk, hcn]

theorem c_fmCheck (t : Fm) (ht : FmW t) : Pure Tryz.prog env 87 [.agg t.cells] (.int .i64 (fmErr t)) := by
  intro h
  have hc := c_CheckFormula t ht
  unfold two at hc
  refine enter Tryz.func87 [.tmp 2] rfl (by kernel_rfl) follows (by kernel_rfl) rfl fun g0 w0 gen hrel hfr hfr' hres => ?_
  repeat' (first
    | exact hin _ | exact agf (by assumption)
    | (first | refine wp rfl ?_ | refine Call1_pure (hc) ?_ | refine finF hrel ?_ ?_ ?_) <;> try simp only [go_sem, *])
  all_goals simp [fmErr]

end Go.Proofs.YtdbehnonmffhiaaGreatDoor
