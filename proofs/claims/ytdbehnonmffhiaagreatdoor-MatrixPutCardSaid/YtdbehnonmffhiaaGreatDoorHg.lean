/-
  Walks: the reference of witnesses and challenges.
-/
import Derived.Test.YtdbehnonmffhiaaGreatDoorWk
import Derived.Test.YtdbehnonmffhiaaGreatDoorVc
import Derived.Test.YtdbehnonmffhiaaGreatDoorAbsD
set_option linter.unusedSimpArgs false
set_option linter.unusedVariables false
set_option maxRecDepth 20000
set_option maxHeartbeats 4000000
namespace Go.Proofs.YtdbehnonmffhiaaGreatDoor
open Go GoAbs Go.Proofs

theorem c_r23Pair (a b : Ty) : Pure Tryz.prog env 121 [.agg a.cells, .agg b.cells] (.agg (tPair a b).cells) := by
  intro h
  refine enter Tryz.func121 [.cell 4 30] rfl (by kernel_rfl) follows (by kernel_rfl) rfl fun g0 w0 gen hrel hfr hfr' hres => ?_
  repeat' (first
    | exact hin _ | exact agf (by assumption)
    | (first | refine wp rfl ?_ | refine finF hrel ?_ ?_ ?_) <;> try simp only [go_sem, *])
  all_goals simp [tPair, Ty.mk_cells]

theorem c_r28none (t : Ty) : Pure Tryz.prog env 119 [.agg t.cells] (.bool (t.kind == 5)) := by
  intro h
  refine enter Tryz.func119 [.tmp 2] rfl (by kernel_rfl) follows (by kernel_rfl) rfl fun g0 w0 gen hrel hfr hfr' hres => ?_
  repeat' (first
    | exact hin _ | exact agf (by assumption)
    | (first | refine wp rfl ?_ | refine finF hrel ?_ ?_ ?_) <;> try simp only [go_sem, *])

theorem c_r28Pair (a b : Ty) : Pure Tryz.prog env 105 [.agg a.cells, .agg b.cells] (.agg (chPair a b).cells) := by
  intro h
  have hin : ∀ S, InV S (V.agg (chPair a b).cells) := fun S => by simp [InV, InL_Ty]
  have h1 := c_r28none a
  have h2 := c_r28none b
  have h3 := c_r23Pair a b
  unfold chPair at hin ⊢
  generalize tPair a b = p at *
  generalize (a.kind == 5) = q1 at *
  generalize (b.kind == 5) = q2 at *
  cases q1 <;> cases q2 <;> simp only [if_true, Bool.false_eq_true, if_false] at hin ⊢
  all_goals
    refine enter Tryz.func105 [.cell 4 30] rfl (by kernel_rfl) follows (by kernel_rfl) rfl fun g0 w0 gen hrel hfr hfr' hres => ?_
    repeat' (first
      | exact hin _ | exact agf (by assumption)
      | (first | refine wp rfl ?_ | refine spt rfl ?_ | refine spf rfl ?_ | (refine spl (fun hc => ?_) fun hc => ?_) <;> (try rw [beq_iff_eq] at hc) <;> try simp only [hc] | refine Call1_pure (h1) ?_ | refine Call1_pure (h2) ?_ | refine Call1_pure (h3) ?_ | refine finF hrel ?_ ?_ ?_) <;> try simp only [go_sem, *])

theorem c_r28Fun (a b : Ty) : Pure Tryz.prog env 104 [.agg a.cells, .agg b.cells] (.agg (chFun a b).cells) := by
  intro h
  have hin : ∀ S, InV S (V.agg (chFun a b).cells) := fun S => by simp [InV, InL_Ty]
  have h1 := c_r28none a
  have h2 := c_r28none b
  have h3 := c_ref23Fun a b
  have h4 := c_ref23Unit
  unfold chFun at hin ⊢
  generalize tFun a b = p at *
  generalize tUnit = u at *
  generalize (a.kind == 5) = q1 at *
  generalize (b.kind == 5) = q2 at *
  cases q1 <;> cases q2 <;> simp only [if_true, Bool.false_eq_true, if_false] at hin ⊢
  all_goals
    refine enter Tryz.func104 [.cell 4 30] rfl (by kernel_rfl) follows (by kernel_rfl) rfl fun g0 w0 gen hrel hfr hfr' hres => ?_
    repeat' (first
      | exact hin _ | exact agf (by assumption)
      | (first | refine wp rfl ?_ | refine spt rfl ?_ | refine spf rfl ?_ | (refine spl (fun hc => ?_) fun hc => ?_) <;> (try rw [beq_iff_eq] at hc) <;> try simp only [hc] | refine Call1_pure (h1) ?_ | refine Call1_pure (h2) ?_ | refine Call1_pure (h3) ?_ | refine Call1_pure (h4) ?_ | refine finF hrel ?_ ?_ ?_) <;> try simp only [go_sem, *])

theorem c_r28uniform : ∀ t : Fm, FmW t → Pure Tryz.prog env 84 [.agg t.cells] (.bool t.uni) := by
  intro t
  induction t using Fm.ind with | h t ih => ?_
  intro ht h
  have hlen := ht.len
  have ih' : ∀ x ∈ t.args, Pure Tryz.prog env 84 [.agg x.cells] (.bool x.uni) := fun x hx => ih x hx (ht.arg hx)
  clear ih
  generalize hv : t.uni = v
  cases hk : (t.kind == 6 || t.kind == 7) with
  | true =>
    have hv' : true = v := by rw [← hv, Fm.uni_eq, hk]; rfl
    subst hv'
    clear ih' hv
    refine enter Tryz.func84 [.tmp 2] rfl (by kernel_rfl) follows (by kernel_rfl) rfl fun g0 w0 gen hrel hfr hfr' hres => ?_
    repeat' (first
      | exact hin _ | exact agf (by assumption)
      | (first | refine wp rfl ?_ | refine spt rfl ?_ | refine spf rfl ?_ | (refine spl (fun hc => ?_) fun hc => ?_) <;> (try rw [beq_iff_eq] at hc) <;> try simp only [hc] | (refine guarded_split (fun hb => ?_) fun hb => ?_) <;> try simp only [Bool.not_true, Bool.not_false] at hb | refine finF hrel ?_ ?_ ?_) <;> try simp only [go_sem, *])
    all_goals (exfalso; simp_all; done)
  | false =>
  have hv' : Fm.uniL t.args = v := by rw [← hv, Fm.uni_eq, hk]; rfl
  have hk6 : (t.kind == 6) = false := by cases h6 : (t.kind == 6) <;> simp_all
  have hk7 : (t.kind == 7) = false := by cases h6 : (t.kind == 7) <;> simp_all
  clear hv hk
  refine enter Tryz.func84 [.tmp 2] rfl (by kernel_rfl) follows (by kernel_rfl) rfl fun g0 w0 gen hrel hfr hfr' hres => ?_
  repeat' (first
    | exact hin _ | exact agf (by assumption)
    | (first | refine wp rfl ?_ | refine spt rfl ?_ | refine spf rfl ?_ | (refine spl (fun hc => ?_) fun hc => ?_) <;> (try rw [beq_iff_eq] at hc) <;> try simp only [hc] | (refine guarded_split (fun hb => ?_) fun hb => ?_) <;> try simp only [Bool.not_true, Bool.not_false] at hb | refine finF hrel ?_ ?_ ?_) <;> try simp only [go_sem, *])
  refine AR_loop_nat (fun i σ => σ.tm 3 = .int .i64 i ∧ σ.tm 1 = .ptr ⟨gen, 0, 0⟩ 0 ∧
    σ.h ⟨gen, 0, 0⟩ = some (.box t.cells) ∧ Agree h σ.h ∧ Fm.uniL (t.args.drop i) = v) t.args.length ?_ ?_
  · simp only [go_sem, *]
    exact ⟨rfl, by repeat (first | exact Agree.refl _ | assumption | refine Agree.new ?_ (hfr' _ _))⟩
  clear hv' hk6 hk7
  intro i σ hi ⟨j1, j2, j4, j5, j7⟩
  refine AR_gen (fun gn hgn => ?_)
  have hgf := fresh_of hgn
  have hgf0 : ∀ r i, h ⟨gn, r, i⟩ = none := fun r i => agree_fresh j5 (hgf r i)
  have e1 := gen_ne hgn j4
  have e2 := gen_ne' hgn j4
  have hw := wrap_succ (i := i) (by omega)
  clear hgn
  rcases Nat.lt_or_ge i t.args.length with hlt | hge
  · have hd := lt_true hlt
    obtain ⟨x, hx⟩ : ∃ x, t.args[i]? = some x := ⟨_, List.getElem?_eq_getElem hlt⟩
    rw [drop_get hx, Fm.uniL_cons] at j7
    have hc := ih' x (List.mem_of_getElem? hx)
    clear ih'
    cases hn : x.uni with
    | true =>
      rw [hn] at hc
      rw [hn, Bool.true_or] at j7
      subst j7
      repeat' (first
        | exact hin _ | exact agf (by assumption)
        | (first | refine wp rfl ?_ | refine spt rfl ?_ | refine spf rfl ?_ | (refine spl (fun hc => ?_) fun hc => ?_) <;> (try rw [beq_iff_eq] at hc) <;> try simp only [hc] | (refine guarded_split (fun hb => ?_) fun hb => ?_) <;> try simp only [Bool.not_true, Bool.not_false] at hb | refine Call1_pure (hc) ?_ | refine finF hrel ?_ ?_ ?_) <;> try simp only [go_sem, *])
    | false =>
      rw [hn] at hc
      rw [hn, Bool.false_or] at j7
      repeat' (first
        | exact hin _ | exact agf (by assumption)
        | (first | refine wp rfl ?_ | refine spt rfl ?_ | refine spf rfl ?_ | (refine spl (fun hc => ?_) fun hc => ?_) <;> (try rw [beq_iff_eq] at hc) <;> try simp only [hc] | (refine guarded_split (fun hb => ?_) fun hb => ?_) <;> try simp only [Bool.not_true, Bool.not_false] at hb | refine AR_inv ?_ | refine Call1_pure (hc) ?_ | refine finF hrel ?_ ?_ ?_) <;> try simp only [go_sem, *])
  · have hd := lt_false hge
    obtain rfl : i = t.args.length := by omega
    rw [List.drop_length, Fm.uniL_nil] at j7
    subst j7
    clear ih'
    repeat' (first
      | exact hin _ | exact agf (by assumption)
      | (first | refine wp rfl ?_ | refine spt rfl ?_ | refine spf rfl ?_ | (refine spl (fun hc => ?_) fun hc => ?_) <;> (try rw [beq_iff_eq] at hc) <;> try simp only [hc] | (refine guarded_split (fun hb => ?_) fun hb => ?_) <;> try simp only [Bool.not_true, Bool.not_false] at hb | refine finF hrel ?_ ?_ ?_) <;> try simp only [go_sem, *])
end Go.Proofs.YtdbehnonmffhiaaGreatDoor
