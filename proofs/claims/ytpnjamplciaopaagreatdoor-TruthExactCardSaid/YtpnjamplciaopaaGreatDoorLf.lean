/-
 Walks: characteristic terms (the reference).
-/
import Derived.Test.YtpnjamplciaopaaGreatDoorHg
import Derived.Test.YtpnjamplciaopaaGreatDoorHj
import Derived.Test.YtpnjamplciaopaaGreatDoorGk
import Derived.Test.YtpnjamplciaopaaGreatDoorAbsDc
set_option linter.unusedSimpArgs false
set_option linter.unusedVariables false
set_option maxRecDepth 20000
set_option maxHeartbeats 4000000
namespace Go.Proofs.YtpnjamplciaopaaGreatDoor
open Go GoAbs Go.Proofs
attribute [go_sem] weakLL_app weakLL_cons' weakLL_nil' Option.map_none List.drop_zero Nat.zero_le Nat.le_refl take_map_len
theorem c_LargeFormula : ∀ t : Fm, FmW t → Pure Tryz.prog env 54 [.agg t.cells] (.bool (!t.least 268435456)) := by
 intro t
 induction t using Fm.ind with | h t ih => ?_
 intro ht h
 have hlen := ht.len
 have hlen2 := ht.tlen
 have hT : ∀ x ∈ t.terms, Pure Tryz.prog env 74 [.agg x.cells] (.bool (!x.least 268435456)) := fun x hx => c_Large x (ht.term hx)
 have ih' : ∀ x ∈ t.args, Pure Tryz.prog env 54 [.agg x.cells] (.bool (!x.least 268435456)) := fun x hx => ih x hx (ht.arg hx)
 clear ih
 have hv0 : (!(Tm.leastL 268435456 t.terms && Fm.leastL 268435456 t.args)) = !t.least 268435456 := by rw [t.least_eq]
 generalize hvv : (!t.least 268435456) = v at hv0 ⊢
 clear hvv
 refine en Tryz.func54 [.tmp 2] rfl rfl fun g0 w0 gen hrel hfr hfr' hres => ?_
 repeat' (first
  | exact hin _ | exact agf (by assumption)
  | (first | refine wp rfl ?_ | refine spt rfl ?_ | refine spf rfl ?_ | (refine spl (fun hc => ?_) fun hc => ?_) <;> (try rw [beq_iff_eq] at hc) <;> try simp only [hc] | refine finF hrel ?_ ?_ ?_) <;> try simp only [go_sem, *])
 refine AR_loop_nat (fun i σ => σ.tm 3 = .int .i64 i ∧ σ.tm 1 = .ptr ⟨gen, 0, 0⟩ 0 ∧
  σ.h ⟨gen, 0, 0⟩ = some (.box t.cells) ∧ Agree h σ.h ∧ (!(Tm.leastL 268435456 (t.terms.drop i) && Fm.leastL 268435456 t.args)) = v) t.terms.length ?_ ?_
 ·simp only [go_sem, *]
  exact ⟨rfl, by repeat (first | exact Agree.refl _ | assumption | refine Agree.new ?_ (hfr' _ _))⟩
 clear hv0
 intro i σ hi ⟨j1, j2, j4, j5, j7⟩
 refine AR_gen (fun gn hgn => ?_)
 have hgf := fresh_of hgn
 have hgf0 : ∀ r i, h ⟨gn, r, i⟩ = none := fun r i => agree_fresh j5 (hgf r i)
 have e1 := gen_ne hgn j4
 have e2 := gen_ne' hgn j4
 have hw := wrap_succ (i := i) (by omega)
 clear hgn
 rcases Nat.lt_or_ge i t.terms.length with hlt | hge
 ·have hd := lt_true hlt
  obtain ⟨x, hx⟩ : ∃ x, t.terms[i]? = some x := ⟨_, List.getElem?_eq_getElem hlt⟩
  rw [drop_get hx, Tm.leastL_cons] at j7
  have hc := hT x (List.mem_of_getElem? hx)
  clear ih' hT
  cases hn : x.least 268435456 with
  | false =>
   rw [hn, Bool.not_false] at hc
   rw [hn, Bool.false_and, Bool.false_and, Bool.not_false] at j7
   subst j7
   repeat' (first
    | exact hin _ | exact agf (by assumption)
    | (first | refine wp rfl ?_ | refine spt rfl ?_ | refine spf rfl ?_ | (refine spl (fun hc => ?_) fun hc => ?_) <;> (try rw [beq_iff_eq] at hc) <;> try simp only [hc] | refine cp (hc) ?_ | refine finF hrel ?_ ?_ ?_) <;> try simp only [go_sem, *])
  | true =>
   rw [hn, Bool.not_true] at hc
   rw [hn, Bool.true_and] at j7
   repeat' (first
    | exact hin _ | exact agf (by assumption)
    | (first | refine wp rfl ?_ | refine spt rfl ?_ | refine spf rfl ?_ | (refine spl (fun hc => ?_) fun hc => ?_) <;> (try rw [beq_iff_eq] at hc) <;> try simp only [hc] | refine AR_inv ?_ | refine cp (hc) ?_ | refine finF hrel ?_ ?_ ?_) <;> try simp only [go_sem, *])
 ·have hd := lt_false hge
  obtain rfl : i = t.terms.length := by omega
  rw [List.drop_length, Tm.leastL_nil, Bool.true_and] at j7
  clear hT
  repeat' (first
   | (first | refine wp rfl ?_ | refine spt rfl ?_ | refine spf rfl ?_ | (refine spl (fun hc => ?_) fun hc => ?_) <;> (try rw [beq_iff_eq] at hc) <;> try simp only [hc]) <;> try simp only [go_sem, *])
  have hgn := hgf
  refine AR_loop_nat (fun i σ => σ.tm 4 = .int .i64 i ∧ σ.tm 1 = .ptr ⟨gen, 0, 0⟩ 0 ∧
   σ.h ⟨gen, 0, 0⟩ = some (.box t.cells) ∧ Agree h σ.h ∧ (!Fm.leastL 268435456 (t.args.drop i)) = v) t.args.length ?_ ?_
  ·simp only [go_sem, *]
   rfl
  clear j7 j1 j2 j4 j5 hd hge hi hgn hgf hgf0
  intro i σ hi ⟨j1, j2, j4, j5, j7⟩
  refine AR_gen (fun gn hgn => ?_)
  have hgf := fresh_of hgn
  have hgf0 : ∀ r i, h ⟨gn, r, i⟩ = none := fun r i => agree_fresh j5 (hgf r i)
  have e1 := gen_ne hgn j4
  have e2 := gen_ne' hgn j4
  have hw := wrap_succ (i := i) (by omega)
  clear hgn
  rcases Nat.lt_or_ge i t.args.length with hlt | hge
  ·have hd := lt_true hlt
   obtain ⟨x, hx⟩ : ∃ x, t.args[i]? = some x := ⟨_, List.getElem?_eq_getElem hlt⟩
   rw [drop_get hx, Fm.leastL_cons] at j7
   have hc := ih' x (List.mem_of_getElem? hx)
   clear ih'
   cases hn : x.least 268435456 with
   | false =>
    rw [hn, Bool.not_false] at hc
    rw [hn, Bool.false_and, Bool.not_false] at j7
    subst j7
    repeat' (first
     | exact hin _ | exact agf (by assumption)
     | (first | refine wp rfl ?_ | refine spt rfl ?_ | refine spf rfl ?_ | (refine spl (fun hc => ?_) fun hc => ?_) <;> (try rw [beq_iff_eq] at hc) <;> try simp only [hc] | refine cp (hc) ?_ | refine finF hrel ?_ ?_ ?_) <;> try simp only [go_sem, *])
   | true =>
    rw [hn, Bool.not_true] at hc
    rw [hn, Bool.true_and] at j7
    repeat' (first
     | exact hin _ | exact agf (by assumption)
     | (first | refine wp rfl ?_ | refine spt rfl ?_ | refine spf rfl ?_ | (refine spl (fun hc => ?_) fun hc => ?_) <;> (try rw [beq_iff_eq] at hc) <;> try simp only [hc] | refine AR_inv ?_ | refine cp (hc) ?_ | refine finF hrel ?_ ?_ ?_) <;> try simp only [go_sem, *])
  ·have hd := lt_false hge
   obtain rfl : i = t.args.length := by omega
   rw [List.drop_length, Fm.leastL_nil, Bool.not_true] at j7
   subst j7
   clear ih'
   repeat' (first
    | exact hin _ | exact agf (by assumption)
    | (first | refine wp rfl ?_ | refine spt rfl ?_ | refine spf rfl ?_ | (refine spl (fun hc => ?_) fun hc => ?_) <;> (try rw [beq_iff_eq] at hc) <;> try simp only [hc] | refine finF hrel ?_ ?_ ?_) <;> try simp only [go_sem, *])
theorem c_r29Free : ∀ t : Fm, FmW t → Pure Tryz.prog env 53 [.agg t.cells] (.bool t.mfree) := by
 intro t
 induction t using Fm.ind with | h t ih => ?_
 intro ht h
 have hlen := ht.len
 have ih' : ∀ x ∈ t.args, Pure Tryz.prog env 53 [.agg x.cells] (.bool x.mfree) := fun x hx => ih x hx (ht.arg hx)
 clear ih
 have hv0 := t.mfree_eq.symm
 generalize t.mfree = v at hv0 ⊢
 cases k1 : decide (t.kind < 1) with
 | true =>
  have e : (t.kind == 1 || t.kind == 2 || t.kind == 3) = false := by simp at k1 ⊢; omega
  rw [e, Bool.false_and] at hv0
  subst hv0
  clear ih' e
  refine en Tryz.func53 [.tmp 2] rfl rfl fun g0 w0 gen hrel hfr hfr' hres => ?_
  repeat' (first
   | exact hin _ | exact agf (by assumption)
   | (first | refine wp rfl ?_ | refine spt rfl ?_ | refine spf rfl ?_ | (refine spl (fun hc => ?_) fun hc => ?_) <;> (try rw [beq_iff_eq] at hc) <;> try simp only [hc] | (refine gs (fun hb => ?_) fun hb => ?_) <;> try simp only [Bool.not_true, Bool.not_false] at hb | refine finF hrel ?_ ?_ ?_) <;> try simp only [go_sem, *])
 | false =>
 cases k3 : decide (t.kind > 3) with
 | true =>
  have e : (t.kind == 1 || t.kind == 2 || t.kind == 3) = false := by simp at k1 k3 ⊢; omega
  rw [e, Bool.false_and] at hv0
  subst hv0
  clear ih' e
  refine en Tryz.func53 [.tmp 2] rfl rfl fun g0 w0 gen hrel hfr hfr' hres => ?_
  repeat' (first
   | exact hin _ | exact agf (by assumption)
   | (first | refine wp rfl ?_ | refine spt rfl ?_ | refine spf rfl ?_ | (refine spl (fun hc => ?_) fun hc => ?_) <;> (try rw [beq_iff_eq] at hc) <;> try simp only [hc] | (refine gs (fun hb => ?_) fun hb => ?_) <;> try simp only [Bool.not_true, Bool.not_false] at hb | refine finF hrel ?_ ?_ ?_) <;> try simp only [go_sem, *])
 | false =>
 have e : (t.kind == 1 || t.kind == 2 || t.kind == 3) = true := by simp at k1 k3 ⊢; omega
 rw [e, Bool.true_and] at hv0
 clear e
 refine en Tryz.func53 [.tmp 2] rfl rfl fun g0 w0 gen hrel hfr hfr' hres => ?_
 repeat' (first
  | exact hin _ | exact agf (by assumption)
  | (first | refine wp rfl ?_ | refine spt rfl ?_ | refine spf rfl ?_ | (refine spl (fun hc => ?_) fun hc => ?_) <;> (try rw [beq_iff_eq] at hc) <;> try simp only [hc] | (refine gs (fun hb => ?_) fun hb => ?_) <;> try simp only [Bool.not_true, Bool.not_false] at hb | refine finF hrel ?_ ?_ ?_) <;> try simp only [go_sem, *])
 refine AR_loop_nat (fun i σ => σ.tm 3 = .int .i64 i ∧ σ.tm 1 = .ptr ⟨gen, 0, 0⟩ 0 ∧
  σ.h ⟨gen, 0, 0⟩ = some (.box t.cells) ∧ Agree h σ.h ∧ Fm.mfreeL (t.args.drop i) = v) t.args.length ?_ ?_
 ·simp only [go_sem, *]
  exact ⟨rfl, by repeat (first | exact Agree.refl _ | assumption | refine Agree.new ?_ (hfr' _ _))⟩
 clear hv0 k1 k3
 intro i σ hi ⟨j1, j2, j4, j5, j7⟩
 refine AR_gen (fun gn hgn => ?_)
 have hgf := fresh_of hgn
 have hgf0 : ∀ r i, h ⟨gn, r, i⟩ = none := fun r i => agree_fresh j5 (hgf r i)
 have e1 := gen_ne hgn j4
 have e2 := gen_ne' hgn j4
 have hw := wrap_succ (i := i) (by omega)
 clear hgn
 rcases Nat.lt_or_ge i t.args.length with hlt | hge
 ·have hd := lt_true hlt
  obtain ⟨x, hx⟩ : ∃ x, t.args[i]? = some x := ⟨_, List.getElem?_eq_getElem hlt⟩
  rw [drop_get hx, Fm.mfreeL_cons] at j7
  have hc := ih' x (List.mem_of_getElem? hx)
  clear ih'
  cases hn : x.mfree with
  | false =>
   rw [hn] at hc
   rw [hn, Bool.false_and] at j7
   subst j7
   repeat' (first
    | exact hin _ | exact agf (by assumption)
    | (first | refine wp rfl ?_ | refine spt rfl ?_ | refine spf rfl ?_ | (refine spl (fun hc => ?_) fun hc => ?_) <;> (try rw [beq_iff_eq] at hc) <;> try simp only [hc] | (refine gs (fun hb => ?_) fun hb => ?_) <;> try simp only [Bool.not_true, Bool.not_false] at hb | refine cp (hc) ?_ | refine finF hrel ?_ ?_ ?_) <;> try simp only [go_sem, *])
  | true =>
   rw [hn] at hc
   rw [hn, Bool.true_and] at j7
   repeat' (first
    | exact hin _ | exact agf (by assumption)
    | (first | refine wp rfl ?_ | refine spt rfl ?_ | refine spf rfl ?_ | (refine spl (fun hc => ?_) fun hc => ?_) <;> (try rw [beq_iff_eq] at hc) <;> try simp only [hc] | (refine gs (fun hb => ?_) fun hb => ?_) <;> try simp only [Bool.not_true, Bool.not_false] at hb | refine AR_inv ?_ | refine cp (hc) ?_ | refine finF hrel ?_ ?_ ?_) <;> try simp only [go_sem, *])
 ·have hd := lt_false hge
  obtain rfl : i = t.args.length := by omega
  rw [List.drop_length, Fm.mfreeL_nil] at j7
  subst j7
  clear ih'
  repeat' (first
   | exact hin _ | exact agf (by assumption)
   | (first | refine wp rfl ?_ | refine spt rfl ?_ | refine spf rfl ?_ | (refine spl (fun hc => ?_) fun hc => ?_) <;> (try rw [beq_iff_eq] at hc) <;> try simp only [hc] | (refine gs (fun hb => ?_) fun hb => ?_) <;> try simp only [Bool.not_true, Bool.not_false] at hb | refine finF hrel ?_ ?_ ?_) <;> try simp only [go_sem, *])
theorem c_r24Lam (t : Ty) (b : Tm) : Pure Tryz.prog env 121 [.agg t.cells, .agg b.cells] (.agg (tmT 2 t [b]).cells) := by
 intro h
 refine en Tryz.func121 [.cell 4 31] rfl rfl fun g0 w0 gen hrel hfr hfr' hres => ?_
 repeat' (first
  | exact hin _ | exact agf (by assumption)
  | (first | refine wp rfl ?_ | refine finF hrel ?_ ?_ ?_) <;> try simp only [go_sem, *])
 all_goals simp [tmT, Tm.mk_cells, Ty.mk_kind, Ty.mk_args]
theorem c_r24Up (t : Tm) (ht : TmW t) (b : Int) : Pure Tryz.prog env 122 [.agg t.cells, .int .i64 b] (.agg (tmLift t 0 b).1.cells) := by
 intro h
 have h1 := c_tmLift t ht 0 b
 generalize tmLift t 0 b = p at *
 obtain ⟨p1, p2⟩ := p
 unfold tmErrV at h1
 simp only at *
 clear ht
 refine en Tryz.func122 [.cell 4 31] rfl rfl fun g0 w0 gen hrel hfr hfr' hres => ?_
 repeat' (first
  | exact hin _ | exact agf (by assumption)
  | (first | refine wp rfl ?_ | refine cp (h1) ?_ | refine finF hrel ?_ ?_ ?_) <;> try simp only [go_sem, *])
theorem c_r30one : Pure Tryz.prog env 109 [] (.agg oneT.cells) := by
 intro h
 have h1 := c_r24Node 4 []
 have h2 := c_r24Node 5 [tm0 4 []]
 simp only [List.map_cons, List.map_nil] at h1 h2
 rw [show tm0 5 [tm0 4 []] = oneT from rfl] at h2
 refine en Tryz.func109 [.cell 0 31] rfl rfl fun g0 w0 gen hrel hfr hfr' hres => ?_
 repeat' (first
  | exact hin _ | exact agf (by assumption)
  | (first | refine wp rfl ?_ | refine cp (h1) ?_ | refine cp (h2) ?_ | refine finF hrel ?_ ?_ ?_) <;> try simp only [go_sem, *])
theorem c_r30cut (t : Tm) (ht : TmW t) : Pure Tryz.prog env 75 [.agg t.cells, .int .i64 0] (tmErrV (cutT t)) := by
 intro h
 have h1 := c_tmCheck t ht
 have hz : zeroT.cells = [.int .i64 0, .int .i64 0, .int .i64 0, .sl .any [], .sl .any []] := by simp [zeroT, Tm.mk_cells, Ty.mk_kind, Ty.mk_args]
 have n0 : ((0 : Int) != 0) = false := rfl
 unfold cutT
 clear ht
 cases q : (tmErr t != 0) with
 | true =>
  simp only [if_true, tmErrV]
  refine en Tryz.func75 [.cell 4 31, .tmp 5] rfl rfl fun g0 w0 gen hrel hfr hfr' hres => ?_
  repeat' (first
   | exact hin _ | exact agf (by assumption)
   | (first | refine wp rfl ?_ | refine spt rfl ?_ | refine spf rfl ?_ | (refine spl (fun hc => ?_) fun hc => ?_) <;> (try rw [beq_iff_eq] at hc) <;> try simp only [hc] | refine cp (h1) ?_ | refine finF hrel ?_ ?_ ?_) <;> try simp only [go_sem, *])
 | false =>
  simp only [Bool.false_eq_true, if_false, tmErrV]
  refine en Tryz.func75 [.cell 4 31, .tmp 5] rfl rfl fun g0 w0 gen hrel hfr hfr' hres => ?_
  repeat' (first
   | exact hin _ | exact agf (by assumption)
   | (first | refine wp rfl ?_ | refine spt rfl ?_ | refine spf rfl ?_ | (refine spl (fun hc => ?_) fun hc => ?_) <;> (try rw [beq_iff_eq] at hc) <;> try simp only [hc] | refine cp (h1) ?_ | refine finF hrel ?_ ?_ ?_) <;> try simp only [go_sem, *])
theorem c_r30choose (t : Ty) (c a b : Tm) (ha : TmW a) : Pure Tryz.prog env 76 [.agg t.cells, .agg c.cells, .agg a.cells, .agg b.cells] (.agg (chooseT t c (tmLift a 0 2).1 b).cells) := by
 intro h
 have h1 := c_ref23Nat
 have h2 := c_r24Up a ha 2
 generalize (tmLift a 0 2).1 = a' at *
 have h3 := c_r24Lam t a'
 have h4 := c_r24Lam tNat (tmT 2 t [a'])
 clear ha
 refine en Tryz.func76 [.cell 8 31] rfl rfl fun g0 w0 gen hrel hfr hfr' hres => ?_
 repeat' (first
  | (refine ⟨?_, ?_⟩; focus ((repeat' (first | refine And.intro ?_ ?_ | refine Or.inr ?_)); all_goals kernel_rfl))
  | exact hin _ | exact agf (by assumption)
  | (first | refine wp rfl ?_ | refine cp (h1) ?_ | refine cp (h2) ?_ | refine cp (h3) ?_ | refine cp (h4) ?_ | refine finF hrel ?_ ?_ ?_) <;> try simp only [go_sem, *])
 all_goals simp [chooseT, tmT, Tm.mk_cells, Ty.mk_kind, Ty.mk_args]
theorem c_r05app2 (f a b : Tm) (hf : TmW f) (ha : TmW a) (hb : TmW b) : Pure Tryz.prog env 149 [.agg f.cells, .agg a.cells, .agg b.cells] (.agg (tm0 3 [tm0 3 [f, a], b]).cells) := by
 intro h
 have h1 := c_N 3 [f, a] (by simp) (by simp [hf, ha])
 have h2 := c_N 3 [tm0 3 [f, a], b] (by simp) (by simp [tm0_W2 hf ha, hb])
 simp only [List.map_cons, List.map_nil] at h1 h2
 clear hf ha hb
 refine en Tryz.func149 [.cell 6 31] rfl rfl fun g0 w0 gen hrel hfr hfr' hres => ?_
 repeat' (first
  | (refine ⟨?_, ?_⟩; focus ((repeat' (first | refine And.intro ?_ ?_ | refine Or.inr ?_)); all_goals kernel_rfl))
  | exact hin _ | exact agf (by assumption)
  | (first | refine wp rfl ?_ | refine cp (h1) ?_ | refine cp (h2) ?_ | refine finF hrel ?_ ?_ ?_) <;> try simp only [go_sem, *])
theorem c_r05Dist : Pure Tryz.prog env 108 [] (.agg distT.cells) := by
 intro h
 refine en Tryz.func108 [.cell 0 31] rfl rfl fun g0 w0 gen hrel hfr hfr' hres => ?_
 repeat' (first
  | exact hin _ | exact agf (by assumption)
  | (first | refine wp rfl ?_ | refine cp (c_Plus) ?_ | refine cp (c_Sub) ?_ | refine cp (c_Var _) ?_ | refine cp (c_r05app2 _ _ _ (by repeat (first | assumption | exact tmVar_W _ | exact tm0_W0 | exact predT_W | exact plusT_W | exact subT_W | refine tm0_W1 ?_ | refine tm0_W2 ?_ ?_ | refine tm0_W3 ?_ ?_ ?_ | refine lamN_W ?_ | refine recN_W ?_ ?_ ?_)) (by repeat (first | assumption | exact tmVar_W _ | exact tm0_W0 | exact predT_W | exact plusT_W | exact subT_W | refine tm0_W1 ?_ | refine tm0_W2 ?_ ?_ | refine tm0_W3 ?_ ?_ ?_ | refine lamN_W ?_ | refine recN_W ?_ ?_ ?_)) (by repeat (first | assumption | exact tmVar_W _ | exact tm0_W0 | exact predT_W | exact plusT_W | exact subT_W | refine tm0_W1 ?_ | refine tm0_W2 ?_ ?_ | refine tm0_W3 ?_ ?_ ?_ | refine lamN_W ?_ | refine recN_W ?_ ?_ ?_))) ?_ | refine cp (c_lam _ (by repeat (first | assumption | exact tmVar_W _ | exact tm0_W0 | exact predT_W | exact plusT_W | exact subT_W | refine tm0_W1 ?_ | refine tm0_W2 ?_ ?_ | refine tm0_W3 ?_ ?_ ?_ | refine lamN_W ?_ | refine recN_W ?_ ?_ ?_))) ?_ | refine finF hrel ?_ ?_ ?_) <;> try simp only [go_sem, *])
 rfl
end Go.Proofs.YtpnjamplciaopaaGreatDoor
