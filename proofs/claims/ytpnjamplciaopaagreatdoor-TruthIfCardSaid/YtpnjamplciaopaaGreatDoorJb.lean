/-
 Walks: normalization and matching of typed terms in a context; matching of formulas (references).
-/
import Derived.Test.YtpnjamplciaopaaGreatDoorJa
import Derived.Test.YtpnjamplciaopaaGreatDoorGm
import Derived.Test.YtpnjamplciaopaaGreatDoorVd
import Derived.Test.YtpnjamplciaopaaGreatDoorAbsDc
set_option linter.unusedSimpArgs false
set_option linter.unusedVariables false
set_option maxRecDepth 20000
set_option maxHeartbeats 4000000
namespace Go.Proofs.YtpnjamplciaopaaGreatDoor
open Go GoAbs Go.Proofs
/-- What Normal answers. -/
def normW (p : Tm × Int × Int) : V := .tup [.agg p.1.cells, .int .i64 p.2.1, .int .i64 p.2.2]
theorem zT_cellsJ : zeroT.cells = [.int .i64 0, .int .i64 0, .int .i64 0, .sl .any [], .sl .any []] := by simp [zeroT, Tm.mk_cells, Ty.mk_kind, Ty.mk_args]
theorem c_NormalG {g : List Ty} (hg : g.length ≤ 5000) {s : Ty} (t : Tm) (hT : HasTy TyG g t s) (hG : TmG t) (hz : tmSz t ≤ 4096) (hw : TmW t) :
  Pure Tryz.prog env 85 [.agg t.cells, .int .i64 1000] (normW (norm t)) := by
 intro h
 have h1 := c_tmCheck t hw
 rw [hG.err0 hz] at h1
 have h2 := c_tmLeast 536870912 t hw
 rw [hT.least 536870912 (by omega) (by omega)] at h2
 have n0 : ((0 : Int) != 0) = false := rfl
 have d1 : decide ((1000 : Int) < 0) = false := rfl
 have d2 : decide ((1000 : Int) > 65536) = false := rfl
 have hnn := norm_eq t
 have hin : ∀ S, InV S (normW (norm t)) := fun S => by simp [normW, InV, InL, InL_Tm]
 generalize norm t = r at hnn hin ⊢
 refine en Tryz.func85 [.cell 4 31, .tmp 5, .tmp 6] rfl rfl fun g0 w0 gen hrel hfr hfr' hres => ?_
 repeat' (first
  | (refine ⟨?_, ?_⟩; focus ((repeat' (first | refine And.intro ?_ ?_ | refine Or.inr ?_)); all_goals kernel_rfl))
  | (first | refine wp rfl ?_ | refine spt rfl ?_ | refine spf rfl ?_ | (refine spl (fun hc => ?_) fun hc => ?_) <;> (try rw [beq_iff_eq] at hc) <;> try simp only [hc] | (refine gs (fun hb => ?_) fun hb => ?_) <;> try simp only [Bool.not_true, Bool.not_false] at hb | refine cp (h1) ?_ | refine cp (h2) ?_) <;> try simp only [go_sem, *])
 refine AR_loop_nat (fun i σ => σ.tm 8 = .int .i64 i ∧ σ.tm 1 = .int .i64 1000 ∧ σ.tm 2 = .ptr ⟨gen, 0, 0⟩ 0 ∧ σ.tm 4 = .ptr ⟨gen, 0, 1⟩ 0 ∧
  σ.h ⟨gen, 0, 1⟩ = some (.box [.int .i64 0, .int .i64 0, .int .i64 0, .sl .full [], .sl .full []]) ∧ Agree h σ.h ∧ i ≤ 1000 ∧
  ∃ t' : Tm, σ.h ⟨gen, 0, 0⟩ = some (.box t'.cells) ∧ HasTy TyG g t' s ∧ TmG t' ∧ tmSz t' ≤ 4096 ∧ TmW t' ∧ normN 1000 (1001 - i) i t' = some r) 1001 ?_ ?_
 ·simp only [go_sem, *]
  exact ⟨rfl, (by repeat (first | exact Agree.refl _ | assumption | refine Agree.new ?_ (hgf0 _ _) | refine Agree.new ?_ (hfr' _ _))), t, rfl, hT, hG, hz, hw, hnn⟩
 clear h1 h2 hT hG hz hw hnn
 intro i σ hi ⟨j1, j2, j3, j4, j5, jA, j6, t', j7, j8, j9, j10, j11, j12⟩
 refine AR_gen2 (fun gn hgl hgn => ?_)
 have hgf := fresh_of hgn
 have hgf0 : ∀ r i, h ⟨gn, r, i⟩ = none := fun r i => agree_fresh jA (hgf r i)
 have eg1 := gen_lt hgl
 have eg2 := gen_lt' hgl
 clear hgn
 have hc := c_tmCount t' j11
 rw [j9.szW (by omega)] at hc
 have hw1 : IntKind.i64.wrap (4096 - (tmSz t' : Int)) = 4096 - (tmSz t' : Int) := wrap_eq rfl (by omega) (by omega)
 have hw2 := wrap_succ (i := i) (by omega)
 have hN := c_next t' j9 j11 ⟨_, _, j8⟩ (4096 - (tmSz t' : Int))
 have wn := nx_W (gr := Tm.grow) (room := 4096 - (tmSz t' : Int)) t' j11
 have hcp := c_tmCopy t' j11
 have hf : 1001 - i = (1000 - i) + 1 := by omega
 rw [hf, normN] at j12
 have a1 := nx_ty (gr := Tm.grow) (room := 4096 - (tmSz t' : Int)) j8 (by omega)
 have a2 := nx_good (room := 4096 - (tmSz t' : Int)) j8 j9 (by omega)
 generalize hp : t'.nx Tm.grow (4096 - (tmSz t' : Int)) = p at *
 obtain ⟨x, found, fits⟩ := p
 simp only at j12 hN wn a1 a2
 cases found with
 | false =>
  simp only [Bool.not_false, if_true, Option.some.injEq] at j12
  subst j12
  unfold normW at hin ⊢
  clear a1 a2 hp
  repeat' (first
   | (refine ⟨?_, ?_⟩; focus ((repeat' (first | refine And.intro ?_ ?_ | refine Or.inr ?_)); all_goals kernel_rfl))
   | exact hin _ | exact agf (by assumption)
   | (first | refine wp rfl ?_ | refine spt rfl ?_ | refine spf rfl ?_ | (refine spl (fun hc => ?_) fun hc => ?_) <;> (try rw [beq_iff_eq] at hc) <;> try simp only [hc] | (refine gs (fun hb => ?_) fun hb => ?_) <;> try simp only [Bool.not_true, Bool.not_false] at hb | refine cp (hc) ?_ | refine cp (hN) ?_ | refine cp (hcp) ?_ | refine finF hrel ?_ ?_ ?_) <;> try simp only [go_sem, *])
 | true =>
 simp only [Bool.not_true, Bool.false_eq_true, if_false] at j12
 cases k1 : ((i : Int) == 1000) with
 | true =>
  rw [k1] at j12
  simp only [if_true, Option.some.injEq] at j12
  subst j12
  have hz := zT_cellsJ
  unfold normW at hin ⊢
  simp only [hz] at hin ⊢
  clear a1 a2 hp
  repeat' (first
   | (refine ⟨?_, ?_⟩; focus ((repeat' (first | refine And.intro ?_ ?_ | refine Or.inr ?_)); all_goals kernel_rfl))
   | exact hin _ | exact agf (by assumption)
   | (first | refine wp rfl ?_ | refine spt rfl ?_ | refine spf rfl ?_ | (refine spl (fun hc => ?_) fun hc => ?_) <;> (try rw [beq_iff_eq] at hc) <;> try simp only [hc] | (refine gs (fun hb => ?_) fun hb => ?_) <;> try simp only [Bool.not_true, Bool.not_false] at hb | refine cp (hc) ?_ | refine cp (hN) ?_ | refine finF hrel ?_ ?_ ?_) <;> try simp only [go_sem, *])
 | false =>
 rw [k1] at j12
 simp only [Bool.false_eq_true, if_false] at j12
 cases fits with
 | false =>
  simp only [Bool.not_false, if_true, Option.some.injEq] at j12
  subst j12
  have hz := zT_cellsJ
  unfold normW at hin ⊢
  simp only [hz] at hin ⊢
  clear a1 a2 hp
  repeat' (first
   | (refine ⟨?_, ?_⟩; focus ((repeat' (first | refine And.intro ?_ ?_ | refine Or.inr ?_)); all_goals kernel_rfl))
   | exact hin _ | exact agf (by assumption)
   | (first | refine wp rfl ?_ | refine spt rfl ?_ | refine spf rfl ?_ | (refine spl (fun hc => ?_) fun hc => ?_) <;> (try rw [beq_iff_eq] at hc) <;> try simp only [hc] | (refine gs (fun hb => ?_) fun hb => ?_) <;> try simp only [Bool.not_true, Bool.not_false] at hb | refine cp (hc) ?_ | refine cp (hN) ?_ | refine finF hrel ?_ ?_ ?_) <;> try simp only [go_sem, *])
 | true =>
  simp only [Bool.not_true, Bool.false_eq_true, if_false] at j12
  have b1 := a1 rfl
  obtain ⟨b2, b3⟩ := a2 rfl
  have hi2 : i + 1 ≤ 1000 := by simp at k1; omega
  have hf2 : 1001 - (i + 1) = 1000 - i := by omega
  have hi3 : i < 1001 := by omega
  clear a1 a2 hp
  repeat' (first
   | (refine ⟨?_, ?_⟩; focus ((repeat' (first | refine And.intro ?_ ?_ | refine Or.inr ?_)); all_goals kernel_rfl))
   | (first | refine wp rfl ?_ | refine spt rfl ?_ | refine spf rfl ?_ | (refine spl (fun hc => ?_) fun hc => ?_) <;> (try rw [beq_iff_eq] at hc) <;> try simp only [hc] | (refine gs (fun hb => ?_) fun hb => ?_) <;> try simp only [Bool.not_true, Bool.not_false] at hb | refine cp (hc) ?_ | refine cp (hN) ?_ | refine AR_inv ?_) <;> try simp only [go_sem, *])
  exact ⟨by repeat (first | exact jA | refine Agree.new ?_ (hgf0 _ _) | refine Agree.new ?_ (hfr' _ _)), x, rfl, b1, b2, by omega, wn, by simpa using j12⟩
theorem c_MatchG {g : List Ty} (hg : g.length ≤ 5000) {s s' : Ty} (a b : Tm) (ta : HasTy TyG g a s) (tb : HasTy TyG g b s') (ga : TmG a) (gb : TmG b) (za : tmSz a ≤ 4096) (zb : tmSz b ≤ 4096) (wa : TmW a) (wb : TmW b) :
  Pure Tryz.prog env 34 [.agg a.cells, .agg b.cells, .int .i64 1000] (.int .i64 (matchN 11 a b)) := by
 intro h
 have h1 := c_tmCheck a wa
 have h2 := c_tmCheck b wb
 have h3 := c_refTmSame a wa b wb
 have h4 := c_refTmSame _ (norm_W wa) _ (norm_W wb)
 have hA := c_NormalG hg a ta ga za wa
 have hB := c_NormalG hg b tb gb zb wb
 rw [ga.err0 za] at h1
 rw [gb.err0 zb] at h2
 have n0 : ((0 : Int) != 0) = false := rfl
 unfold matchN
 unfold normW at hA hB
 clear wa wb ta tb ga gb za zb
 generalize norm a = p at *
 generalize norm b = q at *
 obtain ⟨x, m, e⟩ := p
 obtain ⟨y, n, e'⟩ := q
 simp only at hA hB h4 ⊢
 cases k1 : Tm.same a b with
 | true =>
  rw [k1] at h3
  simp only [if_true]
  clear hA hB h4
  refine en Tryz.func34 [.tmp 6] rfl rfl fun g0 w0 gen hrel hfr hfr' hres => ?_
  repeat' (first
   | exact hin _ | exact agf (by assumption)
   | (first | refine wp rfl ?_ | refine spt rfl ?_ | refine spf rfl ?_ | (refine spl (fun hc => ?_) fun hc => ?_) <;> (try rw [beq_iff_eq] at hc) <;> try simp only [hc] | refine cp (h1) ?_ | refine cp (h2) ?_ | refine cp (h3) ?_ | refine finF hrel ?_ ?_ ?_) <;> try simp only [go_sem, *])
 | false =>
 rw [k1] at h3
 simp only [Bool.false_eq_true, if_false]
 cases k2 : (e != 0) with
 | true =>
  simp only [if_true]
  clear hB h4
  refine en Tryz.func34 [.tmp 6] rfl rfl fun g0 w0 gen hrel hfr hfr' hres => ?_
  repeat' (first
   | exact hin _ | exact agf (by assumption)
   | (first | refine wp rfl ?_ | refine spt rfl ?_ | refine spf rfl ?_ | (refine spl (fun hc => ?_) fun hc => ?_) <;> (try rw [beq_iff_eq] at hc) <;> try simp only [hc] | refine cp (h1) ?_ | refine cp (h2) ?_ | refine cp (h3) ?_ | refine cp (hA) ?_ | refine finF hrel ?_ ?_ ?_) <;> try simp only [go_sem, *])
 | false =>
 simp only [Bool.false_eq_true, if_false]
 cases k3 : (e' != 0) with
 | true =>
  simp only [if_true]
  clear h4
  refine en Tryz.func34 [.tmp 6] rfl rfl fun g0 w0 gen hrel hfr hfr' hres => ?_
  repeat' (first
   | exact hin _ | exact agf (by assumption)
   | (first | refine wp rfl ?_ | refine spt rfl ?_ | refine spf rfl ?_ | (refine spl (fun hc => ?_) fun hc => ?_) <;> (try rw [beq_iff_eq] at hc) <;> try simp only [hc] | refine cp (h1) ?_ | refine cp (h2) ?_ | refine cp (h3) ?_ | refine cp (hA) ?_ | refine cp (hB) ?_ | refine finF hrel ?_ ?_ ?_) <;> try simp only [go_sem, *])
 | false =>
  simp only [Bool.false_eq_true, if_false]
  cases k4 : Tm.same x y
  all_goals
   rw [k4] at h4
   simp only [Bool.not_true, Bool.not_false, if_true, Bool.false_eq_true, if_false]
   refine en Tryz.func34 [.tmp 6] rfl rfl fun g0 w0 gen hrel hfr hfr' hres => ?_
   repeat' (first
    | exact hin _ | exact agf (by assumption)
    | (first | refine wp rfl ?_ | refine spt rfl ?_ | refine spf rfl ?_ | (refine spl (fun hc => ?_) fun hc => ?_) <;> (try rw [beq_iff_eq] at hc) <;> try simp only [hc] | refine cp (h1) ?_ | refine cp (h2) ?_ | refine cp (h3) ?_ | refine cp (h4) ?_ | refine cp (hA) ?_ | refine cp (hB) ?_ | refine finF hrel ?_ ?_ ?_) <;> try simp only [go_sem, *])
end Go.Proofs.YtpnjamplciaopaaGreatDoor
