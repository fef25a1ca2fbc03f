/-
 Walks: normalization and matching of typed terms in a context; matching of formulas (references).
-/
import Derived.Test.YteopcebaeojjkaaGreatDoorJa
import Derived.Test.YteopcebaeojjkaaGreatDoorGm
import Derived.Test.YteopcebaeojjkaaGreatDoorVd
import Derived.Test.YteopcebaeojjkaaGreatDoorAbsDd
set_option linter.unusedSimpArgs false
set_option linter.unusedVariables false
set_option maxRecDepth 20000
set_option maxHeartbeats 4000000
namespace Go.Proofs.YteopcebaeojjkaaGreatDoor
open Go GoAbs Go.Proofs
/-- What Normal answers. -/
def normW (p : Tm × Int × Int) : V := .tup [.agg p.1.cells, .int .i64 p.2.1, .int .i64 p.2.2]
theorem zT_cellsJ : zeroT.cells = [.int .i64 0, .int .i64 0, .int .i64 0, .sl .any [], .sl .any []] := by simp [zeroT, Tm.mk_cells, Ty.mk_kind, Ty.mk_args]
theorem c_NormalG {g : List Ty} (hg : g.length ≤ 5000) {s : Ty} (t : Tm) (hT : HasTy TyG g t s) (hG : TmG t) (hz : tmSz t ≤ 4096) (hw : TmW t) :
  Pure Tryz.prog env 51 [.agg t.cells, .int .i64 1000] (normW (norm t)) := by
 intro h
 have h1 := c_tmCheck t hw
 rw [hG.err0 hz] at h1
 have h2 := c_tmLeast 536870912 t hw
 rw [hT.least 536870912 (by omega) (by omega)] at h2
 have n0 : ((0 : Int) != 0) = false := rfl
 have d1 : decide ((1000 : Int) < 0) = false := rfl
 have d2 : decide ((1000 : Int) > 65536) = false := rfl
 have hnn := norm_eq t
 have hin : ∀ S, InV S (normW (norm t)) := fun S => by simp [normW, InV, InL, InL_Tm]
 generalize norm t = r at hnn hin ⊢
 refine en Tryz.func51 [.cell 4 31, .tmp 5, .tmp 6] rfl rfl fun g0 w0 gen hrel hfr hfr' hres => ?_
 repeat' (first
  | (refine ⟨?_, ?_⟩; focus ((repeat' (first | refine And.intro ?_ ?_ | refine Or.inr ?_)); all_goals kernel_rfl))
  | (first | refine wp rfl ?_ | refine spt rfl ?_ | refine spf rfl ?_ | (refine spl (fun hc => ?_) fun hc => ?_) <;> (try rw [beq_iff_eq] at hc) <;> try simp only [hc] | (refine gs (fun hb => ?_) fun hb => ?_) <;> try simp only [Bool.not_true, Bool.not_false] at hb | refine cp (h1) ?_ | refine cp (h2) ?_) <;> try simp only [go_sem, *])
 refine AR_loop_nat (fun i σ => σ.tm 8 = .int .i64 i ∧ σ.tm 1 = .int .i64 1000 ∧ σ.tm 2 = .ptr ⟨gen, 0, 0⟩ 0 ∧ σ.tm 4 = .ptr ⟨gen, 0, 1⟩ 0 ∧
  σ.h ⟨gen, 0, 1⟩ = some (.box [.int .i64 0, .int .i64 0, .int .i64 0, .sl .full [], .sl .full []]) ∧ Agree h σ.h ∧ i ≤ 1000 ∧
  ∃ t' : Tm, σ.h ⟨gen, 0, 0⟩ = some (.box t'.cells) ∧ HasTy TyG g t' s ∧ TmG t' ∧ tmSz t' ≤ 4096 ∧ TmW t' ∧ normN 1000 (1001 - i) i t' = some r) 1001 ?_ ?_
 ·simp only [go_sem, *]
  exact ⟨rfl, (by repeat (first | exact Agree.refl _ | assumption | refine Agree.new ?_ (hgf0 _ _) | refine Agree.new ?_ (hfr' _ _))), t, rfl, hT, hG, hz, hw, hnn⟩
 clear h1 h2 hT hG hz hw hnn
 intro i σ hi ⟨j1, j2, j3, j4, j5, jA, j6, t', j7, j8, j9, j10, j11, j12⟩
 refine AR_gen2 (fun gn hgl hgn => ?_)
 have hgf := fresh_of hgn
 have hgf0 : ∀ r i, h ⟨gn, r, i⟩ = none := fun r i => agree_fresh jA (hgf r i)
 have eg1 := gen_lt hgl
 have eg2 := gen_lt' hgl
 clear hgn
 have hc := c_tmCount t' j11
 rw [j9.szW (by omega)] at hc
 have hw1 : IntKind.i64.wrap (4096 - (tmSz t' : Int)) = 4096 - (tmSz t' : Int) := wrap_eq rfl (by omega) (by omega)
 have hw2 := wrap_succ (i := i) (by omega)
 have hN := c_next t' j9 j11 ⟨_, _, j8⟩ (4096 - (tmSz t' : Int))
 have wn := nx_W (gr := Tm.grow) (room := 4096 - (tmSz t' : Int)) t' j11
 have hcp := c_tmCopy t' j11
 have hf : 1001 - i = (1000 - i) + 1 := by omega
 rw [hf, normN] at j12
 have a1 := nx_ty (gr := Tm.grow) (room := 4096 - (tmSz t' : Int)) j8 (by omega)
 have a2 := nx_good (room := 4096 - (tmSz t' : Int)) j8 j9 (by omega)
 generalize hp : t'.nx Tm.grow (4096 - (tmSz t' : Int)) = p at *
 obtain ⟨x, found, fits⟩ := p
 simp only at j12 hN wn a1 a2
 cases found with
 | false =>
  simp only [Bool.not_false, if_true, Option.some.injEq] at j12
  subst j12
  unfold normW at hin ⊢
  clear a1 a2 hp
  repeat' (first
   | (refine ⟨?_, ?_⟩; focus ((repeat' (first | refine And.intro ?_ ?_ | refine Or.inr ?_)); all_goals kernel_rfl))
   | exact hin _ | exact agf (by assumption)
   | (first | refine wp rfl ?_ | refine spt rfl ?_ | refine spf rfl ?_ | (refine spl (fun hc => ?_) fun hc => ?_) <;> (try rw [beq_iff_eq] at hc) <;> try simp only [hc] | (refine gs (fun hb => ?_) fun hb => ?_) <;> try simp only [Bool.not_true, Bool.not_false] at hb | refine cp (hc) ?_ | refine cp (hN) ?_ | refine cp (hcp) ?_ | refine finF hrel ?_ ?_ ?_) <;> try simp only [go_sem, *])
 | true =>
 simp only [Bool.not_true, Bool.false_eq_true, if_false] at j12
 cases k1 : ((i : Int) == 1000) with
 | true =>
  rw [k1] at j12
  simp only [if_true, Option.some.injEq] at j12
  subst j12
  have hz := zT_cellsJ
  unfold normW at hin ⊢
  simp only [hz] at hin ⊢
  clear a1 a2 hp
  repeat' (first
   | (refine ⟨?_, ?_⟩; focus ((repeat' (first | refine And.intro ?_ ?_ | refine Or.inr ?_)); all_goals kernel_rfl))
   | exact hin _ | exact agf (by assumption)
   | (first | refine wp rfl ?_ | refine spt rfl ?_ | refine spf rfl ?_ | (refine spl (fun hc => ?_) fun hc => ?_) <;> (try rw [beq_iff_eq] at hc) <;> try simp only [hc] | (refine gs (fun hb => ?_) fun hb => ?_) <;> try simp only [Bool.not_true, Bool.not_false] at hb | refine cp (hc) ?_ | refine cp (hN) ?_ | refine finF hrel ?_ ?_ ?_) <;> try simp only [go_sem, *])
 | false =>
 rw [k1] at j12
 simp only [Bool.false_eq_true, if_false] at j12
 cases fits with
 | false =>
  simp only [Bool.not_false, if_true, Option.some.injEq] at j12
  subst j12
  have hz := zT_cellsJ
  unfold normW at hin ⊢
  simp only [hz] at hin ⊢
  clear a1 a2 hp
  repeat' (first
   | (refine ⟨?_, ?_⟩; focus ((repeat' (first | refine And.intro ?_ ?_ | refine Or.inr ?_)); all_goals kernel_rfl))
   | exact hin _ | exact agf (by assumption)
   | (first | refine wp rfl ?_ | refine spt rfl ?_ | refine spf rfl ?_ | (refine spl (fun hc => ?_) fun hc => ?_) <;> (try rw [beq_iff_eq] at hc) <;> try simp only [hc] | (refine gs (fun hb => ?_) fun hb => ?_) <;> try simp only [Bool.not_true, Bool.not_false] at hb | refine cp (hc) ?_ | refine cp (hN) ?_ | refine finF hrel ?_ ?_ ?_) <;> try simp only [go_sem, *])
 | true =>
  simp only [Bool.not_true, Bool.false_eq_true, if_false] at j12
  have b1 := a1 rfl
  obtain ⟨b2, b3⟩ := a2 rfl
  have hi2 : i + 1 ≤ 1000 := by simp at k1; omega
  have hf2 : 1001 - (i + 1) = 1000 - i := by omega
  have hi3 : i < 1001 := by omega
  clear a1 a2 hp
  repeat' (first
   | (refine ⟨?_, ?_⟩; focus ((repeat' (first | refine And.intro ?_ ?_ | refine Or.inr ?_)); all_goals kernel_rfl))
   | (first | refine wp rfl ?_ | refine spt rfl ?_ | refine spf rfl ?_ | (refine spl (fun hc => ?_) fun hc => ?_) <;> (try rw [beq_iff_eq] at hc) <;> try simp only [hc] | (refine gs (fun hb => ?_) fun hb => ?_) <;> try simp only [Bool.not_true, Bool.not_false] at hb | refine cp (hc) ?_ | refine cp (hN) ?_ | refine AR_inv ?_) <;> try simp only [go_sem, *])
  exact ⟨by repeat (first | exact jA | refine Agree.new ?_ (hgf0 _ _) | refine Agree.new ?_ (hfr' _ _)), x, rfl, b1, b2, by omega, wn, by simpa using j12⟩
theorem c_MatchG {g : List Ty} (hg : g.length ≤ 5000) {s s' : Ty} (a b : Tm) (ta : HasTy TyG g a s) (tb : HasTy TyG g b s') (ga : TmG a) (gb : TmG b) (za : tmSz a ≤ 4096) (zb : tmSz b ≤ 4096) (wa : TmW a) (wb : TmW b) :
  Pure Tryz.prog env 174 [.agg a.cells, .agg b.cells, .int .i64 1000] (.int .i64 (matchN 11 a b)) := by
 intro h
 have h1 := c_tmCheck a wa
 have h2 := c_tmCheck b wb
 have h3 := c_refTmSame a wa b wb
 have h4 := c_refTmSame _ (norm_W wa) _ (norm_W wb)
 have hA := c_NormalG hg a ta ga za wa
 have hB := c_NormalG hg b tb gb zb wb
 rw [ga.err0 za] at h1
 rw [gb.err0 zb] at h2
 have n0 : ((0 : Int) != 0) = false := rfl
 unfold matchN
 unfold normW at hA hB
 clear wa wb ta tb ga gb za zb
 generalize norm a = p at *
 generalize norm b = q at *
 obtain ⟨x, m, e⟩ := p
 obtain ⟨y, n, e'⟩ := q
 simp only at hA hB h4 ⊢
 cases k1 : Tm.same a b with
 | true =>
  rw [k1] at h3
  simp only [if_true]
  clear hA hB h4
  refine en Tryz.func174 [.tmp 6] rfl rfl fun g0 w0 gen hrel hfr hfr' hres => ?_
  repeat' (first
   | exact hin _ | exact agf (by assumption)
   | (first | refine wp rfl ?_ | refine spt rfl ?_ | refine spf rfl ?_ | (refine spl (fun hc => ?_) fun hc => ?_) <;> (try rw [beq_iff_eq] at hc) <;> try simp only [hc] | refine cp (h1) ?_ | refine cp (h2) ?_ | refine cp (h3) ?_ | refine finF hrel ?_ ?_ ?_) <;> try simp only [go_sem, *])
 | false =>
 rw [k1] at h3
 simp only [Bool.false_eq_true, if_false]
 cases k2 : (e != 0) with
 | true =>
  simp only [if_true]
  clear hB h4
  refine en Tryz.func174 [.tmp 6] rfl rfl fun g0 w0 gen hrel hfr hfr' hres => ?_
  repeat' (first
   | exact hin _ | exact agf (by assumption)
   | (first | refine wp rfl ?_ | refine spt rfl ?_ | refine spf rfl ?_ | (refine spl (fun hc => ?_) fun hc => ?_) <;> (try rw [beq_iff_eq] at hc) <;> try simp only [hc] | refine cp (h1) ?_ | refine cp (h2) ?_ | refine cp (h3) ?_ | refine cp (hA) ?_ | refine finF hrel ?_ ?_ ?_) <;> try simp only [go_sem, *])
 | false =>
 simp only [Bool.false_eq_true, if_false]
 cases k3 : (e' != 0) with
 | true =>
  simp only [if_true]
  clear h4
  refine en Tryz.func174 [.tmp 6] rfl rfl fun g0 w0 gen hrel hfr hfr' hres => ?_
  repeat' (first
   | exact hin _ | exact agf (by assumption)
   | (first | refine wp rfl ?_ | refine spt rfl ?_ | refine spf rfl ?_ | (refine spl (fun hc => ?_) fun hc => ?_) <;> (try rw [beq_iff_eq] at hc) <;> try simp only [hc] | refine cp (h1) ?_ | refine cp (h2) ?_ | refine cp (h3) ?_ | refine cp (hA) ?_ | refine cp (hB) ?_ | refine finF hrel ?_ ?_ ?_) <;> try simp only [go_sem, *])
 | false =>
  simp only [Bool.false_eq_true, if_false]
  cases k4 : Tm.same x y
  all_goals
   rw [k4] at h4
   simp only [Bool.not_true, Bool.not_false, if_true, Bool.false_eq_true, if_false]
   refine en Tryz.func174 [.tmp 6] rfl rfl fun g0 w0 gen hrel hfr hfr' hres => ?_
   repeat' (first
    | exact hin _ | exact agf (by assumption)
    | (first | refine wp rfl ?_ | refine spt rfl ?_ | refine spf rfl ?_ | (refine spl (fun hc => ?_) fun hc => ?_) <;> (try rw [beq_iff_eq] at hc) <;> try simp only [hc] | refine cp (h1) ?_ | refine cp (h2) ?_ | refine cp (h3) ?_ | refine cp (h4) ?_ | refine cp (hA) ?_ | refine cp (hB) ?_ | refine finF hrel ?_ ?_ ?_) <;> try simp only [go_sem, *])
def lim0 (e : Int) : Prop := e = 0 ∨ e = 4 ∨ e = 5
theorem first_lim {P : Nat → Int → Prop} : ∀ n : Nat, (∀ i, i < n → ∃ e, lim0 e ∧ P i e) → (∀ i, i < n → P i 0) ∨ ∃ j e, j < n ∧ e ≠ 0 ∧ lim0 e ∧ P j e ∧ ∀ i, i < j → P i 0
 | 0, _ => .inl fun i h => by omega
 | n + 1, h => by
  rcases first_lim n (fun i hi => h i (by omega)) with h1 | ⟨j, e, h1, h2⟩
  ·obtain ⟨e, he, hp⟩ := h n (by omega)
   by_cases h0 : e = 0
   ·subst h0
    left; intro i hi
    rcases Nat.lt_or_ge i n with h' | h'
    ·exact h1 i h'
    ·obtain rfl : i = n := by omega
     exact hp
   ·exact .inr ⟨n, e, by omega, h0, he, hp, h1⟩
  ·exact .inr ⟨j, e, by omega, h2⟩
theorem c_match1 (F F' : Fm) (hw : FmW F) (hw' : FmW F') (hk : F'.kind = F.kind) (ht : F'.type = F.type) (hl1 : F'.terms.length = F.terms.length) (hl2 : F'.args.length = F.args.length)
  (h1 : ∀ i, i < F.terms.length → ∃ e, lim0 e ∧ ∀ x x', F.terms[i]? = some x → F'.terms[i]? = some x' → Pure Tryz.prog env 174 [.agg x.cells, .agg x'.cells, .int .i64 1000] (.int .i64 e))
  (h2 : ∀ i, i < F.args.length → ∃ e, lim0 e ∧ ∀ x x', F.args[i]? = some x → F'.args[i]? = some x' → Pure Tryz.prog env 123 [.agg x.cells, .agg x'.cells] (.int .i64 e)) :
  ∃ e, lim0 e ∧ Pure Tryz.prog env 123 [.agg F.cells, .agg F'.cells] (.int .i64 e) := by
 have hlen := hw.len
 have hlen2 := hw.tlen
 have hS := c_refSame F.type hw.ty F.type hw.ty
 rw [Ty.same_refl] at hS
 have n0 : ((0 : Int) != 0) = false := rfl
 have hkk : (F.kind != F.kind) = false := by simp
 clear hw hw'
 rcases first_lim _ h1 with a1 | ⟨j, e, hj, e0, el, hb, hgd⟩
 ·clear h1
  rcases first_lim _ h2 with a2 | ⟨j, e, hj, e0, el, hb, hgd⟩
  ·clear h2
   refine ⟨0, .inl rfl, fun h => ?_⟩
   refine en Tryz.func123 [.tmp 4] rfl rfl fun g0 w0 gen hrel hfr hfr' hres => ?_
   repeat' (first
    | (refine ⟨?_, ?_⟩; focus ((repeat' (first | refine And.intro ?_ ?_ | refine Or.inr ?_)); all_goals kernel_rfl))
    | exact hin _ | exact agf (by assumption)
    | (first | refine wp rfl ?_ | refine spt rfl ?_ | refine spf rfl ?_ | (refine spl (fun hc => ?_) fun hc => ?_) <;> (try rw [beq_iff_eq] at hc) <;> try simp only [hc] | (refine gs (fun hb => ?_) fun hb => ?_) <;> try simp only [Bool.not_true, Bool.not_false] at hb | refine cp (hS) ?_ | refine finF hrel ?_ ?_ ?_) <;> try simp only [go_sem, *])
   refine AR_range [2, 3] [⟨gen, 0, 0⟩, ⟨gen, 0, 1⟩] (fun i σ => Agree h σ.h ∧ True) (F.terms).length (by first | omega | (simp only [go_sem, *] <;> omega)) ⟨rfl, rfl, rfl⟩ rfl (by simp only [go_sem, *]) (by simp only [go_sem, *]) ?_ (by intro i σ t v ht hK; simp only [List.mem_cons, List.not_mem_nil, or_false] at ht; rcases ht with rfl | rfl | rfl <;> exact hK) ?_ ?_
   ·simp only [go_sem, *]
    exact (by repeat (first | exact Agree.refl _ | assumption | refine Agree.new ?_ (hgf0 _ _) | refine Agree.new ?_ (hfr' _ _)))
   ·
    intro i σ gr0 hgl_gr0 hgn hlt jI jN jS ⟨jA, _⟩
    obtain ⟨jT, jB⟩ := jS
    simp only [go_sem] at jT jB
    have hgf := fresh_of hgn
    have hgf0 : ∀ r i, h ⟨gr0, r, i⟩ = none := fun r i => agree_fresh jA (hgf r i)
    have eg_gen_gr0 := gen_lt (show gen < gr0 by omega)
    have eh_gen_gr0 := gen_lt' (show gen < gr0 by omega)
    obtain ⟨x, hx⟩ : ∃ x, (F.terms)[i]? = some x := ⟨_, List.getElem?_eq_getElem hlt⟩
    have hxm := List.mem_of_getElem? hx
    have hm := min_lt hlt
    clear hgn
    obtain ⟨x', hx'⟩ : ∃ x', F'.terms[i]? = some x' := ⟨_, List.getElem?_eq_getElem (by omega)⟩
    have hc := a1 i hlt x x' hx hx'
    clear a1 a2
    repeat' (first
     | (refine ⟨?_, ?_⟩; focus ((repeat' (first | refine And.intro ?_ ?_ | refine Or.inr ?_)); all_goals kernel_rfl))
     | (first | refine wp rfl ?_ | refine spt rfl ?_ | refine spf rfl ?_ | (refine spl (fun hc => ?_) fun hc => ?_) <;> (try rw [beq_iff_eq] at hc) <;> try simp only [hc] | (refine gs (fun hb => ?_) fun hb => ?_) <;> try simp only [Bool.not_true, Bool.not_false] at hb | refine cp (hc) ?_ | refine AR_inv ?_) <;> try simp only [go_sem, *])
    all_goals (repeat (first | exact jA | refine Agree.new ?_ (hgf0 _ _)))
   ·clear a1
    intro σ ga0 hgl_ga0 hgn jS ⟨jA, _⟩
    obtain ⟨jT, jB⟩ := jS
    simp only [go_sem] at jT jB
    have hgf := fresh_of hgn
    have hgf0 : ∀ r i, h ⟨ga0, r, i⟩ = none := fun r i => agree_fresh jA (hgf r i)
    have eg_gen_ga0 := gen_lt (show gen < ga0 by omega)
    have eh_gen_ga0 := gen_lt' (show gen < ga0 by omega)
    clear hgn
    repeat' (first
     | (refine ⟨?_, ?_⟩; focus ((repeat' (first | refine And.intro ?_ ?_ | refine Or.inr ?_)); all_goals kernel_rfl))
     | (first | refine wp rfl ?_ | refine spt rfl ?_ | refine spf rfl ?_ | (refine spl (fun hc => ?_) fun hc => ?_) <;> (try rw [beq_iff_eq] at hc) <;> try simp only [hc] | (refine gs (fun hb => ?_) fun hb => ?_) <;> try simp only [Bool.not_true, Bool.not_false] at hb) <;> try simp only [go_sem, *])
    refine AR_range [2, 3] [⟨gen, 0, 0⟩, ⟨gen, 0, 1⟩] (fun i σ => Agree h σ.h ∧ True) (F.args).length (by first | omega | (simp only [go_sem, *] <;> omega)) ⟨rfl, rfl, rfl⟩ rfl (by simp only [go_sem, *]) (by simp only [go_sem, *]) ?_ (by intro i σ t v ht hK; simp only [List.mem_cons, List.not_mem_nil, or_false] at ht; rcases ht with rfl | rfl | rfl <;> exact hK) ?_ ?_
    ·simp only [go_sem, *]
     first | done | exact (by repeat (first | exact Agree.refl _ | assumption | refine Agree.new ?_ (hgf0 _ _) | refine Agree.new ?_ (hfr' _ _))) | exact ⟨(by repeat (first | exact Agree.refl _ | assumption | refine Agree.new ?_ (hgf0 _ _) | refine Agree.new ?_ (hfr' _ _))), jA⟩ | exact jA
    ·
     intro i σ gr1 hgl_gr1 hgn hlt jI jN jS ⟨jA, _⟩
     obtain ⟨jT, jB⟩ := jS
     simp only [go_sem] at jT jB
     have hgf := fresh_of hgn
     have hgf0 : ∀ r i, h ⟨gr1, r, i⟩ = none := fun r i => agree_fresh jA (hgf r i)
     have eg_gen_gr1 := gen_lt (show gen < gr1 by omega)
     have eh_gen_gr1 := gen_lt' (show gen < gr1 by omega)
     have eg_ga0_gr1 := gen_lt (show ga0 < gr1 by omega)
     have eh_ga0_gr1 := gen_lt' (show ga0 < gr1 by omega)
     obtain ⟨x, hx⟩ : ∃ x, (F.args)[i]? = some x := ⟨_, List.getElem?_eq_getElem hlt⟩
     have hxm := List.mem_of_getElem? hx
     have hm := min_lt hlt
     clear hgn
     obtain ⟨x', hx'⟩ : ∃ x', F'.args[i]? = some x' := ⟨_, List.getElem?_eq_getElem (by omega)⟩
     have hc := a2 i hlt x x' hx hx'
     clear a2
     repeat' (first
      | (refine ⟨?_, ?_⟩; focus ((repeat' (first | refine And.intro ?_ ?_ | refine Or.inr ?_)); all_goals kernel_rfl))
      | (first | refine wp rfl ?_ | refine spt rfl ?_ | refine spf rfl ?_ | (refine spl (fun hc => ?_) fun hc => ?_) <;> (try rw [beq_iff_eq] at hc) <;> try simp only [hc] | (refine gs (fun hb => ?_) fun hb => ?_) <;> try simp only [Bool.not_true, Bool.not_false] at hb | refine cp (hc) ?_ | refine AR_inv ?_) <;> try simp only [go_sem, *])
     all_goals (repeat (first | exact jA | refine Agree.new ?_ (hgf0 _ _)))
    ·clear a2
     intro σ ga1 hgl_ga1 hgn jS ⟨jA, _⟩
     obtain ⟨jT, jB⟩ := jS
     simp only [go_sem] at jT jB
     have hgf := fresh_of hgn
     have hgf0 : ∀ r i, h ⟨ga1, r, i⟩ = none := fun r i => agree_fresh jA (hgf r i)
     have eg_gen_ga1 := gen_lt (show gen < ga1 by omega)
     have eh_gen_ga1 := gen_lt' (show gen < ga1 by omega)
     have eg_ga0_ga1 := gen_lt (show ga0 < ga1 by omega)
     have eh_ga0_ga1 := gen_lt' (show ga0 < ga1 by omega)
     clear hgn
     repeat' (first
      | (refine ⟨?_, ?_⟩; focus ((repeat' (first | refine And.intro ?_ ?_ | refine Or.inr ?_)); all_goals kernel_rfl))
      | exact hin _ | exact agf (by assumption)
      | (first | refine wp rfl ?_ | refine spt rfl ?_ | refine spf rfl ?_ | (refine spl (fun hc => ?_) fun hc => ?_) <;> (try rw [beq_iff_eq] at hc) <;> try simp only [hc] | (refine gs (fun hb => ?_) fun hb => ?_) <;> try simp only [Bool.not_true, Bool.not_false] at hb | refine finF hrel ?_ ?_ ?_) <;> try simp only [go_sem, *])
  ·clear h2
   refine ⟨e, el, fun h => ?_⟩
   have eN : (e != 0) = true := by simpa using e0
   refine en Tryz.func123 [.tmp 4] rfl rfl fun g0 w0 gen hrel hfr hfr' hres => ?_
   repeat' (first
    | (refine ⟨?_, ?_⟩; focus ((repeat' (first | refine And.intro ?_ ?_ | refine Or.inr ?_)); all_goals kernel_rfl))
    | exact hin _ | exact agf (by assumption)
    | (first | refine wp rfl ?_ | refine spt rfl ?_ | refine spf rfl ?_ | (refine spl (fun hc => ?_) fun hc => ?_) <;> (try rw [beq_iff_eq] at hc) <;> try simp only [hc] | (refine gs (fun hb => ?_) fun hb => ?_) <;> try simp only [Bool.not_true, Bool.not_false] at hb | refine cp (hS) ?_ | refine finF hrel ?_ ?_ ?_) <;> try simp only [go_sem, *])
   refine AR_range [2, 3] [⟨gen, 0, 0⟩, ⟨gen, 0, 1⟩] (fun i σ => Agree h σ.h ∧ True) (F.terms).length (by first | omega | (simp only [go_sem, *] <;> omega)) ⟨rfl, rfl, rfl⟩ rfl (by simp only [go_sem, *]) (by simp only [go_sem, *]) ?_ (by intro i σ t v ht hK; simp only [List.mem_cons, List.not_mem_nil, or_false] at ht; rcases ht with rfl | rfl | rfl <;> exact hK) ?_ ?_
   ·simp only [go_sem, *]
    exact (by repeat (first | exact Agree.refl _ | assumption | refine Agree.new ?_ (hgf0 _ _) | refine Agree.new ?_ (hfr' _ _)))
   ·
    intro i σ gr0 hgl_gr0 hgn hlt jI jN jS ⟨jA, _⟩
    obtain ⟨jT, jB⟩ := jS
    simp only [go_sem] at jT jB
    have hgf := fresh_of hgn
    have hgf0 : ∀ r i, h ⟨gr0, r, i⟩ = none := fun r i => agree_fresh jA (hgf r i)
    have eg_gen_gr0 := gen_lt (show gen < gr0 by omega)
    have eh_gen_gr0 := gen_lt' (show gen < gr0 by omega)
    obtain ⟨x, hx⟩ : ∃ x, (F.terms)[i]? = some x := ⟨_, List.getElem?_eq_getElem hlt⟩
    have hxm := List.mem_of_getElem? hx
    have hm := min_lt hlt
    clear hgn
    obtain ⟨x', hx'⟩ : ∃ x', F'.terms[i]? = some x' := ⟨_, List.getElem?_eq_getElem (by omega)⟩
    have hc := a1 i hlt x x' hx hx'
    clear a1 hb hgd
    repeat' (first
     | (refine ⟨?_, ?_⟩; focus ((repeat' (first | refine And.intro ?_ ?_ | refine Or.inr ?_)); all_goals kernel_rfl))
     | (first | refine wp rfl ?_ | refine spt rfl ?_ | refine spf rfl ?_ | (refine spl (fun hc => ?_) fun hc => ?_) <;> (try rw [beq_iff_eq] at hc) <;> try simp only [hc] | (refine gs (fun hb => ?_) fun hb => ?_) <;> try simp only [Bool.not_true, Bool.not_false] at hb | refine cp (hc) ?_ | refine AR_inv ?_) <;> try simp only [go_sem, *])
    all_goals (repeat (first | exact jA | refine Agree.new ?_ (hgf0 _ _)))
   ·clear a1
    intro σ ga0 hgl_ga0 hgn jS ⟨jA, _⟩
    obtain ⟨jT, jB⟩ := jS
    simp only [go_sem] at jT jB
    have hgf := fresh_of hgn
    have hgf0 : ∀ r i, h ⟨ga0, r, i⟩ = none := fun r i => agree_fresh jA (hgf r i)
    have eg_gen_ga0 := gen_lt (show gen < ga0 by omega)
    have eh_gen_ga0 := gen_lt' (show gen < ga0 by omega)
    clear hgn
    repeat' (first
     | (refine ⟨?_, ?_⟩; focus ((repeat' (first | refine And.intro ?_ ?_ | refine Or.inr ?_)); all_goals kernel_rfl))
     | (first | refine wp rfl ?_ | refine spt rfl ?_ | refine spf rfl ?_ | (refine spl (fun hc => ?_) fun hc => ?_) <;> (try rw [beq_iff_eq] at hc) <;> try simp only [hc] | (refine gs (fun hb => ?_) fun hb => ?_) <;> try simp only [Bool.not_true, Bool.not_false] at hb) <;> try simp only [go_sem, *])
    refine AR_range [2, 3] [⟨gen, 0, 0⟩, ⟨gen, 0, 1⟩] (fun i σ => Agree h σ.h ∧ i ≤ j) (F.args).length (by first | omega | (simp only [go_sem, *] <;> omega)) ⟨rfl, rfl, rfl⟩ rfl (by simp only [go_sem, *]) (by simp only [go_sem, *]) ?_ (by intro i σ t v ht hK; simp only [List.mem_cons, List.not_mem_nil, or_false] at ht; rcases ht with rfl | rfl | rfl <;> exact hK) ?_ ?_
    ·simp only [go_sem, *]
     first | exact ⟨jA, Nat.zero_le _⟩ | exact Nat.zero_le _ | exact jA
    ·
     intro i σ gr1 hgl_gr1 hgn hlt jI jN jS ⟨jA, ji⟩
     obtain ⟨jT, jB⟩ := jS
     simp only [go_sem] at jT jB
     have hgf := fresh_of hgn
     have hgf0 : ∀ r i, h ⟨gr1, r, i⟩ = none := fun r i => agree_fresh jA (hgf r i)
     have eg_gen_gr1 := gen_lt (show gen < gr1 by omega)
     have eh_gen_gr1 := gen_lt' (show gen < gr1 by omega)
     have eg_ga0_gr1 := gen_lt (show ga0 < gr1 by omega)
     have eh_ga0_gr1 := gen_lt' (show ga0 < gr1 by omega)
     obtain ⟨x, hx⟩ : ∃ x, (F.args)[i]? = some x := ⟨_, List.getElem?_eq_getElem hlt⟩
     have hxm := List.mem_of_getElem? hx
     have hm := min_lt hlt
     clear hgn
     obtain ⟨x', hx'⟩ : ∃ x', F'.args[i]? = some x' := ⟨_, List.getElem?_eq_getElem (by omega)⟩
     rcases Nat.lt_or_ge i j with hij | hij
     ·have hc := hgd i hij x x' hx hx'
      clear hb hgd
      repeat' (first
       | (refine ⟨?_, ?_⟩; focus ((repeat' (first | refine And.intro ?_ ?_ | refine Or.inr ?_)); all_goals kernel_rfl))
       | (first | refine wp rfl ?_ | refine spt rfl ?_ | refine spf rfl ?_ | (refine spl (fun hc => ?_) fun hc => ?_) <;> (try rw [beq_iff_eq] at hc) <;> try simp only [hc] | (refine gs (fun hb => ?_) fun hb => ?_) <;> try simp only [Bool.not_true, Bool.not_false] at hb | refine cp (hc) ?_ | refine AR_inv ?_) <;> try simp only [go_sem, *])
      all_goals first | omega | exact ⟨by repeat (first | exact jA | refine Agree.new ?_ (hgf0 _ _)), by omega⟩
     ·obtain rfl : i = j := by omega
      have hc := hb x x' hx hx'
      clear hb hgd
      repeat' (first
       | (refine ⟨?_, ?_⟩; focus ((repeat' (first | refine And.intro ?_ ?_ | refine Or.inr ?_)); all_goals kernel_rfl))
       | exact hin _ | exact agf (by assumption)
       | (first | refine wp rfl ?_ | refine spt rfl ?_ | refine spf rfl ?_ | (refine spl (fun hc => ?_) fun hc => ?_) <;> (try rw [beq_iff_eq] at hc) <;> try simp only [hc] | (refine gs (fun hb => ?_) fun hb => ?_) <;> try simp only [Bool.not_true, Bool.not_false] at hb | refine cp (hc) ?_ | refine finF hrel ?_ ?_ ?_) <;> try simp only [go_sem, *])
    ·
     intro σ ga1 hgl_ga1 hgn jS ⟨jA, ji⟩
     obtain ⟨jT, jB⟩ := jS
     simp only [go_sem] at jT jB
     have hgf := fresh_of hgn
     have hgf0 : ∀ r i, h ⟨ga1, r, i⟩ = none := fun r i => agree_fresh jA (hgf r i)
     have eg_gen_ga1 := gen_lt (show gen < ga1 by omega)
     have eh_gen_ga1 := gen_lt' (show gen < ga1 by omega)
     have eg_ga0_ga1 := gen_lt (show ga0 < ga1 by omega)
     have eh_ga0_ga1 := gen_lt' (show ga0 < ga1 by omega)
     clear hgn
     exfalso; omega
 ·clear h1 h2
  refine ⟨e, el, fun h => ?_⟩
  have eN : (e != 0) = true := by simpa using e0
  refine en Tryz.func123 [.tmp 4] rfl rfl fun g0 w0 gen hrel hfr hfr' hres => ?_
  repeat' (first
   | (refine ⟨?_, ?_⟩; focus ((repeat' (first | refine And.intro ?_ ?_ | refine Or.inr ?_)); all_goals kernel_rfl))
   | exact hin _ | exact agf (by assumption)
   | (first | refine wp rfl ?_ | refine spt rfl ?_ | refine spf rfl ?_ | (refine spl (fun hc => ?_) fun hc => ?_) <;> (try rw [beq_iff_eq] at hc) <;> try simp only [hc] | (refine gs (fun hb => ?_) fun hb => ?_) <;> try simp only [Bool.not_true, Bool.not_false] at hb | refine cp (hS) ?_ | refine finF hrel ?_ ?_ ?_) <;> try simp only [go_sem, *])
  refine AR_range [2, 3] [⟨gen, 0, 0⟩, ⟨gen, 0, 1⟩] (fun i σ => Agree h σ.h ∧ i ≤ j) (F.terms).length (by first | omega | (simp only [go_sem, *] <;> omega)) ⟨rfl, rfl, rfl⟩ rfl (by simp only [go_sem, *]) (by simp only [go_sem, *]) ?_ (by intro i σ t v ht hK; simp only [List.mem_cons, List.not_mem_nil, or_false] at ht; rcases ht with rfl | rfl | rfl <;> exact hK) ?_ ?_
  ·simp only [go_sem, *]
   first | exact ⟨(by repeat (first | exact Agree.refl _ | assumption | refine Agree.new ?_ (hgf0 _ _) | refine Agree.new ?_ (hfr' _ _))), Nat.zero_le _⟩ | exact Nat.zero_le _ | exact (by repeat (first | exact Agree.refl _ | assumption | refine Agree.new ?_ (hgf0 _ _) | refine Agree.new ?_ (hfr' _ _)))
  ·
   intro i σ gr0 hgl_gr0 hgn hlt jI jN jS ⟨jA, ji⟩
   obtain ⟨jT, jB⟩ := jS
   simp only [go_sem] at jT jB
   have hgf := fresh_of hgn
   have hgf0 : ∀ r i, h ⟨gr0, r, i⟩ = none := fun r i => agree_fresh jA (hgf r i)
   have eg_gen_gr0 := gen_lt (show gen < gr0 by omega)
   have eh_gen_gr0 := gen_lt' (show gen < gr0 by omega)
   obtain ⟨x, hx⟩ : ∃ x, (F.terms)[i]? = some x := ⟨_, List.getElem?_eq_getElem hlt⟩
   have hxm := List.mem_of_getElem? hx
   have hm := min_lt hlt
   clear hgn
   obtain ⟨x', hx'⟩ : ∃ x', F'.terms[i]? = some x' := ⟨_, List.getElem?_eq_getElem (by omega)⟩
   rcases Nat.lt_or_ge i j with hij | hij
   ·have hc := hgd i hij x x' hx hx'
    clear hb hgd
    repeat' (first
     | (refine ⟨?_, ?_⟩; focus ((repeat' (first | refine And.intro ?_ ?_ | refine Or.inr ?_)); all_goals kernel_rfl))
     | (first | refine wp rfl ?_ | refine spt rfl ?_ | refine spf rfl ?_ | (refine spl (fun hc => ?_) fun hc => ?_) <;> (try rw [beq_iff_eq] at hc) <;> try simp only [hc] | (refine gs (fun hb => ?_) fun hb => ?_) <;> try simp only [Bool.not_true, Bool.not_false] at hb | refine cp (hc) ?_ | refine AR_inv ?_) <;> try simp only [go_sem, *])
    all_goals first | omega | exact ⟨by repeat (first | exact jA | refine Agree.new ?_ (hgf0 _ _)), by omega⟩
   ·obtain rfl : i = j := by omega
    have hc := hb x x' hx hx'
    clear hb hgd
    repeat' (first
     | (refine ⟨?_, ?_⟩; focus ((repeat' (first | refine And.intro ?_ ?_ | refine Or.inr ?_)); all_goals kernel_rfl))
     | exact hin _ | exact agf (by assumption)
     | (first | refine wp rfl ?_ | refine spt rfl ?_ | refine spf rfl ?_ | (refine spl (fun hc => ?_) fun hc => ?_) <;> (try rw [beq_iff_eq] at hc) <;> try simp only [hc] | (refine gs (fun hb => ?_) fun hb => ?_) <;> try simp only [Bool.not_true, Bool.not_false] at hb | refine cp (hc) ?_ | refine finF hrel ?_ ?_ ?_) <;> try simp only [go_sem, *])
  ·
   intro σ ga0 hgl_ga0 hgn jS ⟨jA, ji⟩
   obtain ⟨jT, jB⟩ := jS
   simp only [go_sem] at jT jB
   have hgf := fresh_of hgn
   have hgf0 : ∀ r i, h ⟨ga0, r, i⟩ = none := fun r i => agree_fresh jA (hgf r i)
   have eg_gen_ga0 := gen_lt (show gen < ga0 by omega)
   have eh_gen_ga0 := gen_lt' (show gen < ga0 by omega)
   clear hgn
   exfalso; omega
theorem c_match {F F' : Fm} (hR : FmR F F') : ∀ g : List Ty, FmTy TyG g F → FmTy TyG g F' → FmG true F → FmG true F' → FmW F → FmW F' → fmSz F ≤ 4096 → fmSz F' ≤ 4096 → g.length + fdp F ≤ 5000 →
  ∃ e, lim0 e ∧ Pure Tryz.prog env 123 [.agg F.cells, .agg F'.cells] (.int .i64 e) := by
 induction hR with
 | @eq x y x' y' r1 r2 =>
  intro g t t' gd gd' w w' z z' hg
  rw [fdp_eqn] at hg
  obtain ⟨g1, g2⟩ := gd.inv_eq
  obtain ⟨g1', g2'⟩ := gd'.inv_eq
  rw [fmSz_eq] at z z'
  obtain ⟨t1, t2⟩ := t.inv_eq
  obtain ⟨t1', t2'⟩ := t'.inv_eq
  have wx := w.term (x := x) (by simp [fmEq, Fm.terms])
  have wy := w.term (x := y) (by simp [fmEq, Fm.terms])
  have wx' := w'.term (x := x') (by simp [fmEq, Fm.terms])
  have wy' := w'.term (x := y') (by simp [fmEq, Fm.terms])
  have one : ∀ {u u' : Tm}, Star u u' → HasTy TyG g u tNat → HasTy TyG g u' tNat → TmG u → TmG u' → tmSz u ≤ 4096 → tmSz u' ≤ 4096 → TmW u → TmW u' →
    ∃ e, lim0 e ∧ Pure Tryz.prog env 174 [.agg u.cells, .agg u'.cells, .int .i64 1000] (.int .i64 e) := by
   intro u u' hs a a' b b' c c' d d'
   refine ⟨_, ?_, c_MatchG (by omega) u u' a a' b b' c c' d d'⟩
   rcases match_jn (me := 11) (by omega) a a' b b' c c' ⟨u', hs, .refl _⟩ with h | h | h
   ·exact .inl h
   ·exact .inr (.inr h)
   ·exact .inr (.inl h)
  refine c_match1 _ _ w w' rfl rfl rfl rfl (fun i hi => ?_) (fun i hi => by simp [fmEq, Fm.args] at hi)
  match i, hi with
  | 0, _ =>
   obtain ⟨e, e1, e2⟩ := one r1 t1 t1' g1 g1' (by omega) (by omega) wx wx'
   refine ⟨e, e1, fun u u' h h' => ?_⟩
   simp [fmEq, Fm.terms] at h h'
   subst h; subst h'; exact e2
  | 1, _ =>
   obtain ⟨e, e1, e2⟩ := one r2 t2 t2' g2 g2' (by omega) (by omega) wy wy'
   refine ⟨e, e1, fun u u' h h' => ?_⟩
   simp [fmEq, Fm.terms] at h h'
   subst h; subst h'; exact e2
  | i + 2, hi => exact absurd hi (by simp [fmEq, Fm.terms])
 | @two k a b a' b' hk _ _ ih1 ih2 =>
  intro g t t' gd gd' w w' z z' hg
  rw [fdp_two] at hg
  obtain ⟨_, g1, g2⟩ := gd.inv_two
  obtain ⟨_, g1', g2'⟩ := gd'.inv_two
  rw [fmSz_two] at z z'
  obtain ⟨t1, t2⟩ := t.inv_two
  obtain ⟨t1', t2'⟩ := t'.inv_two
  have q1 := ih1 g t1 t1' g1 g1' (w.arg (x := a) (by simp [fmTwo, Fm.args])) (w'.arg (x := a') (by simp [fmTwo, Fm.args])) (by omega) (by omega) (by omega)
  have q2 := ih2 g t2 t2' g2 g2' (w.arg (x := b) (by simp [fmTwo, Fm.args])) (w'.arg (x := b') (by simp [fmTwo, Fm.args])) (by omega) (by omega) (by omega)
  refine c_match1 _ _ w w' rfl rfl rfl rfl (fun i hi => by simp [fmTwo, Fm.terms] at hi) (fun i hi => ?_)
  match i, hi with
  | 0, _ =>
   obtain ⟨e, e1, e2⟩ := q1
   refine ⟨e, e1, fun u u' h h' => ?_⟩
   simp [fmTwo, Fm.args] at h h'
   subst h; subst h'; exact e2
  | 1, _ =>
   obtain ⟨e, e1, e2⟩ := q2
   refine ⟨e, e1, fun u u' h h' => ?_⟩
   simp [fmTwo, Fm.args] at h h'
   subst h; subst h'; exact e2
  | i + 2, hi => exact absurd hi (by simp [fmTwo, Fm.args])
 | @q k s a a' hk _ ih1 =>
  intro g t t' gd gd' w w' z z' hg
  rw [fdp_q] at hg
  rw [fmSz_q] at z z'
  have q1 := ih1 (g ++ [s]) t.inv_q t'.inv_q gd.inv_q.2 gd'.inv_q.2 (w.arg (x := a) (by simp [fmQ, Fm.args])) (w'.arg (x := a') (by simp [fmQ, Fm.args])) (by omega) (by omega) (by simp; omega)
  refine c_match1 _ _ w w' rfl rfl rfl rfl (fun i hi => by simp [fmQ, Fm.terms] at hi) (fun i hi => ?_)
  match i, hi with
  | 0, _ =>
   obtain ⟨e, e1, e2⟩ := q1
   refine ⟨e, e1, fun u u' h h' => ?_⟩
   simp [fmQ, Fm.args] at h h'
   subst h; subst h'; exact e2
  | i + 1, hi => exact absurd hi (by simp [fmQ, Fm.args])
theorem c_refMatch {F F' : Fm} (hR : FmR F F') (gd : GoodR [] F) (ty' : FmTy TyG [] F') (gd' : FmG true F') (z' : fmSz F' ≤ 100000) (w : FmW F) (w' : FmW F') :
  ∃ e, lim0 e ∧ Pure Tryz.prog env 52 [.agg F.cells, .agg F'.cells] (.int .i64 e) := by
 have h1 := c_refFmCheck F w
 have h2 := c_refFmCheck F' w'
 rw [gd.gd.err0 gd.sz] at h1
 have n0 : ((0 : Int) != 0) = false := rfl
 have n4 : ((4 : Int) != 0) = true := rfl
 by_cases hz : fmSz F' ≤ 4096
 ·rw [gd'.err0 hz] at h2
  obtain ⟨e, e1, e2⟩ := c_match hR [] gd.ty ty' gd.gd gd' w w' gd.sz hz (by have := fdp_sz gd.gd; have := gd.sz; simp; omega)
  refine ⟨e, e1, fun h => ?_⟩
  clear gd gd' w w' hR e1 ty' z' hz
  refine en Tryz.func52 [.tmp 4] rfl rfl fun g0 w0 gen hrel hfr hfr' hres => ?_
  repeat' (first
   | exact hin _ | exact agf (by assumption)
   | (first | refine wp rfl ?_ | refine spt rfl ?_ | refine spf rfl ?_ | (refine spl (fun hc => ?_) fun hc => ?_) <;> (try rw [beq_iff_eq] at hc) <;> try simp only [hc] | refine cp (h1) ?_ | refine cp (h2) ?_ | refine cp (e2) ?_ | refine finF hrel ?_ ?_ ?_) <;> try simp only [go_sem, *])
 ·rw [gd'.err_val (by omega), if_neg hz] at h2
  refine ⟨4, .inr (.inl rfl), fun h => ?_⟩
  clear gd gd' w w' hR ty' z' hz
  refine en Tryz.func52 [.tmp 4] rfl rfl fun g0 w0 gen hrel hfr hfr' hres => ?_
  repeat' (first
   | exact hin _ | exact agf (by assumption)
   | (first | refine wp rfl ?_ | refine spt rfl ?_ | refine spf rfl ?_ | (refine spl (fun hc => ?_) fun hc => ?_) <;> (try rw [beq_iff_eq] at hc) <;> try simp only [hc] | refine cp (h1) ?_ | refine cp (h2) ?_ | refine finF hrel ?_ ?_ ?_) <;> try simp only [go_sem, *])
end Go.Proofs.YteopcebaeojjkaaGreatDoor
