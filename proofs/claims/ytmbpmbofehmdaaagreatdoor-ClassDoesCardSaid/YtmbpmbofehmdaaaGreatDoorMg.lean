/-
 Walks: several parts in one text.
-/
import Derived.Test.YtmbpmbofehmdaaaGreatDoorMc
import Derived.Test.YtmbpmbofehmdaaaGreatDoorMb
import Derived.Test.YtmbpmbofehmdaaaGreatDoorAbsD
set_option linter.unusedSimpArgs false
set_option linter.unusedVariables false
set_option maxRecDepth 20000
set_option maxHeartbeats 4000000
namespace Go.Proofs.YtmbpmbofehmdaaaGreatDoor
open Go GoAbs Go.Proofs
theorem c_refZero (t : Ty) : Pure Tryz.prog env 112 [.agg t.cells] (.bool (noType t)) := by
 intro h
 unfold noType
 cases hk : (t.kind == 0) with
 | true =>
  refine en_ Tryz.func112 [.tmp 2] fun g0 w0 gen hrel hfr hfr' hres => ?_
  repeat' (first
   |exact hin _|exact agf (by assumption)
   | (first|refine wp rfl ?_|(refine gs (fun hb => ?_) fun hb => ?_) <;> try simp only [Bool.not_true, Bool.not_false] at hb|refine finF hrel ?_ ?_ ?_)<;>try simp only [go_sem, *])
  all_goals simp
 | false =>
  refine en_ Tryz.func112 [.tmp 2] fun g0 w0 gen hrel hfr hfr' hres => ?_
  first|refine wq_ ?_|exact wk_
  all_goals simp
theorem c_refShape : ∀ t : Ty, TyW t → Pure Tryz.prog env 131 [.agg t.cells] (.bool t.good) := by
 intro t
 induction t using Ty.ind with | h t ih => ?_
 intro ht h
 have hlen := ht.len
 have ih' : ∀ x ∈ t.args, Pure Tryz.prog env 131 [.agg x.cells] (.bool x.good) := fun x hx => ih x hx (ht.arg hx)
 clear ih
 have hv0 := t.good_eq.symm
 generalize hvv : t.good = v at hv0 ⊢
 clear hvv
 refine en_ Tryz.func131 [.tmp 2] fun g0 w0 gen hrel hfr hfr' hres => ?_
 repeat' (first
  |refine AR_cutB (id := 0) (fun σ => σ.tm 1 = .ptr ⟨gen, 0, 0⟩ 0 ∧ σ.h ⟨gen, 0, 0⟩ = some (.box t.cells) ∧ Agree h σ.h ∧ ∃ w, tyWant t.kind = some w ∧ σ.tm 3 = .int .i64 w) ?_ ?_
  |refine AR_seq ?_|refine AR_skip ?_|refine AR_block ?_|refine AR_block_end ?_|refine AR_exit ?_|refine AR_code_exit ?_|refine AR_inv_exit ?_|refine AR_block_hit ?_
  |refine AR_block_pass (by decide) ?_|refine AR_ret ?_|refine AR_fall ?_
  |(refine ⟨?_,?_⟩; focus ((repeat' (first|refine ⟨?_,?_⟩|refine .inr ?_)); all_goals kernel_rfl))
  |refine AR_cond_t rfl ?_|refine AR_cond_f rfl ?_|(refine AR_cond rfl (fun hc => ?_) (fun hc => ?_) <;> (try rw [beq_iff_eq] at hc) <;> (try simp only [hc]))
  | ((first|refine AR_region ?_|(refine guarded_split (fun hb => ?_) (fun hb => ?_) <;> (try simp only [Bool.not_true, Bool.not_false] at hb))|refine AR_inv ?_|refine AR_fin hrel (by first|exact hin _ | simp only [go_sem, and_self]) ag_ ?_) <;> simp only [go_sem, *]))
 ·exact ⟨.new (.refl _) (hfr' _ _), 0, rfl, rfl⟩
 ·exact ⟨.new (.refl _) (hfr' _ _), 0, rfl, rfl⟩
 ·exact ⟨.new (.refl _) (hfr' _ _), 0, rfl, rfl⟩
 ·exact ⟨.new (.refl _) (hfr' _ _), 2, rfl, rfl⟩
 ·exact ⟨.new (.refl _) (hfr' _ _), 2, rfl, rfl⟩
 ·rw [← hv0]; simp [tyWant, *]
 intro σ ⟨j1, j2, j3, w, j4, j5⟩
 rw [j4] at hv0
 simp only at hv0
 clear j4
 cases hw : ((t.args.length : Int) == w) with
 | false =>
  have hw' : ((t.args.length : Int) != w) = true := by simp [bne, hw]
  rw [hw, Bool.false_and] at hv0
  subst hv0
  clear hw ih'
  exact wk_
 | true =>
  have hw' : ((t.args.length : Int) != w) = false := by simp [bne, hw]
  rw [hw, Bool.true_and] at hv0
  clear hw
  refine wq_ ?_
  refine ar_ [21] [] (fun i σ => Agree h σ.h ∧ (t.args.drop i).all Ty.good = v) (t.args).length ?_ ?_ ?_
  ·simp only [go_sem, *]
   all_goals exact hv0
  ·clear hv0 hw' j5
   intro i σ gr0 hgl_gr0 hgn hlt jI jN jS ⟨jA, jv⟩
   obtain ⟨jT, jB⟩ := jS
   simp only [go_sem] at jT jB
   obtain ⟨hgf, hgf0, eg_gen_gr0, eh_gen_gr0⟩ := rnd hgn hgl_gr0 jA
   obtain ⟨x, hx, hxm, hm⟩ := rnx hlt
   clear hgn
   rw [drop_get hx, List.all_cons] at jv
   have hc := ih' x hxm
   clear ih'
   cases hn : x.good with
   | false =>
    rw [hn] at hc
    rw [hn, Bool.false_and] at jv
    subst jv
    exact wk_
   | true =>
    rw [hn] at hc
    rw [hn, Bool.true_and] at jv
    refine wq_ ?_
    first|exact ag_|exact ⟨ag_, jv⟩
  ·clear hv0 hw' j5
   intro σ ga0 hgl_ga0 hgn jS ⟨jA, jv⟩
   obtain ⟨jT, jB⟩ := jS
   simp only [go_sem] at jT jB
   obtain ⟨hgf, hgf0, eg_gen_ga0, eh_gen_ga0⟩ := rnd hgn hgl_ga0 jA
   clear hgn
   rw [List.drop_length, List.all_nil] at jv
   subst jv
   clear ih'
   exact wk_
theorem c_refSize : ∀ t : Ty, TyW t → Pure Tryz.prog env 132 [.agg t.cells] (.int .i64 t.szW) := by
 intro t
 induction t using Ty.ind with | h t ih => ?_
 intro ht h
 have hlen := ht.len
 have ih' : ∀ x ∈ t.args, Pure Tryz.prog env 132 [.agg x.cells] (.int .i64 x.szW) := fun x hx => ih x hx (ht.arg hx)
 clear ih
 have hv0 := t.szW_eq.symm
 generalize hvv : t.szW = v at hv0 ⊢
 clear hvv
 refine en_ Tryz.func132 [.tmp 2] fun g0 w0 gen hrel hfr hfr' hres => ?_
 refine wq_ ?_
 refine ar_ [2, 7] [] (fun i σ => Agree h σ.h ∧ ∃ n, σ.tm 3 = .int .i64 n ∧ Ty.szWL n (t.args.drop i) = v) (t.args).length ?_ ?_ ?_
 ·simp only [go_sem, *]
  exact ⟨ag_, _, rfl, hv0⟩
 ·clear hv0
  intro i σ gr0 hgl_gr0 hgn hlt jI jN jS ⟨jA, n, jn, jv⟩
  obtain ⟨jT, jB⟩ := jS
  simp only [go_sem] at jT jB
  obtain ⟨hgf, hgf0, eg_gen_gr0, eh_gen_gr0⟩ := rnd hgn hgl_gr0 jA
  obtain ⟨x, hx, hxm, hm⟩ := rnx hlt
  clear hgn
  rw [drop_get hx, Ty.szWL_cons] at jv
  have hc := ih' x hxm
  clear ih'
  refine wq_ ?_
  exact ⟨ag_, _, rfl, jv⟩
 ·clear hv0
  intro σ ga0 hgl_ga0 hgn jS ⟨jA, n, jn, jv⟩
  obtain ⟨jT, jB⟩ := jS
  simp only [go_sem] at jT jB
  obtain ⟨hgf, hgf0, eg_gen_ga0, eh_gen_ga0⟩ := rnd hgn hgl_ga0 jA
  clear hgn
  rw [List.drop_length, Ty.szWL_nil] at jv
  subst jv
  clear ih'
  exact wk_
theorem c_refTyCheck (t : Ty) (ht : TyW t) : Pure Tryz.prog env 114 [.agg t.cells] (.int .i64 (tyErr t)) := by
 intro h
 have h1 := c_refShape t ht
 have h2 := c_refSize t ht
 have hsz := t.szW_nodes
 have hv0 : (chk 64 t.nodes).2 = tyErr t := rfl
 generalize hvv : tyErr t = v at hv0 ⊢
 clear hvv
 unfold Ty.good at h1
 cases hn : t.nodes with
 | none =>
  rw [hn] at h1 hv0
  simp only [chk, Option.isSome_none] at h1 hv0
  subst hv0
  clear h2 hsz
  exact ek_ Tryz.func114 [.tmp 2]
 | some n =>
  rw [hsz n hn] at h2
  rw [hn] at h1 hv0
  simp only [chk, Option.isSome_some] at h1 hv0
  clear hsz hn
  cases hd : decide (n > 64) with
  | true =>
   have : 64 < n := by simpa using hd
   rw [if_pos this] at hv0
   subst hv0
   exact ek_ Tryz.func114 [.tmp 2]
  | false =>
   have : ¬ 64 < n := by simpa using hd
   rw [if_neg this] at hv0
   subst hv0
   exact ek_ Tryz.func114 [.tmp 2]
theorem c_refArgs (k : Int) : Pure Tryz.prog env 130 [.int .i64 k] (.int .i64 (refArgs k)) := by
 intro h
 have hv0 : refArgs k = refArgs k := rfl
 generalize hvv : refArgs k = v at hv0 ⊢
 clear hv0
 refine en_ Tryz.func130 [.tmp 2] fun g0 w0 gen hrel hfr hfr' hres => ?_
 repeat' (first
  |exact hin _|exact agf (by assumption)
  | (first|refine wp rfl ?_|refine spt rfl ?_|refine spf rfl ?_|(refine spl (fun hc => ?_) fun hc => ?_) <;> (try rw [beq_iff_eq] at hc) <;> try simp only [hc]|refine finF hrel ?_ ?_ ?_)<;>try simp only [go_sem, *])
 all_goals (rw [← hvv]; first | (simp_all [refArgs]; done) | rfl)
theorem c_tmShape : ∀ t : Tm, TmW t → Pure Tryz.prog env 111 [.agg t.cells] (.bool t.good) := by
 intro t
 induction t using Tm.ind with | h t ih => ?_
 intro ht h
 have hlen := ht.len
 have ih' : ∀ x ∈ t.args, Pure Tryz.prog env 111 [.agg x.cells] (.bool x.good) := fun x hx => ih x hx (ht.arg hx)
 clear ih
 have hA := c_refArgs t.kind
 have hZ := c_refZero t.type
 have hC := c_refTyCheck t.type ht.ty
 have hv0 := t.good_eq.symm
 rw [tmHead_ref] at hv0
 generalize hvv : t.good = v at hv0 ⊢
 clear hvv
 cases h1 : ((t.args.length : Int) != refArgs t.kind) with
 | true =>
  simp only [h1, Bool.not_true, Bool.false_and] at hv0
  subst hv0
  clear ih' hZ hC
  refine en_ Tryz.func111 [.tmp 2] fun g0 w0 gen hrel hfr hfr' hres => ?_
  repeat' (first
   |(refine ⟨?_,?_⟩; focus ((repeat' (first|refine ⟨?_,?_⟩|refine .inr ?_)); all_goals kernel_rfl))
   |exact hin _|exact agf (by assumption)
   | (first|refine wp rfl ?_|refine spt rfl ?_|refine spf rfl ?_|(refine spl (fun hc => ?_) fun hc => ?_) <;> (try rw [beq_iff_eq] at hc) <;> try simp only [hc]|(refine gs (fun hb => ?_) fun hb => ?_) <;> try simp only [Bool.not_true, Bool.not_false] at hb|refine cp hA ?_|refine finF hrel ?_ ?_ ?_)<;>try simp only [go_sem, *])
 | false =>
 cases h2 : decide (t.index < 0) with
 | true =>
  simp only [h2, Bool.not_true, Bool.and_false, Bool.false_and] at hv0
  subst hv0
  clear ih' hZ hC
  refine en_ Tryz.func111 [.tmp 2] fun g0 w0 gen hrel hfr hfr' hres => ?_
  repeat' (first
   |(refine ⟨?_,?_⟩; focus ((repeat' (first|refine ⟨?_,?_⟩|refine .inr ?_)); all_goals kernel_rfl))
   |exact hin _|exact agf (by assumption)
   | (first|refine wp rfl ?_|refine spt rfl ?_|refine spf rfl ?_|(refine spl (fun hc => ?_) fun hc => ?_) <;> (try rw [beq_iff_eq] at hc) <;> try simp only [hc]|(refine gs (fun hb => ?_) fun hb => ?_) <;> try simp only [Bool.not_true, Bool.not_false] at hb|refine cp hA ?_|refine finF hrel ?_ ?_ ?_)<;>try simp only [go_sem, *])
 | false =>
 have hv1 : (!(t.kind != 1 && t.index != 0) && (if typed t.kind then tyErr t.type == 0 else noType t.type) && t.args.all Tm.good) = v := by simpa [h1, h2] using hv0
 clear hv0
 refine en_ Tryz.func111 [.tmp 2] fun g0 w0 gen hrel hfr hfr' hres => ?_
 repeat' (first
  |refine AR_cutS (id := 1) (fun σ => σ.tm 1 = .ptr ⟨gen, 0, 0⟩ 0 ∧ σ.h ⟨gen, 0, 0⟩ = some (.box t.cells) ∧ Agree h σ.h ∧ ((if typed t.kind then tyErr t.type == 0 else noType t.type) && t.args.all Tm.good) = v) ?_ ?_
  |refine AR_seq ?_|refine AR_skip ?_|refine AR_block ?_|refine AR_block_end ?_|refine AR_exit ?_|refine AR_code_exit ?_|refine AR_inv_exit ?_|refine AR_block_hit ?_
  |refine AR_block_pass (by decide) ?_|refine AR_ret ?_|refine AR_fall ?_
  |(refine ⟨?_,?_⟩; focus ((repeat' (first|refine ⟨?_,?_⟩|refine .inr ?_)); all_goals kernel_rfl))
  |refine AR_cond_t rfl ?_|refine AR_cond_f rfl ?_|(refine AR_cond rfl (fun hc => ?_) (fun hc => ?_) <;> (try rw [beq_iff_eq] at hc) <;> (try simp only [hc]))
  | ((first|refine AR_region ?_|(refine guarded_split (fun hb => ?_) (fun hb => ?_) <;> (try simp only [Bool.not_true, Bool.not_false] at hb))|refine AR_inv ?_|refine Call1_pure (hA) ?_|refine AR_fin hrel (by first|exact hin _ | simp only [go_sem, and_self]) ag_ ?_) <;> simp only [go_sem, *]))
 rotate_right
 ·intro σ ⟨j1, j2, j3, hv2⟩
  clear h1 h2 hv1 hA
  repeat' (first
   |refine AR_cutB (id := 0) (fun σ => σ.tm 1 = .ptr ⟨gen, 0, 0⟩ 0 ∧ σ.h ⟨gen, 0, 0⟩ = some (.box t.cells) ∧ Agree h σ.h ∧ t.args.all Tm.good = v) ?_ ?_
   |refine AR_seq ?_|refine AR_skip ?_|refine AR_block ?_|refine AR_block_end ?_|refine AR_exit ?_|refine AR_code_exit ?_|refine AR_inv_exit ?_|refine AR_block_hit ?_
   |refine AR_block_pass (by decide) ?_|refine AR_ret ?_|refine AR_fall ?_
   |(refine ⟨?_,?_⟩; focus ((repeat' (first|refine ⟨?_,?_⟩|refine .inr ?_)); all_goals kernel_rfl))
   |refine AR_cond_t rfl ?_|refine AR_cond_f rfl ?_|(refine AR_cond rfl (fun hc => ?_) (fun hc => ?_) <;> (try rw [beq_iff_eq] at hc) <;> (try simp only [hc]))
   | ((first|refine AR_region ?_|(refine guarded_split (fun hb => ?_) (fun hb => ?_) <;> (try simp only [Bool.not_true, Bool.not_false] at hb))|refine AR_inv ?_|refine Call1_pure (hZ) ?_|refine Call1_pure (hC) ?_|refine AR_fin hrel (by first|exact hin _ | simp only [go_sem, and_self]) ag_ ?_) <;> simp only [go_sem, *]))
  rotate_right
  ·intro σ ⟨j1, j2, j3, hv3⟩
   clear hZ hC hv2
   repeat' (first
    |(refine ⟨?_,?_⟩; focus ((repeat' (first|refine ⟨?_,?_⟩|refine .inr ?_)); all_goals kernel_rfl))
    |exact hin _|exact agf (by assumption)
    | (first|refine wp rfl ?_|refine spt rfl ?_|refine spf rfl ?_|(refine spl (fun hc => ?_) fun hc => ?_) <;> (try rw [beq_iff_eq] at hc) <;> try simp only [hc]|(refine gs (fun hb => ?_) fun hb => ?_) <;> try simp only [Bool.not_true, Bool.not_false] at hb|refine finF hrel ?_ ?_ ?_)<;>try simp only [go_sem, *])
   refine ar_ [42] [] (fun i σ => Agree h σ.h ∧ (t.args.drop i).all Tm.good = v) (t.args).length ?_ ?_ ?_
   ·simp only [go_sem, *]
    all_goals exact hv3
   ·clear hv3
    intro i σ gr0 hgl_gr0 hgn hlt jI jN jS ⟨jA, jv⟩
    obtain ⟨jT, jB⟩ := jS
    simp only [go_sem] at jT jB
    obtain ⟨hgf, hgf0, eg_gen_gr0, eh_gen_gr0⟩ := rnd hgn hgl_gr0 jA
    obtain ⟨x, hx, hxm, hm⟩ := rnx hlt
    clear hgn
    rw [drop_get hx, List.all_cons] at jv
    have hc := ih' x hxm
    clear ih'
    cases hn : x.good with
    | false =>
     rw [hn] at hc
     rw [hn, Bool.false_and] at jv
     subst jv
     repeat' (first
      |(refine ⟨?_,?_⟩; focus ((repeat' (first|refine ⟨?_,?_⟩|refine .inr ?_)); all_goals kernel_rfl))
      |exact hin _|exact agf (by assumption)
      | (first|refine wp rfl ?_|refine spt rfl ?_|refine spf rfl ?_|(refine spl (fun hc => ?_) fun hc => ?_) <;> (try rw [beq_iff_eq] at hc) <;> try simp only [hc]|(refine gs (fun hb => ?_) fun hb => ?_) <;> try simp only [Bool.not_true, Bool.not_false] at hb|refine cp hc ?_|refine finF hrel ?_ ?_ ?_)<;>try simp only [go_sem, *])
    | true =>
     rw [hn] at hc
     rw [hn, Bool.true_and] at jv
     repeat' (first
      |(refine ⟨?_,?_⟩; focus ((repeat' (first|refine ⟨?_,?_⟩|refine .inr ?_)); all_goals kernel_rfl))
      |exact hin _|exact agf (by assumption)
      | (first|refine wp rfl ?_|refine spt rfl ?_|refine spf rfl ?_|(refine spl (fun hc => ?_) fun hc => ?_) <;> (try rw [beq_iff_eq] at hc) <;> try simp only [hc]|(refine gs (fun hb => ?_) fun hb => ?_) <;> try simp only [Bool.not_true, Bool.not_false] at hb|refine AR_inv ?_|refine cp hc ?_|refine finF hrel ?_ ?_ ?_)<;>try simp only [go_sem, *])
     first|exact ag_|exact ⟨ag_, jv⟩
   ·clear hv3
    intro σ ga0 hgl_ga0 hgn jS ⟨jA, jv⟩
    obtain ⟨jT, jB⟩ := jS
    simp only [go_sem] at jT jB
    obtain ⟨hgf, hgf0, eg_gen_ga0, eh_gen_ga0⟩ := rnd hgn hgl_ga0 jA
    clear hgn
    rw [List.drop_length, List.all_nil] at jv
    subst jv
    clear ih'
    repeat' (first
     |(refine ⟨?_,?_⟩; focus ((repeat' (first|refine ⟨?_,?_⟩|refine .inr ?_)); all_goals kernel_rfl))
     |exact hin _|exact agf (by assumption)
     | (first|refine wp rfl ?_|refine spt rfl ?_|refine spf rfl ?_|(refine spl (fun hc => ?_) fun hc => ?_) <;> (try rw [beq_iff_eq] at hc) <;> try simp only [hc]|(refine gs (fun hb => ?_) fun hb => ?_) <;> try simp only [Bool.not_true, Bool.not_false] at hb|refine finF hrel ?_ ?_ ?_)<;>try simp only [go_sem, *])
  all_goals (clear ih' hZ hC; subst hv2; simp_all [typed, bne]; done)
 all_goals (clear ih' hZ hC hA; subst hv1; first | (simp_all [typed, bne]; done)|exact ⟨ag_, by simp_all [typed, bne]⟩)
theorem c_tmCount : ∀ t : Tm, TmW t → Pure Tryz.prog env 84 [.agg t.cells] (.int .i64 t.szW) := by
 intro t
 induction t using Tm.ind with | h t ih => ?_
 intro ht h
 have hlen := ht.len
 have ih' : ∀ x ∈ t.args, Pure Tryz.prog env 84 [.agg x.cells] (.int .i64 x.szW) := fun x hx => ih x hx (ht.arg hx)
 clear ih
 have hv0 := t.szW_eq.symm
 generalize hvv : t.szW = v at hv0 ⊢
 clear hvv
 refine en_ Tryz.func84 [.tmp 2] fun g0 w0 gen hrel hfr hfr' hres => ?_
 refine wq_ ?_
 refine ar_ [2, 7] [] (fun i σ => Agree h σ.h ∧ ∃ n, σ.tm 3 = .int .i64 n ∧ Tm.szWL n (t.args.drop i) = v) (t.args).length ?_ ?_ ?_
 ·simp only [go_sem, *]
  exact ⟨ag_, _, rfl, hv0⟩
 ·clear hv0
  intro i σ gr0 hgl_gr0 hgn hlt jI jN jS ⟨jA, n, jn, jv⟩
  obtain ⟨jT, jB⟩ := jS
  simp only [go_sem] at jT jB
  obtain ⟨hgf, hgf0, eg_gen_gr0, eh_gen_gr0⟩ := rnd hgn hgl_gr0 jA
  obtain ⟨x, hx, hxm, hm⟩ := rnx hlt
  clear hgn
  rw [drop_get hx, Tm.szWL_cons] at jv
  have hc := ih' x hxm
  clear ih'
  refine wq_ ?_
  exact ⟨ag_, _, rfl, jv⟩
 ·clear hv0
  intro σ ga0 hgl_ga0 hgn jS ⟨jA, n, jn, jv⟩
  obtain ⟨jT, jB⟩ := jS
  simp only [go_sem] at jT jB
  obtain ⟨hgf, hgf0, eg_gen_ga0, eh_gen_ga0⟩ := rnd hgn hgl_ga0 jA
  clear hgn
  rw [List.drop_length, Tm.szWL_nil] at jv
  subst jv
  clear ih'
  exact wk_
theorem c_tmCheck (t : Tm) (ht : TmW t) : Pure Tryz.prog env 82 [.agg t.cells] (.int .i64 (tmErr t)) := by
 intro h
 have h1 := c_tmShape t ht
 have h2 := c_tmCount t ht
 have hsz := t.szW_nodes
 have hv0 : (chk 4096 t.nodes).2 = tmErr t := rfl
 generalize hvv : tmErr t = v at hv0 ⊢
 clear hvv
 unfold Tm.good at h1
 cases hn : t.nodes with
 | none =>
  rw [hn] at h1 hv0
  simp only [chk, Option.isSome_none] at h1 hv0
  subst hv0
  clear h2 hsz
  exact ek_ Tryz.func82 [.tmp 2]
 | some n =>
  rw [hsz n hn] at h2
  rw [hn] at h1 hv0
  simp only [chk, Option.isSome_some] at h1 hv0
  clear hsz hn
  cases hd : decide (n > 4096) with
  | true =>
   have : 4096 < n := by simpa using hd
   rw [if_pos this] at hv0
   subst hv0
   exact ek_ Tryz.func82 [.tmp 2]
  | false =>
   have : ¬ 4096 < n := by simpa using hd
   rw [if_neg this] at hv0
   subst hv0
   exact ek_ Tryz.func82 [.tmp 2]
theorem c_quant (k : Int) : Pure Tryz.prog env 113 [.int .i64 k] (.bool (quant k)) := by
 intro h
 have hvv : quant k = quant k := rfl
 generalize hvv : quant k = v
 refine en_ Tryz.func113 [.tmp 2] fun g0 w0 gen hrel hfr hfr' hres => ?_
 repeat' (first
  |exact hin _|exact agf (by assumption)
  | (first|refine wp rfl ?_|(refine gs (fun hb => ?_) fun hb => ?_) <;> try simp only [Bool.not_true, Bool.not_false] at hb|refine finF hrel ?_ ?_ ?_)<;>try simp only [go_sem, *])
 all_goals (rw [← hvv]; simp_all [quant])
theorem c_fmCount : ∀ t : Fm, FmW t → Pure Tryz.prog env 79 [.agg t.cells] (.int .i64 t.szW) := by
 intro t
 induction t using Fm.ind with | h t ih => ?_
 intro ht h
 have hlen := ht.len
 have hlen2 := ht.tlen
 have ih' : ∀ x ∈ t.args, Pure Tryz.prog env 79 [.agg x.cells] (.int .i64 x.szW) := fun x hx => ih x hx (ht.arg hx)
 clear ih
 have hv0 := t.szW_eq.symm
 generalize hvv : t.szW = v at hv0 ⊢
 clear hvv
 refine en_ Tryz.func79 [.tmp 2] fun g0 w0 gen hrel hfr hfr' hres => ?_
 refine wq_ ?_
 refine ar_ [1, 2, 9] [⟨gen, 0, 0⟩] (fun i σ => Agree h σ.h ∧ ∃ n, σ.tm 3 = .int .i64 n ∧ Fm.szWL (Tm.szWL n (t.terms.drop i)) t.args = v) (t.terms).length ?_ ?_ ?_
 ·simp only [go_sem, *]
  exact ⟨ag_, _, rfl, hv0⟩
 ·clear hv0 ih'
  intro i σ gr0 hgl_gr0 hgn hlt jI jN jS ⟨jA, n, jn, jv⟩
  obtain ⟨jT, jB⟩ := jS
  simp only [go_sem] at jT jB
  obtain ⟨hgf, hgf0, eg_gen_gr0, eh_gen_gr0⟩ := rnd hgn hgl_gr0 jA
  obtain ⟨x, hx, hxm, hm⟩ := rnx hlt
  clear hgn
  rw [drop_get hx, Tm.szWL_cons] at jv
  have hc := c_tmCount x (ht.term hxm)
  refine wq_ ?_
  exact ⟨ag_, _, rfl, jv⟩
 clear hv0
 intro σ ga0 hgl_ga0 hgn jS ⟨jA, n, jn, jv⟩
 obtain ⟨jT, jB⟩ := jS
 simp only [go_sem] at jT jB
 obtain ⟨hgf, hgf0, eg_gen_ga0, eh_gen_ga0⟩ := rnd hgn hgl_ga0 jA
 clear hgn
 rw [List.drop_length, Tm.szWL_nil] at jv
 refine wq_ ?_
 refine ar_ [2, 21] [] (fun i σ => Agree h σ.h ∧ ∃ n, σ.tm 3 = .int .i64 n ∧ Fm.szWL n (t.args.drop i) = v) (t.args).length ?_ ?_ ?_
 ·simp only [go_sem, *]
  first|exact ⟨_, rfl, jv⟩|exact ⟨ag_, _, rfl, jv⟩
 ·clear jv
  intro i σ gr1 hgl_gr1 hgn hlt jI jN jS ⟨jA, n', jn', jv⟩
  obtain ⟨jT, jB⟩ := jS
  simp only [go_sem] at jT jB
  have hgf := fresh_of hgn
  have hgf0 := fun r i => agree_fresh jA (hgf r i)
  have eg_gen_gr1 := gen_lt (show gen < gr1 by omega)
  have eh_gen_gr1 := gen_lt' (show gen < gr1 by omega)
  have eg_ga0_gr1 := gen_lt (show ga0 < gr1 by omega)
  have eh_ga0_gr1 := gen_lt' (show ga0 < gr1 by omega)
  obtain ⟨x, hx, hxm, hm⟩ := rnx hlt
  clear hgn
  rw [drop_get hx, Fm.szWL_cons] at jv
  have hc := ih' x hxm
  clear ih'
  refine wq_ ?_
  exact ⟨ag_, _, rfl, jv⟩
 ·clear jv
  intro σ ga1 hgl_ga1 hgn jS ⟨jA, n', jn', jv⟩
  obtain ⟨jT, jB⟩ := jS
  simp only [go_sem] at jT jB
  have hgf := fresh_of hgn
  have hgf0 := fun r i => agree_fresh jA (hgf r i)
  have eg_gen_ga1 := gen_lt (show gen < ga1 by omega)
  have eh_gen_ga1 := gen_lt' (show gen < ga1 by omega)
  have eg_ga0_ga1 := gen_lt (show ga0 < ga1 by omega)
  have eh_ga0_ga1 := gen_lt' (show ga0 < ga1 by omega)
  clear hgn
  rw [List.drop_length, Fm.szWL_nil] at jv
  subst jv
  clear ih'
  exact wk_
end Go.Proofs.YtmbpmbofehmdaaaGreatDoor
