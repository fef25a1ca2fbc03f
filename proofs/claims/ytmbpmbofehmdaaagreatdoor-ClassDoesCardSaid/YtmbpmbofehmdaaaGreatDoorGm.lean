/-
 Walks: sameness of types, terms and formulas (references).
-/
import Derived.Test.YtmbpmbofehmdaaaGreatDoorMa
set_option linter.unusedSimpArgs false
set_option linter.unusedVariables false
set_option maxRecDepth 20000
set_option maxHeartbeats 4000000
namespace Go.Proofs.YtmbpmbofehmdaaaGreatDoor
open Go GoAbs Go.Proofs
theorem c_refTySameAll (a b : List Ty) (hlen : a.length ≤ 100000) (hb : b.length ≤ 100000) (wa : ∀ x ∈ a, TyW x) (wb : ∀ x ∈ b, TyW x) :
  Pure Tryz.prog env 30 [.sl .any (a.map Ty.cells), .sl .any (b.map Ty.cells)] (.bool (Ty.sameL a b)) := by
 intro h
 have ih' : ∀ x ∈ a, ∀ y ∈ b, Pure Tryz.prog env 31 [.agg x.cells, .agg y.cells] (.bool (Ty.same x y)) := fun x hx y hy => c_refSame x (wa x hx) y (wb y hy)
 clear wa wb
 cases k2 : ((a.length : Int) == (b.length : Int)) with
 | false =>
  rw [sameTyL_ne k2]
  have k2' := ne_of_beq k2
  clear k2 ih'
  exact ek_ Tryz.func30 [.tmp 4]
 | true =>
  have k2' := ne_of_beq k2
  have hget := get_same k2
  have hln : a.length ≤ b.length ∧ b.length ≤ a.length := by simp at k2; omega
  clear k2
  simp only [Bool.not_true] at k2'
  have hse : Ty.sameL a b = Ty.sameL a b := rfl
  generalize hv : Ty.sameL a b = v at hse ⊢
  clear hse
  refine en_ Tryz.func30 [.tmp 4] fun g0 w0 gen hrel hfr hfr' hres => ?_
  refine wq_ ?_
  refine ar_ [0, 1] [] (fun i σ => Agree h σ.h ∧ Ty.sameL (a.drop i) (b.drop i) = v) (a).length ?_ ?_ ?_
  ·simp only [go_sem, *]
   first | done|exact ag_|exact ⟨ag_, hv⟩|exact hv
  ·clear hv
   intro i σ gr0 hgl_gr0 hgn hlt jI jN jS ⟨jA, jv⟩
   obtain ⟨jT, jB⟩ := jS
   simp only [go_sem] at jT jB
   obtain ⟨hgf, hgf0, eg_gen_gr0, eh_gen_gr0⟩ := rnd hgn hgl_gr0 jA
   obtain ⟨x, hx, hxm, hm⟩ := rnx hlt
   clear hgn
   obtain ⟨y, hy⟩ := hget i x hx
   rw [drop_get hx, drop_get hy, Ty.sameL] at jv
   have hc := ih' x hxm y (List.mem_of_getElem? hy)
   clear ih' hget
   cases hxy : Ty.same x y with
   | false =>
    rw [hxy] at hc jv
    simp only [Bool.false_and] at jv
    subst jv
    exact wk_
   | true =>
    rw [hxy] at hc jv
    simp only [Bool.true_and] at jv
    repeat' (first
     |(refine ⟨?_,?_⟩; focus ((repeat' (first|refine ⟨?_,?_⟩|refine .inr ?_)); all_goals kernel_rfl))
     | (first|refine wp rfl ?_|refine spt rfl ?_|refine spf rfl ?_|(refine spl (fun hc => ?_) fun hc => ?_) <;> (try rw [beq_iff_eq] at hc) <;> try simp only [hc]|refine cp hc ?_|refine AR_inv ?_)<;>try simp only [go_sem, *])
    first | done|exact ag_|exact ⟨ag_, jv⟩|exact jv
  ·clear hv
   intro σ ga0 hgl_ga0 hgn jS ⟨jA, jv⟩
   obtain ⟨jT, jB⟩ := jS
   simp only [go_sem] at jT jB
   obtain ⟨hgf, hgf0, eg_gen_ga0, eh_gen_ga0⟩ := rnd hgn hgl_ga0 jA
   clear hgn
   have hq : a.length = b.length := by omega
   rw [List.drop_length, hq, List.drop_length, Ty.sameL] at jv
   subst jv
   clear ih' hget hq hln
   exact wk_
theorem c_refTmSame : ∀ a : Tm, TmW a → ∀ b : Tm, TmW b → Pure Tryz.prog env 24 [.agg a.cells, .agg b.cells] (.bool (Tm.same a b)) := by
 intro a
 induction a using Tm.ind with | h a ih => ?_
 intro ha b hb h
 have hlen := ha.len
 have ih' : ∀ x ∈ a.args, ∀ y ∈ b.args, Pure Tryz.prog env 24 [.agg x.cells, .agg y.cells] (.bool (Tm.same x y)) := fun x hx y hy => ih x hx (ha.arg hx) y (hb.arg hy)
 have hT := c_refSame a.type ha.ty b.type hb.ty
 clear ih ha hb
 have hse := (Tm.same_eq a b).symm
 generalize Tm.same a b = v at hse ⊢
 cases k1 : (a.kind == b.kind) with
 | false =>
  rw [k1] at hse
  simp only [Bool.false_and] at hse
  subst hse
  have k1' := ne_of_beq k1
  clear k1 ih'
  exact ek_ Tryz.func24 [.tmp 4]
 | true =>
 have k1' := ne_of_beq k1
 rw [k1] at hse
 simp only [Bool.true_and] at hse
 cases k3 : (a.index == b.index) with
 | false =>
  rw [k3] at hse
  simp only [Bool.false_and] at hse
  subst hse
  have k3' := ne_of_beq k3
  clear k1 k3 ih'
  exact ek_ Tryz.func24 [.tmp 4]
 | true =>
 have k3' := ne_of_beq k3
 rw [k3] at hse
 simp only [Bool.true_and] at hse
 cases k4 : Ty.same a.type b.type with
 | false =>
  rw [k4] at hse hT
  simp only [Bool.false_and] at hse
  subst hse
  clear k1 k3 k4 ih'
  exact ek_ Tryz.func24 [.tmp 4]
 | true =>
 rw [k4] at hse hT
 simp only [Bool.true_and] at hse
 clear k1 k3 k4
 cases k2 : ((a.args.length : Int) == (b.args.length : Int)) with
 | false =>
  rw [sameTmL_ne k2] at hse
  subst hse
  have k2' := ne_of_beq k2
  clear k2 ih'
  exact ek_ Tryz.func24 [.tmp 4]
 | true =>
  have k2' := ne_of_beq k2
  have hget := get_same k2
  have hln : a.args.length ≤ b.args.length ∧ b.args.length ≤ a.args.length := by simp at k2; omega
  clear k2
  simp only [Bool.not_true] at k1' k2' k3'
  refine en_ Tryz.func24 [.tmp 4] fun g0 w0 gen hrel hfr hfr' hres => ?_
  refine wq_ ?_
  refine ar_ [2, 3] [⟨gen, 0, 0⟩, ⟨gen, 0, 1⟩] (fun i σ => Agree h σ.h ∧ Tm.sameL (a.args.drop i) (b.args.drop i) = v) (a.args).length ?_ ?_ ?_
  ·simp only [go_sem, *]
   first | done|exact ag_|exact ⟨ag_, hse⟩|exact hse
  ·clear hse
   intro i σ gr0 hgl_gr0 hgn hlt jI jN jS ⟨jA, jv⟩
   obtain ⟨jT, jB⟩ := jS
   simp only [go_sem] at jT jB
   obtain ⟨hgf, hgf0, eg_gen_gr0, eh_gen_gr0⟩ := rnd hgn hgl_gr0 jA
   obtain ⟨x, hx, hxm, hm⟩ := rnx hlt
   clear hgn
   obtain ⟨y, hy⟩ := hget i x hx
   rw [drop_get hx, drop_get hy, Tm.sameL] at jv
   have hc := ih' x hxm y (List.mem_of_getElem? hy)
   clear ih' hget
   cases hxy : Tm.same x y with
   | false =>
    rw [hxy] at hc jv
    simp only [Bool.false_and] at jv
    subst jv
    exact wk_
   | true =>
    rw [hxy] at hc jv
    simp only [Bool.true_and] at jv
    repeat' (first
     |(refine ⟨?_,?_⟩; focus ((repeat' (first|refine ⟨?_,?_⟩|refine .inr ?_)); all_goals kernel_rfl))
     | (first|refine wp rfl ?_|refine spt rfl ?_|refine spf rfl ?_|(refine spl (fun hc => ?_) fun hc => ?_) <;> (try rw [beq_iff_eq] at hc) <;> try simp only [hc]|(refine gs (fun hb => ?_) fun hb => ?_) <;> try simp only [Bool.not_true, Bool.not_false] at hb|refine cp hc ?_|refine AR_inv ?_)<;>try simp only [go_sem, *])
    first | done|exact ag_|exact ⟨ag_, jv⟩|exact jv
  ·clear hse
   intro σ ga0 hgl_ga0 hgn jS ⟨jA, jv⟩
   obtain ⟨jT, jB⟩ := jS
   simp only [go_sem] at jT jB
   obtain ⟨hgf, hgf0, eg_gen_ga0, eh_gen_ga0⟩ := rnd hgn hgl_ga0 jA
   clear hgn
   have hq : a.args.length = b.args.length := by omega
   rw [List.drop_length, hq, List.drop_length, Tm.sameL] at jv
   subst jv
   clear ih' hget hq hln
   exact wk_
theorem c_refTmSameAll (a b : List Tm) (hlen : a.length ≤ 100000) (hb : b.length ≤ 100000) (wa : ∀ x ∈ a, TmW x) (wb : ∀ x ∈ b, TmW x) :
  Pure Tryz.prog env 60 [.sl .any (a.map Tm.cells), .sl .any (b.map Tm.cells)] (.bool (Tm.sameL a b)) := by
 intro h
 have ih' : ∀ x ∈ a, ∀ y ∈ b, Pure Tryz.prog env 24 [.agg x.cells, .agg y.cells] (.bool (Tm.same x y)) := fun x hx y hy => c_refTmSame x (wa x hx) y (wb y hy)
 clear wa wb
 cases k2 : ((a.length : Int) == (b.length : Int)) with
 | false =>
  rw [sameTmL_ne k2]
  have k2' := ne_of_beq k2
  clear k2 ih'
  exact ek_ Tryz.func60 [.tmp 4]
 | true =>
  have k2' := ne_of_beq k2
  have hget := get_same k2
  have hln : a.length ≤ b.length ∧ b.length ≤ a.length := by simp at k2; omega
  clear k2
  simp only [Bool.not_true] at k2'
  have hse : Tm.sameL a b = Tm.sameL a b := rfl
  generalize hv : Tm.sameL a b = v at hse ⊢
  clear hse
  refine en_ Tryz.func60 [.tmp 4] fun g0 w0 gen hrel hfr hfr' hres => ?_
  refine wq_ ?_
  refine ar_ [0, 1] [] (fun i σ => Agree h σ.h ∧ Tm.sameL (a.drop i) (b.drop i) = v) (a).length ?_ ?_ ?_
  ·simp only [go_sem, *]
   first | done|exact ag_|exact ⟨ag_, hv⟩|exact hv
  ·clear hv
   intro i σ gr0 hgl_gr0 hgn hlt jI jN jS ⟨jA, jv⟩
   obtain ⟨jT, jB⟩ := jS
   simp only [go_sem] at jT jB
   obtain ⟨hgf, hgf0, eg_gen_gr0, eh_gen_gr0⟩ := rnd hgn hgl_gr0 jA
   obtain ⟨x, hx, hxm, hm⟩ := rnx hlt
   clear hgn
   obtain ⟨y, hy⟩ := hget i x hx
   rw [drop_get hx, drop_get hy, Tm.sameL] at jv
   have hc := ih' x hxm y (List.mem_of_getElem? hy)
   clear ih' hget
   cases hxy : Tm.same x y with
   | false =>
    rw [hxy] at hc jv
    simp only [Bool.false_and] at jv
    subst jv
    exact wk_
   | true =>
    rw [hxy] at hc jv
    simp only [Bool.true_and] at jv
    repeat' (first
     |(refine ⟨?_,?_⟩; focus ((repeat' (first|refine ⟨?_,?_⟩|refine .inr ?_)); all_goals kernel_rfl))
     | (first|refine wp rfl ?_|refine spt rfl ?_|refine spf rfl ?_|(refine spl (fun hc => ?_) fun hc => ?_) <;> (try rw [beq_iff_eq] at hc) <;> try simp only [hc]|refine cp hc ?_|refine AR_inv ?_)<;>try simp only [go_sem, *])
    first | done|exact ag_|exact ⟨ag_, jv⟩|exact jv
  ·clear hv
   intro σ ga0 hgl_ga0 hgn jS ⟨jA, jv⟩
   obtain ⟨jT, jB⟩ := jS
   simp only [go_sem] at jT jB
   obtain ⟨hgf, hgf0, eg_gen_ga0, eh_gen_ga0⟩ := rnd hgn hgl_ga0 jA
   clear hgn
   have hq : a.length = b.length := by omega
   rw [List.drop_length, hq, List.drop_length, Tm.sameL] at jv
   subst jv
   clear ih' hget hq hln
   exact wk_
theorem c_refFmSame : ∀ a : Fm, FmW a → ∀ b : Fm, FmW b → Pure Tryz.prog env 25 [.agg a.cells, .agg b.cells] (.bool (Fm.same a b)) := by
 intro a
 induction a using Fm.ind with | h a ih => ?_
 intro ha b hb h
 have hlen := ha.len
 have ih' : ∀ x ∈ a.args, ∀ y ∈ b.args, Pure Tryz.prog env 25 [.agg x.cells, .agg y.cells] (.bool (Fm.same x y)) := fun x hx y hy => ih x hx (ha.arg hx) y (hb.arg hy)
 have hT := c_refSame a.type ha.ty b.type hb.ty
 have hM := c_refTmSameAll a.terms b.terms ha.tlen hb.tlen (fun x hx => ha.term hx) (fun x hx => hb.term hx)
 clear ih ha hb
 have hse := (Fm.same_eq a b).symm
 generalize Fm.same a b = v at hse ⊢
 cases k1 : (a.kind == b.kind) with
 | false =>
  rw [k1] at hse
  simp only [Bool.false_and] at hse
  subst hse
  have k1' := ne_of_beq k1
  clear k1 ih'
  exact ek_ Tryz.func25 [.tmp 4]
 | true =>
 have k1' := ne_of_beq k1
 rw [k1] at hse
 simp only [Bool.true_and] at hse
 cases k4 : Ty.same a.type b.type with
 | false =>
  rw [k4] at hse hT
  simp only [Bool.false_and] at hse
  subst hse
  clear k1 k4 ih'
  exact ek_ Tryz.func25 [.tmp 4]
 | true =>
 rw [k4] at hse hT
 simp only [Bool.true_and] at hse
 clear k1 k4
 cases k3 : Tm.sameL a.terms b.terms with
 | false =>
  rw [k3] at hse hM
  simp only [Bool.false_and] at hse
  subst hse
  clear k3 ih'
  exact ek_ Tryz.func25 [.tmp 4]
 | true =>
 rw [k3] at hse hM
 simp only [Bool.true_and] at hse
 clear k3
 cases k2 : ((a.args.length : Int) == (b.args.length : Int)) with
 | false =>
  rw [sameFmL_ne k2] at hse
  subst hse
  have k2' := ne_of_beq k2
  clear k2 ih'
  exact ek_ Tryz.func25 [.tmp 4]
 | true =>
  have k2' := ne_of_beq k2
  have hget := get_same k2
  have hln : a.args.length ≤ b.args.length ∧ b.args.length ≤ a.args.length := by simp at k2; omega
  clear k2
  simp only [Bool.not_true] at k1' k2'
  refine en_ Tryz.func25 [.tmp 4] fun g0 w0 gen hrel hfr hfr' hres => ?_
  refine wq_ ?_
  refine ar_ [2, 3] [⟨gen, 0, 0⟩, ⟨gen, 0, 1⟩] (fun i σ => Agree h σ.h ∧ Fm.sameL (a.args.drop i) (b.args.drop i) = v) (a.args).length ?_ ?_ ?_
  ·simp only [go_sem, *]
   first | done|exact ag_|exact ⟨ag_, hse⟩|exact hse
  ·clear hse
   intro i σ gr0 hgl_gr0 hgn hlt jI jN jS ⟨jA, jv⟩
   obtain ⟨jT, jB⟩ := jS
   simp only [go_sem] at jT jB
   obtain ⟨hgf, hgf0, eg_gen_gr0, eh_gen_gr0⟩ := rnd hgn hgl_gr0 jA
   obtain ⟨x, hx, hxm, hm⟩ := rnx hlt
   clear hgn
   obtain ⟨y, hy⟩ := hget i x hx
   rw [drop_get hx, drop_get hy, Fm.sameL] at jv
   have hc := ih' x hxm y (List.mem_of_getElem? hy)
   clear ih' hget
   cases hxy : Fm.same x y with
   | false =>
    rw [hxy] at hc jv
    simp only [Bool.false_and] at jv
    subst jv
    exact wk_
   | true =>
    rw [hxy] at hc jv
    simp only [Bool.true_and] at jv
    repeat' (first
     |(refine ⟨?_,?_⟩; focus ((repeat' (first|refine ⟨?_,?_⟩|refine .inr ?_)); all_goals kernel_rfl))
     | (first|refine wp rfl ?_|refine spt rfl ?_|refine spf rfl ?_|(refine spl (fun hc => ?_) fun hc => ?_) <;> (try rw [beq_iff_eq] at hc) <;> try simp only [hc]|(refine gs (fun hb => ?_) fun hb => ?_) <;> try simp only [Bool.not_true, Bool.not_false] at hb|refine cp hc ?_|refine AR_inv ?_)<;>try simp only [go_sem, *])
    first | done|exact ag_|exact ⟨ag_, jv⟩|exact jv
  ·clear hse
   intro σ ga0 hgl_ga0 hgn jS ⟨jA, jv⟩
   obtain ⟨jT, jB⟩ := jS
   simp only [go_sem] at jT jB
   obtain ⟨hgf, hgf0, eg_gen_ga0, eh_gen_ga0⟩ := rnd hgn hgl_ga0 jA
   clear hgn
   have hq : a.args.length = b.args.length := by omega
   rw [List.drop_length, hq, List.drop_length, Fm.sameL] at jv
   subst jv
   clear ih' hget hq hln
   exact wk_
end Go.Proofs.YtmbpmbofehmdaaaGreatDoor
