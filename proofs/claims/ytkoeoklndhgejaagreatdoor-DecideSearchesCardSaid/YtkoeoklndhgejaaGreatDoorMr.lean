/-
 Walks: several parts in one text.
-/
import Derived.Test.YtkoeoklndhgejaaGreatDoorVd
import Derived.Test.YtkoeoklndhgejaaGreatDoorMd
import Derived.Test.YtkoeoklndhgejaaGreatDoorAbsD
import Derived.Test.YtkoeoklndhgejaaGreatDoorGa
import Derived.Test.YtkoeoklndhgejaaGreatDoorMa
set_option linter.unusedSimpArgs false
set_option linter.unusedVariables false
set_option maxRecDepth 20000
set_option maxHeartbeats 4000000
namespace Go.Proofs.YtkoeoklndhgejaaGreatDoor
open Go GoAbs Go.Proofs
theorem zT_cells : zeroT.cells = [.int .i64 0, .int .i64 0, .int .i64 0, .sl .any [], .sl .any []] := by simp [zeroT, Tm.mk_cells, Ty.mk_kind, Ty.mk_args]
theorem zF_cells : zeroF.cells = [.int .i64 0, .int .i64 0, .sl .any [], .sl .any [], .sl .any []] := by simp [zeroF, Fm.mk_cells, Ty.mk_kind, Ty.mk_args]
theorem c_tmLift (t : Tm) (ht : TmW t) (fr b : Int) : Pure Tryz.prog env 82 [.agg t.cells, .int .i64 fr, .int .i64 b] (tmErrV (tmLift t fr b)) := by
 intro h
 have h1 := c_tmCheck t ht
 have h2 := c_tmLeast 536870912 t ht
 have h3 := c_tmUp b t ht fr
 have h4 := c_tmCopy _ (tmUp_W (b := b) t fr ht)
 have hz := zT_cells
 unfold tmLift tmErrV
 cases k1 : (tmErr t != 0) with
 | true =>
  simp only [if_true, hz]
  clear h2 h3 h4
  exact ek_ Tryz.func82 [.cell 6 73, .tmp 7]
 | false =>
 simp only [Bool.false_eq_true, if_false]
 cases k2 : decide (fr < 0) with
 | true =>
  simp only [Bool.true_or, if_true, hz]
  clear h2 h3 h4
  exact ek_ Tryz.func82 [.cell 6 73, .tmp 7]
 | false =>
 cases k3 : decide (fr > 4096) with
 | true =>
  simp only [Bool.or_true, Bool.true_or, if_true, hz]
  clear h2 h3 h4
  exact ek_ Tryz.func82 [.cell 6 73, .tmp 7]
 | false =>
 cases k4 : decide (b < 0) with
 | true =>
  simp only [Bool.or_true, Bool.true_or, if_true, hz]
  clear h2 h3 h4
  exact ek_ Tryz.func82 [.cell 6 73, .tmp 7]
 | false =>
 cases k5 : decide (b > 4096) with
 | true =>
  simp only [Bool.or_true, Bool.true_or, if_true, hz]
  clear h2 h3 h4
  exact ek_ Tryz.func82 [.cell 6 73, .tmp 7]
 | false =>
 cases k6 : t.least 536870912 with
 | false =>
  rw [k6] at h2
  simp only [Bool.not_false, Bool.or_true, if_true, hz]
  clear h3 h4
  exact ek_ Tryz.func82 [.cell 6 73, .tmp 7]
 | true =>
  rw [k6] at h2
  simp only [Bool.not_true, Bool.or_false, Bool.false_eq_true, if_false]
  exact ek_ Tryz.func82 [.cell 6 73, .tmp 7]
theorem c_less08 (s t : Tm) (hs : TmW s) (ht : TmW t) : Pure Tryz.prog env 75 [.agg s.cells, .agg t.cells] (.agg (lessF s t).cells) := by
 intro h
 have w1 : TmW (tm0 5 [s]) := tm0_W1 hs
 have w2 : TmW (tm0 3 [subT, tm0 5 [s]]) := tm0_W2 subT_W w1
 have w3 : TmW (tm0 3 [tm0 3 [subT, tm0 5 [s]], t]) := tm0_W2 w2 ht
 have h1 := c_N 5 [s] (by simp) (by simp [hs])
 have h2 := c_N 3 [subT, tm0 5 [s]] (by simp) (by simp [subT_W, w1])
 have h3 := c_N 3 [tm0 3 [subT, tm0 5 [s]], t] (by simp) (by simp [w2, ht])
 have h4 := c_N 4 [] (by simp) (by simp)
 have h5 := c_Eq _ _ w3 (tm0_W0 (k := 4))
 simp only [List.map_cons, List.map_nil] at h1 h2 h3 h4
 clear w1 w2 w3
 unfold lessF
 generalize tm0 3 [tm0 3 [subT, tm0 5 [s]], t] = z3 at *
 generalize tm0 3 [subT, tm0 5 [s]] = z2 at *
 generalize tm0 5 [s] = z1 at *
 have zq0 := c_Sub
 exact ek_ Tryz.func75 [.cell 4 29]
theorem c_Less08 (s t : Tm) (hs : TmW s) (ht : TmW t) : Pure Tryz.prog env 33 [.agg s.cells, .agg t.cells] (fmErrV (lessR s t)) := by
 intro h
 have h1 := c_tmCheck s hs
 have h2 := c_tmCheck t ht
 have h3 := c_less08 s t hs ht
 have wl := lessF_W hs ht
 have h4 := c_fmCount _ wl
 have hterms : (lessF s t).terms = [ft (lessF s t) 0, tm0 4 []] := rfl
 have h5 := c_tmCount (ft (lessF s t) 0) (wl.term (by rw [hterms]; simp))
 have hz := zF_cells
 unfold lessR fmErrV
 clear wl
 generalize ft (lessF s t) 0 = z at *
 generalize lessF s t = y at *
 cases k1 : (tmErr s != 0) with
 | true =>
  simp only [if_true, hz]
  clear h2 h3 h4 h5 hterms
  exact ek_ Tryz.func33 [.cell 4 29, .tmp 5]
 | false =>
 simp only [Bool.false_eq_true, if_false]
 cases k2 : (tmErr t != 0) with
 | true =>
  simp only [if_true, hz]
  clear h3 h4 h5 hterms
  exact ek_ Tryz.func33 [.cell 4 29, .tmp 5]
 | false =>
 simp only [Bool.false_eq_true, if_false]
 cases k3 : decide (z.szW > 4096) with
 | true =>
  simp only [Bool.true_or, if_true, hz]
  clear h4
  exact ek_ Tryz.func33 [.cell 4 29, .tmp 5]
 | false =>
 cases k4 : decide (y.szW > 4096) with
 | true =>
  simp only [Bool.or_true, if_true, hz]
  exact ek_ Tryz.func33 [.cell 4 29, .tmp 5]
 | false =>
  simp only [Bool.or_false, Bool.false_eq_true, if_false]
  exact ek_ Tryz.func33 [.cell 4 29, .tmp 5]
theorem c_Bounded08 (all : Bool) (t : Tm) (ht : TmW t) (f : Fm) (hf : FmW f) : Pure Tryz.prog env 38 [.bool all, .agg t.cells, .agg f.cells] (fmErrV (bndR all t f)) := by
 intro h
 have h1 := c_tmLift t ht 0 1
 have h2 := c_refFmCheck f hf
 have wx : TmW (tmLift t 0 1).1 := by
  unfold tmLift
  repeat' split
  all_goals first|exact zeroT_W|exact tmUp_W _ _ ht
 have h3 := c_Less08 (tmVar 0) (tmLift t 0 1).1 (tmVar_W 0) wx
 have hz := zF_cells
 unfold bndR fmErrV
 generalize tmLift t 0 1 = p at *
 obtain ⟨x, e⟩ := p
 simp only [tmErrV] at h1 h3 wx ⊢
 cases k1 : (e != 0) with
 | true =>
  simp only [if_true, hz]
  clear h2 h3
  exact ek_ Tryz.func38 [.cell 6 29, .tmp 7]
 | false =>
 simp only [Bool.false_eq_true, if_false]
 cases k2 : (fmErr f != 0) with
 | true =>
  simp only [if_true, hz]
  clear h3
  exact ek_ Tryz.func38 [.cell 6 29, .tmp 7]
 | false =>
 simp only [Bool.false_eq_true, if_false]
 have wl : (lessR (tmVar 0) x).2 = 0 → (lessR (tmVar 0) x).1 = lessF (tmVar 0) x := by
  unfold lessR
  repeat' split
  all_goals (intro h; first | rfl | (simp at h; simp [h] at *) | simp_all)
 cases k3 : ((lessR (tmVar 0) x).2 != 0) with
 | true =>
  clear wl
  generalize lessR (tmVar 0) x = p at *
  obtain ⟨y, e3⟩ := p
  simp only [fmErrV] at h3 k3 ⊢
  simp only [if_true, hz]
  have zq0 := c_Var 0
  exact ek_ Tryz.func38 [.cell 6 29, .tmp 7]
 | false =>
 simp only [Bool.false_eq_true, if_false]
 have wl := wl (by simpa using k3)
 have wL : FmW (lessF (tmVar 0) x) := lessF_W (tmVar_W 0) wx
 have hB := bndF_W (all := all) wx hf
 have h8 := c_fmCount _ hB
 unfold bndF at h8 ⊢
 generalize lessR (tmVar 0) x = p at *
 obtain ⟨y, e3⟩ := p
 simp only [fmErrV] at h3 k3 wl
 subst wl
 have h4 := c_fmTwo 2 _ f wL hf
 have h5 := c_fmQ 5 tNat _ tNat_W (fmTwo_W (k := 2) wL hf)
 have h6 := c_fmTwo 3 _ f wL hf
 have h7 := c_fmQ 4 tNat _ tNat_W (fmTwo_W (k := 3) wL hf)
 have hV := c_Var 0
 clear hB wL hf wx ht
 cases all with
 | true =>
  simp only [if_true] at h8 ⊢
  generalize lessF (tmVar 0) x = y at *
  generalize fmTwo 2 y f = y2 at *
  generalize fmTwo 3 y f = y3 at *
  generalize fmQ 5 tNat y2 = y5 at *
  generalize fmQ 4 tNat y3 = y4 at *
  cases k4 : decide (y4.szW > 4096)
  all_goals
   simp only [if_true, Bool.false_eq_true, if_false, hz]
   have zq0 := c_refNat
   exact ek_ Tryz.func38 [.cell 6 29, .tmp 7]
 | false =>
  simp only [Bool.false_eq_true, if_false] at h8 ⊢
  generalize lessF (tmVar 0) x = y at *
  generalize fmTwo 2 y f = y2 at *
  generalize fmQ 5 tNat y2 = y5 at *
  clear h6 h7
  cases k4 : decide (y5.szW > 4096)
  all_goals
   simp only [if_true, Bool.false_eq_true, if_false, hz]
   have zq0 := c_refNat
   exact ek_ Tryz.func38 [.cell 6 29, .tmp 7]
theorem c_refTmSame : ∀ a : Tm, TmW a → ∀ b : Tm, TmW b → Pure Tryz.prog env 223 [.agg a.cells, .agg b.cells] (.bool (Tm.same a b)) := by
 intro a
 induction a using Tm.ind with | h a ih => ?_
 intro ha b hb h
 have hlen := ha.len
 have ih' : ∀ x ∈ a.args, ∀ y ∈ b.args, Pure Tryz.prog env 223 [.agg x.cells, .agg y.cells] (.bool (Tm.same x y)) := fun x hx y hy => ih x hx (ha.arg hx) y (hb.arg hy)
 have hT := c_refSame a.type ha.ty b.type hb.ty
 clear ih ha hb
 have hse := (Tm.same_eq a b).symm
 generalize Tm.same a b = v at hse ⊢
 cases k1 : (a.kind == b.kind) with
 | false =>
  rw [k1] at hse
  simp only [Bool.false_and] at hse
  subst hse
  have k1' := ne_of_beq k1
  clear k1 ih'
  exact ek_ Tryz.func223 [.tmp 4]
 | true =>
 have k1' := ne_of_beq k1
 rw [k1] at hse
 simp only [Bool.true_and] at hse
 cases k3 : (a.index == b.index) with
 | false =>
  rw [k3] at hse
  simp only [Bool.false_and] at hse
  subst hse
  have k3' := ne_of_beq k3
  clear k1 k3 ih'
  exact ek_ Tryz.func223 [.tmp 4]
 | true =>
 have k3' := ne_of_beq k3
 rw [k3] at hse
 simp only [Bool.true_and] at hse
 cases k4 : Ty.same a.type b.type with
 | false =>
  rw [k4] at hse hT
  simp only [Bool.false_and] at hse
  subst hse
  clear k1 k3 k4 ih'
  exact ek_ Tryz.func223 [.tmp 4]
 | true =>
 rw [k4] at hse hT
 simp only [Bool.true_and] at hse
 clear k1 k3 k4
 cases k2 : ((a.args.length : Int) == (b.args.length : Int)) with
 | false =>
  rw [sameTmL_ne k2] at hse
  subst hse
  have k2' := ne_of_beq k2
  clear k2 ih'
  exact ek_ Tryz.func223 [.tmp 4]
 | true =>
  have k2' := ne_of_beq k2
  have hget := get_same k2
  have hln : a.args.length ≤ b.args.length ∧ b.args.length ≤ a.args.length := by simp at k2; omega
  clear k2
  simp only [Bool.not_true] at k1' k2' k3'
  refine en_ Tryz.func223 [.tmp 4] fun g0 w0 gen hrel hfr hfr' hres => ?_
  refine wq_ ?_
  refine ar_ [2, 3] [⟨gen, 0, 0⟩, ⟨gen, 0, 1⟩] (fun i σ => Agree h σ.h ∧ Tm.sameL (a.args.drop i) (b.args.drop i) = v) (a.args).length ?_ ?_ ?_
  ·simp only [go_sem, *]
   first | done|exact ag_|exact ⟨ag_, hse⟩|exact hse
  ·clear hse
   intro i σ gr0 hgl_gr0 hgn hlt jI jN jS ⟨jA, jv⟩
   obtain ⟨jT, jB⟩ := jS
   simp only [go_sem] at jT jB
   obtain ⟨hgf, hgf0, eg_gen_gr0, eh_gen_gr0⟩ := rnd hgn hgl_gr0 jA
   obtain ⟨x, hx, hxm, hm⟩ := rnx hlt
   clear hgn
   obtain ⟨y, hy⟩ := hget i x hx
   rw [drop_get hx, drop_get hy, Tm.sameL] at jv
   have hc := ih' x hxm y (List.mem_of_getElem? hy)
   clear ih' hget
   cases hxy : Tm.same x y with
   | false =>
    rw [hxy] at hc jv
    simp only [Bool.false_and] at jv
    subst jv
    exact wk_
   | true =>
    rw [hxy] at hc jv
    simp only [Bool.true_and] at jv
    repeat' (first
     |(refine ⟨?_,?_⟩; focus ((repeat' (first|refine ⟨?_,?_⟩|refine .inr ?_)); all_goals kernel_rfl))
     | (first|refine wp rfl ?_|refine spt rfl ?_|refine spf rfl ?_|(refine spl (fun hc => ?_) fun hc => ?_) <;> (try rw [beq_iff_eq] at hc) <;> try simp only [hc]|(refine gs (fun hb => ?_) fun hb => ?_) <;> try simp only [Bool.not_true, Bool.not_false] at hb|refine cp hc ?_|refine AR_inv ?_)<;>try simp only [go_sem, *])
    first | done|exact ag_|exact ⟨ag_, jv⟩|exact jv
  ·clear hse
   intro σ ga0 hgl_ga0 hgn jS ⟨jA, jv⟩
   obtain ⟨jT, jB⟩ := jS
   simp only [go_sem] at jT jB
   obtain ⟨hgf, hgf0, eg_gen_ga0, eh_gen_ga0⟩ := rnd hgn hgl_ga0 jA
   clear hgn
   have hq : a.args.length = b.args.length := by omega
   rw [List.drop_length, hq, List.drop_length, Tm.sameL] at jv
   subst jv
   clear ih' hget hq hln
   exact wk_
theorem c_refTmSameAll (a b : List Tm) (hlen : a.length ≤ 100000) (hb : b.length ≤ 100000) (wa : ∀ x ∈ a, TmW x) (wb : ∀ x ∈ b, TmW x) :
  Pure Tryz.prog env 204 [.sl .any (a.map Tm.cells), .sl .any (b.map Tm.cells)] (.bool (Tm.sameL a b)) := by
 intro h
 have ih' : ∀ x ∈ a, ∀ y ∈ b, Pure Tryz.prog env 223 [.agg x.cells, .agg y.cells] (.bool (Tm.same x y)) := fun x hx y hy => c_refTmSame x (wa x hx) y (wb y hy)
 clear wa wb
 cases k2 : ((a.length : Int) == (b.length : Int)) with
 | false =>
  rw [sameTmL_ne k2]
  have k2' := ne_of_beq k2
  clear k2 ih'
  exact ek_ Tryz.func204 [.tmp 4]
 | true =>
  have k2' := ne_of_beq k2
  have hget := get_same k2
  have hln : a.length ≤ b.length ∧ b.length ≤ a.length := by simp at k2; omega
  clear k2
  simp only [Bool.not_true] at k2'
  have hse : Tm.sameL a b = Tm.sameL a b := rfl
  generalize hv : Tm.sameL a b = v at hse ⊢
  clear hse
  refine en_ Tryz.func204 [.tmp 4] fun g0 w0 gen hrel hfr hfr' hres => ?_
  refine wq_ ?_
  refine ar_ [0, 1] [] (fun i σ => Agree h σ.h ∧ Tm.sameL (a.drop i) (b.drop i) = v) (a).length ?_ ?_ ?_
  ·simp only [go_sem, *]
   first | done|exact ag_|exact ⟨ag_, hv⟩|exact hv
  ·clear hv
   intro i σ gr0 hgl_gr0 hgn hlt jI jN jS ⟨jA, jv⟩
   obtain ⟨jT, jB⟩ := jS
   simp only [go_sem] at jT jB
   obtain ⟨hgf, hgf0, eg_gen_gr0, eh_gen_gr0⟩ := rnd hgn hgl_gr0 jA
   obtain ⟨x, hx, hxm, hm⟩ := rnx hlt
   clear hgn
   obtain ⟨y, hy⟩ := hget i x hx
   rw [drop_get hx, drop_get hy, Tm.sameL] at jv
   have hc := ih' x hxm y (List.mem_of_getElem? hy)
   clear ih' hget
   cases hxy : Tm.same x y with
   | false =>
    rw [hxy] at hc jv
    simp only [Bool.false_and] at jv
    subst jv
    exact wk_
   | true =>
    rw [hxy] at hc jv
    simp only [Bool.true_and] at jv
    repeat' (first
     |(refine ⟨?_,?_⟩; focus ((repeat' (first|refine ⟨?_,?_⟩|refine .inr ?_)); all_goals kernel_rfl))
     | (first|refine wp rfl ?_|refine spt rfl ?_|refine spf rfl ?_|(refine spl (fun hc => ?_) fun hc => ?_) <;> (try rw [beq_iff_eq] at hc) <;> try simp only [hc]|refine cp hc ?_|refine AR_inv ?_)<;>try simp only [go_sem, *])
    first | done|exact ag_|exact ⟨ag_, jv⟩|exact jv
  ·clear hv
   intro σ ga0 hgl_ga0 hgn jS ⟨jA, jv⟩
   obtain ⟨jT, jB⟩ := jS
   simp only [go_sem] at jT jB
   obtain ⟨hgf, hgf0, eg_gen_ga0, eh_gen_ga0⟩ := rnd hgn hgl_ga0 jA
   clear hgn
   have hq : a.length = b.length := by omega
   rw [List.drop_length, hq, List.drop_length, Tm.sameL] at jv
   subst jv
   clear ih' hget hq hln
   exact wk_
theorem c_refFmSame : ∀ a : Fm, FmW a → ∀ b : Fm, FmW b → Pure Tryz.prog env 168 [.agg a.cells, .agg b.cells] (.bool (Fm.same a b)) := by
 intro a
 induction a using Fm.ind with | h a ih => ?_
 intro ha b hb h
 have hlen := ha.len
 have ih' : ∀ x ∈ a.args, ∀ y ∈ b.args, Pure Tryz.prog env 168 [.agg x.cells, .agg y.cells] (.bool (Fm.same x y)) := fun x hx y hy => ih x hx (ha.arg hx) y (hb.arg hy)
 have hT := c_refSame a.type ha.ty b.type hb.ty
 have hM := c_refTmSameAll a.terms b.terms ha.tlen hb.tlen (fun x hx => ha.term hx) (fun x hx => hb.term hx)
 clear ih ha hb
 have hse := (Fm.same_eq a b).symm
 generalize Fm.same a b = v at hse ⊢
 cases k1 : (a.kind == b.kind) with
 | false =>
  rw [k1] at hse
  simp only [Bool.false_and] at hse
  subst hse
  have k1' := ne_of_beq k1
  clear k1 ih'
  exact ek_ Tryz.func168 [.tmp 4]
 | true =>
 have k1' := ne_of_beq k1
 rw [k1] at hse
 simp only [Bool.true_and] at hse
 cases k4 : Ty.same a.type b.type with
 | false =>
  rw [k4] at hse hT
  simp only [Bool.false_and] at hse
  subst hse
  clear k1 k4 ih'
  exact ek_ Tryz.func168 [.tmp 4]
 | true =>
 rw [k4] at hse hT
 simp only [Bool.true_and] at hse
 clear k1 k4
 cases k3 : Tm.sameL a.terms b.terms with
 | false =>
  rw [k3] at hse hM
  simp only [Bool.false_and] at hse
  subst hse
  clear k3 ih'
  exact ek_ Tryz.func168 [.tmp 4]
 | true =>
 rw [k3] at hse hM
 simp only [Bool.true_and] at hse
 clear k3
 cases k2 : ((a.args.length : Int) == (b.args.length : Int)) with
 | false =>
  rw [sameFmL_ne k2] at hse
  subst hse
  have k2' := ne_of_beq k2
  clear k2 ih'
  exact ek_ Tryz.func168 [.tmp 4]
 | true =>
  have k2' := ne_of_beq k2
  have hget := get_same k2
  have hln : a.args.length ≤ b.args.length ∧ b.args.length ≤ a.args.length := by simp at k2; omega
  clear k2
  simp only [Bool.not_true] at k1' k2'
  refine en_ Tryz.func168 [.tmp 4] fun g0 w0 gen hrel hfr hfr' hres => ?_
  refine wq_ ?_
  refine ar_ [2, 3] [⟨gen, 0, 0⟩, ⟨gen, 0, 1⟩] (fun i σ => Agree h σ.h ∧ Fm.sameL (a.args.drop i) (b.args.drop i) = v) (a.args).length ?_ ?_ ?_
  ·simp only [go_sem, *]
   first | done|exact ag_|exact ⟨ag_, hse⟩|exact hse
  ·clear hse
   intro i σ gr0 hgl_gr0 hgn hlt jI jN jS ⟨jA, jv⟩
   obtain ⟨jT, jB⟩ := jS
   simp only [go_sem] at jT jB
   obtain ⟨hgf, hgf0, eg_gen_gr0, eh_gen_gr0⟩ := rnd hgn hgl_gr0 jA
   obtain ⟨x, hx, hxm, hm⟩ := rnx hlt
   clear hgn
   obtain ⟨y, hy⟩ := hget i x hx
   rw [drop_get hx, drop_get hy, Fm.sameL] at jv
   have hc := ih' x hxm y (List.mem_of_getElem? hy)
   clear ih' hget
   cases hxy : Fm.same x y with
   | false =>
    rw [hxy] at hc jv
    simp only [Bool.false_and] at jv
    subst jv
    exact wk_
   | true =>
    rw [hxy] at hc jv
    simp only [Bool.true_and] at jv
    repeat' (first
     |(refine ⟨?_,?_⟩; focus ((repeat' (first|refine ⟨?_,?_⟩|refine .inr ?_)); all_goals kernel_rfl))
     | (first|refine wp rfl ?_|refine spt rfl ?_|refine spf rfl ?_|(refine spl (fun hc => ?_) fun hc => ?_) <;> (try rw [beq_iff_eq] at hc) <;> try simp only [hc]|(refine gs (fun hb => ?_) fun hb => ?_) <;> try simp only [Bool.not_true, Bool.not_false] at hb|refine cp hc ?_|refine AR_inv ?_)<;>try simp only [go_sem, *])
    first | done|exact ag_|exact ⟨ag_, jv⟩|exact jv
  ·clear hse
   intro σ ga0 hgl_ga0 hgn jS ⟨jA, jv⟩
   obtain ⟨jT, jB⟩ := jS
   simp only [go_sem] at jT jB
   obtain ⟨hgf, hgf0, eg_gen_ga0, eh_gen_ga0⟩ := rnd hgn hgl_ga0 jA
   clear hgn
   have hq : a.args.length = b.args.length := by omega
   rw [List.drop_length, hq, List.drop_length, Fm.sameL] at jv
   subst jv
   clear ih' hget hq hln
   exact wk_
end Go.Proofs.YtkoeoklndhgejaaGreatDoor
