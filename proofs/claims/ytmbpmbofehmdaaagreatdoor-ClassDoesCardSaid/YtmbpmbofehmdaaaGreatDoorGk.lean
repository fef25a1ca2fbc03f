/-
 Walks: the references' lifting of terms, bounded quantifiers; decidable formulas out of the deck.
-/
import Derived.Test.YtmbpmbofehmdaaaGreatDoorMl
import Derived.Test.YtmbpmbofehmdaaaGreatDoorWt
import Derived.Test.YtmbpmbofehmdaaaGreatDoorAbsD
set_option linter.unusedSimpArgs false
set_option linter.unusedVariables false
set_option maxRecDepth 20000
set_option maxHeartbeats 4000000
namespace Go.Proofs.YtmbpmbofehmdaaaGreatDoor
open Go GoAbs Go.Proofs
theorem zT_cells : zeroT.cells = [.int .i64 0, .int .i64 0, .int .i64 0, .sl .any [], .sl .any []] := by simp [zeroT, Tm.mk_cells, Ty.mk_kind, Ty.mk_args]
theorem zF_cells : zeroF.cells = [.int .i64 0, .int .i64 0, .sl .any [], .sl .any [], .sl .any []] := by simp [zeroF, Fm.mk_cells, Ty.mk_kind, Ty.mk_args]
theorem c_tmLift (t : Tm) (ht : TmW t) (fr b : Int) : Pure Tryz.prog env 78 [.agg t.cells, .int .i64 fr, .int .i64 b] (tmErrV (tmLift t fr b)) := by
 intro h
 have h1 := c_tmCheck t ht
 have h2 := c_tmLeast 536870912 t ht
 have h3 := c_tmUp b t ht fr
 have h4 := c_tmCopy _ (tmUp_W (b := b) t fr ht)
 have hz := zT_cells
 unfold tmLift tmErrV
 cases k1 : (tmErr t != 0) with
 | true =>
  simp only [if_true, hz]
  clear h2 h3 h4
  exact ek_ Tryz.func78 [.cell 6 31, .tmp 7]
 | false =>
 simp only [Bool.false_eq_true, if_false]
 cases k2 : decide (fr < 0) with
 | true =>
  simp only [Bool.true_or, if_true, hz]
  clear h2 h3 h4
  exact ek_ Tryz.func78 [.cell 6 31, .tmp 7]
 | false =>
 cases k3 : decide (fr > 4096) with
 | true =>
  simp only [Bool.or_true, Bool.true_or, if_true, hz]
  clear h2 h3 h4
  exact ek_ Tryz.func78 [.cell 6 31, .tmp 7]
 | false =>
 cases k4 : decide (b < 0) with
 | true =>
  simp only [Bool.or_true, Bool.true_or, if_true, hz]
  clear h2 h3 h4
  exact ek_ Tryz.func78 [.cell 6 31, .tmp 7]
 | false =>
 cases k5 : decide (b > 4096) with
 | true =>
  simp only [Bool.or_true, Bool.true_or, if_true, hz]
  clear h2 h3 h4
  exact ek_ Tryz.func78 [.cell 6 31, .tmp 7]
 | false =>
 cases k6 : t.least 536870912 with
 | false =>
  rw [k6] at h2
  simp only [Bool.not_false, Bool.or_true, if_true, hz]
  clear h3 h4
  exact ek_ Tryz.func78 [.cell 6 31, .tmp 7]
 | true =>
  rw [k6] at h2
  simp only [Bool.not_true, Bool.or_false, Bool.false_eq_true, if_false]
  exact ek_ Tryz.func78 [.cell 6 31, .tmp 7]
theorem c_less08 (s t : Tm) (hs : TmW s) (ht : TmW t) : Pure Tryz.prog env 83 [.agg s.cells, .agg t.cells] (.agg (lessF s t).cells) := by
 intro h
 have w1 : TmW (tm0 5 [s]) := tm0_W1 hs
 have w2 : TmW (tm0 3 [subT, tm0 5 [s]]) := tm0_W2 subT_W w1
 have w3 : TmW (tm0 3 [tm0 3 [subT, tm0 5 [s]], t]) := tm0_W2 w2 ht
 have h1 := c_N 5 [s] (by simp) (by simp [hs])
 have h2 := c_N 3 [subT, tm0 5 [s]] (by simp) (by simp [subT_W, w1])
 have h3 := c_N 3 [tm0 3 [subT, tm0 5 [s]], t] (by simp) (by simp [w2, ht])
 have h4 := c_N 4 [] (by simp) (by simp)
 have h5 := c_Eq _ _ w3 (tm0_W0 (k := 4))
 simp only [List.map_cons, List.map_nil] at h1 h2 h3 h4
 clear w1 w2 w3
 unfold lessF
 generalize tm0 3 [tm0 3 [subT, tm0 5 [s]], t] = z3 at *
 generalize tm0 3 [subT, tm0 5 [s]] = z2 at *
 generalize tm0 5 [s] = z1 at *
 have zq0 := c_Sub
 exact ek_ Tryz.func83 [.cell 4 29]
theorem c_Less08 (s t : Tm) (hs : TmW s) (ht : TmW t) : Pure Tryz.prog env 36 [.agg s.cells, .agg t.cells] (fmErrV (lessR s t)) := by
 intro h
 have h1 := c_tmCheck s hs
 have h2 := c_tmCheck t ht
 have h3 := c_less08 s t hs ht
 have wl := lessF_W hs ht
 have h4 := c_fmCount _ wl
 have hterms : (lessF s t).terms = [ft (lessF s t) 0, tm0 4 []] := rfl
 have h5 := c_tmCount (ft (lessF s t) 0) (wl.term (by rw [hterms]; simp))
 have hz := zF_cells
 unfold lessR fmErrV
 clear wl
 generalize ft (lessF s t) 0 = z at *
 generalize lessF s t = y at *
 cases k1 : (tmErr s != 0) with
 | true =>
  simp only [if_true, hz]
  clear h2 h3 h4 h5 hterms
  exact ek_ Tryz.func36 [.cell 4 29, .tmp 5]
 | false =>
 simp only [Bool.false_eq_true, if_false]
 cases k2 : (tmErr t != 0) with
 | true =>
  simp only [if_true, hz]
  clear h3 h4 h5 hterms
  exact ek_ Tryz.func36 [.cell 4 29, .tmp 5]
 | false =>
 simp only [Bool.false_eq_true, if_false]
 cases k3 : decide (z.szW > 4096) with
 | true =>
  simp only [Bool.true_or, if_true, hz]
  clear h4
  exact ek_ Tryz.func36 [.cell 4 29, .tmp 5]
 | false =>
 cases k4 : decide (y.szW > 4096) with
 | true =>
  simp only [Bool.or_true, if_true, hz]
  exact ek_ Tryz.func36 [.cell 4 29, .tmp 5]
 | false =>
  simp only [Bool.or_false, Bool.false_eq_true, if_false]
  exact ek_ Tryz.func36 [.cell 4 29, .tmp 5]
theorem c_Bounded08 (all : Bool) (t : Tm) (ht : TmW t) (f : Fm) (hf : FmW f) : Pure Tryz.prog env 34 [.bool all, .agg t.cells, .agg f.cells] (fmErrV (bndR all t f)) := by
 intro h
 have h1 := c_tmLift t ht 0 1
 have h2 := c_refFmCheck f hf
 have wx : TmW (tmLift t 0 1).1 := by
  unfold tmLift
  repeat' split
  all_goals first|exact zeroT_W|exact tmUp_W _ _ ht
 have h3 := c_Less08 (tmVar 0) (tmLift t 0 1).1 (tmVar_W 0) wx
 have hz := zF_cells
 unfold bndR fmErrV
 generalize tmLift t 0 1 = p at *
 obtain ⟨x, e⟩ := p
 simp only [tmErrV] at h1 h3 wx ⊢
 cases k1 : (e != 0) with
 | true =>
  simp only [if_true, hz]
  clear h2 h3
  exact ek_ Tryz.func34 [.cell 6 29, .tmp 7]
 | false =>
 simp only [Bool.false_eq_true, if_false]
 cases k2 : (fmErr f != 0) with
 | true =>
  simp only [if_true, hz]
  clear h3
  exact ek_ Tryz.func34 [.cell 6 29, .tmp 7]
 | false =>
 simp only [Bool.false_eq_true, if_false]
 have wl : (lessR (tmVar 0) x).2 = 0 → (lessR (tmVar 0) x).1 = lessF (tmVar 0) x := by
  unfold lessR
  repeat' split
  all_goals (intro h; first | rfl | (simp at h; simp [h] at *) | simp_all)
 cases k3 : ((lessR (tmVar 0) x).2 != 0) with
 | true =>
  clear wl
  generalize lessR (tmVar 0) x = p at *
  obtain ⟨y, e3⟩ := p
  simp only [fmErrV] at h3 k3 ⊢
  simp only [if_true, hz]
  have zq0 := c_Var 0
  exact ek_ Tryz.func34 [.cell 6 29, .tmp 7]
 | false =>
 simp only [Bool.false_eq_true, if_false]
 have wl := wl (by simpa using k3)
 have wL : FmW (lessF (tmVar 0) x) := lessF_W (tmVar_W 0) wx
 have hB := bndF_W (all := all) wx hf
 have h8 := c_fmCount _ hB
 unfold bndF at h8 ⊢
 generalize lessR (tmVar 0) x = p at *
 obtain ⟨y, e3⟩ := p
 simp only [fmErrV] at h3 k3 wl
 subst wl
 have h4 := c_fmTwo 2 _ f wL hf
 have h5 := c_fmQ 5 tNat _ tNat_W (fmTwo_W (k := 2) wL hf)
 have h6 := c_fmTwo 3 _ f wL hf
 have h7 := c_fmQ 4 tNat _ tNat_W (fmTwo_W (k := 3) wL hf)
 have hV := c_Var 0
 clear hB wL hf wx ht
 cases all with
 | true =>
  simp only [if_true] at h8 ⊢
  generalize lessF (tmVar 0) x = y at *
  generalize fmTwo 2 y f = y2 at *
  generalize fmTwo 3 y f = y3 at *
  generalize fmQ 5 tNat y2 = y5 at *
  generalize fmQ 4 tNat y3 = y4 at *
  cases k4 : decide (y4.szW > 4096)
  all_goals
   simp only [if_true, Bool.false_eq_true, if_false, hz]
   have zq0 := c_refNat
   exact ek_ Tryz.func34 [.cell 6 29, .tmp 7]
 | false =>
  simp only [Bool.false_eq_true, if_false] at h8 ⊢
  generalize lessF (tmVar 0) x = y at *
  generalize fmTwo 2 y f = y2 at *
  generalize fmQ 5 tNat y2 = y5 at *
  clear h6 h7
  cases k4 : decide (y5.szW > 4096)
  all_goals
   simp only [if_true, Bool.false_eq_true, if_false, hz]
   have zq0 := c_refNat
   exact ek_ Tryz.func34 [.cell 6 29, .tmp 7]
end Go.Proofs.YtmbpmbofehmdaaaGreatDoor
