/-
  Walks: the sanity check of chapter 29; what the laws make; the law of MatrixNot.
-/
import Derived.Test.YtnhjlnkogoihhaaGreatDoorHf
import Derived.Test.YtnhjlnkogoihhaaGreatDoorHh
import Derived.Test.YtnhjlnkogoihhaaGreatDoorGm
import Derived.Test.YtnhjlnkogoihhaaGreatDoorWu
import Derived.Test.YtnhjlnkogoihhaaGreatDoorAbsD
set_option linter.unusedSimpArgs false
set_option linter.unusedVariables false
set_option maxRecDepth 20000
set_option maxHeartbeats 4000000
namespace Go.Proofs.YtnhjlnkogoihhaaGreatDoor
open Go GoAbs Go.Proofs

def aw29 : Fm := fmQ 4 tNat (fmQ 5 tNat (fmEq (tmVar 0) (tmVar 1)))
theorem aw29_W : FmW aw29 := fmQ_W tNat_W (fmQ_W tNat_W (fmEq_W (tmVar_W _) (tmVar_W _)))

theorem c_awake29 : Pure Tryz.prog env 68 [] (.bool true) := by
  intro h
  have h1 := c_matF aw29 aw29_W (tmVar 4) (tm0 4 []) (tmVar_W _) tm0_W0
  have e1 : matF aw29 (tmVar 4) (tm0 4 []) = (fmEq (tm0 3 [tmVar 4, tm0 4 []]) (tm0 4 []), 0) := by kernel_rfl
  rw [e1] at h1
  have h2 := c_mFree aw29 aw29_W
  have e2 : aw29.mfree = false := by kernel_rfl
  rw [e2] at h2
  have h3 := c_mFree (fmEq (tm0 3 [tmVar 4, tm0 4 []]) (tm0 4 [])) (fmEq_W (tm0_W2 (tmVar_W _) tm0_W0) tm0_W0)
  have e3 : (fmEq (tm0 3 [tmVar 4, tm0 4 []]) (tm0 4 [])).mfree = true := by kernel_rfl
  rw [e3] at h3
  simp only [fmErrV, aw29, tNat, tm0, tmVar, fmQ, fmEq, Ty.mk_cells, Tm.mk_cells, Fm.mk_cells, Ty.mk_kind, Ty.mk_args, List.map_cons, List.map_nil] at h1 h2 h3
  clear e1 e2 e3
  refine enter Tryz.func68 [.tmp 0] rfl (by kernel_rfl) follows (by kernel_rfl) rfl fun g0 w0 gen hrel hfr hfr' hres => ?_
  repeat' (first
    | exact hin _ | exact agf (by assumption)
    | (first | refine wp rfl ?_ | (refine guarded_split (fun hb => ?_) fun hb => ?_) <;> try simp only [Bool.not_true, Bool.not_false] at hb | refine Call1_pure (h1) ?_ | refine Call1_pure (h2) ?_ | refine Call1_pure (h3) ?_ | refine finF hrel ?_ ?_ ?_) <;> try simp only [go_sem, *])
  all_goals (simp at hb)

theorem f40_of {n : Nat} {t : Ty} (hn : n ≤ 30) (h : MkTy n t) : TyF t ∧ tyH t ≤ 40 := ⟨h.F, by have := h.H; omega⟩

theorem c_parts (l : List Int) (hl : l.length ≤ 1000) (g : List Ty) (hg : ∀ y ∈ g, MkTy 1 y) (hgl : g.length ≤ 10) (a : Nat) : ∃ (v : V) (a' : Nat),
    (∀ d, Turns Tryz.prog env 69 [.ptr d 0, .sl .any (g.map Ty.cells)] d (.box (deckC l a)) v (.box (deckC l a'))) ∧
    (v = .tup [.agg [.int .i64 0, .int .i64 0, .sl .any [], .sl .any [], .sl .any []], .agg [.int .i64 0, .int .i64 0, .int .i64 0, .sl .any [], .sl .any []], .agg [.int .i64 0, .int .i64 0, .int .i64 0, .sl .any [], .sl .any []], .bool false] ∨
     ∃ f w c, v = .tup [.agg f.cells, .agg w.cells, .agg c.cells, .bool true] ∧ f.look.2 = 0 ∧ MkFm false 3 g f ∧ FmW f ∧ TyG f.look.1.1 ∧ TyG f.look.1.2 ∧ MkTm 2 g f.look.1.1 w ∧ TmW w ∧ MkTm 2 g f.look.1.2 c ∧ TmW c) := by
  have hgG : ∀ y ∈ g, TyG y := fun y hy => (hg y hy).G (by omega)
  have hgF : ∀ y ∈ g, TyF y ∧ tyH y ≤ 40 := fun y hy => f40_of (by omega) (hg y hy)
  obtain ⟨f, a1, hm, hw, hT⟩ := c_Pure l hl 3 (by omega) g a hgF (by omega)
  have hG := hm.G hgG
  have h1 := c_r28Witness hG hw
  have h2 := c_r28Challenge hG hw
  rcases hG.look with ⟨_, e1, e2, g1, g2⟩ | e4
  · rw [← e1] at g1 g2 e2
    obtain ⟨w, a2, mw, ww, hTw⟩ := c_Term l hl 2 g f.look.1.1 a1 hgF g1.1 (by have := g1.h40; omega) (by have := g1.h40; have e : Int.toNat 2 = 2 := rfl; omega) (by have := g1.h40; omega)
    obtain ⟨c, a3, mc, wc, hTc⟩ := c_Term l hl 2 g f.look.1.2 a2 hgF g2.1 (by have := g2.h40; omega) (by have := g2.h40; have e : Int.toNat 2 = 2 := rfl; omega) (by have := g2.h40; omega)
    refine ⟨_, a3, ?_, .inr ⟨f, w, c, rfl, e2, hm, hw, g1, g2, mw, ww, mc, wc⟩⟩
    rw [e2] at h1 h2
    clear hm hG e1 e2 g1 g2 mw mc hgG hgF hg
    generalize f.look.1.1 = s at *
    generalize f.look.1.2 = t at *
    have n0 : ((0 : Int) != 0) = false := rfl
    intro d h hd
    refine enter Tryz.func69 [.cell 4 29, .cell 5 31, .cell 6 31, .tmp 7] rfl (by kernel_rfl) follows (by kernel_rfl) rfl fun g0 w0 gen hrel hfr hfr' hres => ?_
    have f1 := fresh_ne hfr hd
    have f2 := fresh_ne' hfr hd
    repeat' (first
      | (refine ⟨?_, ?_⟩; focus ((repeat' (first | refine And.intro ?_ ?_ | refine Or.inr ?_)); all_goals kernel_rfl))
      | exact agb (by assumption)
      | (first | refine wp rfl ?_ | refine spt rfl ?_ | refine spf rfl ?_ | (refine spl (fun hc => ?_) fun hc => ?_) <;> (try rw [beq_iff_eq] at hc) <;> try simp only [hc] | (refine guarded_split (fun hb => ?_) fun hb => ?_) <;> try simp only [Bool.not_true, Bool.not_false] at hb | refine Call1_pure (h1) ?_ | refine Call1_pure (h2) ?_ | (refine Call1_turn (hT d) ?_ ?_; focus ((simp only [go_sem, *] <;> rfl); done)) | (refine Call1_turn (hTw d) ?_ ?_; focus ((simp only [go_sem, *] <;> rfl); done)) | (refine Call1_turn (hTc d) ?_ ?_; focus ((simp only [go_sem, *] <;> rfl); done)) | refine finT hrel hd ?_ ?_ ?_ ?_ ?_) <;> try simp only [go_sem, *])
  · refine ⟨_, a1, ?_, .inl rfl⟩
    rw [e4] at h1 h2
    have n4 : ((4 : Int) != 0) = true := rfl
    clear hm hG e4 hgG hgF hg
    intro d h hd
    refine enter Tryz.func69 [.cell 4 29, .cell 5 31, .cell 6 31, .tmp 7] rfl (by kernel_rfl) follows (by kernel_rfl) rfl fun g0 w0 gen hrel hfr hfr' hres => ?_
    have f1 := fresh_ne hfr hd
    have f2 := fresh_ne' hfr hd
    repeat' (first
      | (refine ⟨?_, ?_⟩; focus ((repeat' (first | refine And.intro ?_ ?_ | refine Or.inr ?_)); all_goals kernel_rfl))
      | exact agb (by assumption)
      | (first | refine wp rfl ?_ | refine spt rfl ?_ | refine spf rfl ?_ | (refine spl (fun hc => ?_) fun hc => ?_) <;> (try rw [beq_iff_eq] at hc) <;> try simp only [hc] | (refine guarded_split (fun hb => ?_) fun hb => ?_) <;> try simp only [Bool.not_true, Bool.not_false] at hb | refine Call1_pure (h1) ?_ | refine Call1_pure (h2) ?_ | (refine Call1_turn (hT d) ?_ ?_; focus ((simp only [go_sem, *] <;> rfl); done)) | refine finT hrel hd ?_ ?_ ?_ ?_ ?_) <;> try simp only [go_sem, *])

theorem matF_W {f : Fm} {w c : Tm} (hf : FmW f) (hw : TmW w) (hc : TmW c) : FmW (matF f w c).1 := by
  unfold matF
  repeat' split
  all_goals first | exact zeroF_W' | exact mOf_W _ _ _ _ hf hw hc

theorem c_MatrixNot (l : List Int) : Pure Tryz.prog env 12 [.sl .any (ints l)] (.bool true) := by
  intro h
  have hF := c_Few l
  cases hf : decide ((l.length : Int) ≤ 500) with
  | false =>
    rw [hf] at hF
    clear hf
    refine enter Tryz.func12 [.tmp 2] rfl (by kernel_rfl) follows (by kernel_rfl) rfl fun g0 w0 gen hrel hfr hfr' hres => ?_
    repeat' (first
      | (refine ⟨?_, ?_⟩; focus ((repeat' (first | refine And.intro ?_ ?_ | refine Or.inr ?_)); all_goals kernel_rfl))
      | exact hin _ | exact agf (by assumption)
      | (first | refine wp rfl ?_ | refine spt rfl ?_ | refine spf rfl ?_ | (refine spl (fun hc => ?_) fun hc => ?_) <;> (try rw [beq_iff_eq] at hc) <;> try simp only [hc] | (refine guarded_split (fun hb => ?_) fun hb => ?_) <;> try simp only [Bool.not_true, Bool.not_false] at hb | refine Call1_pure (hF) ?_ | refine Call1_pure (c_awake29) ?_ | refine finF hrel ?_ ?_ ?_) <;> try simp only [go_sem, *])
  | true =>
  rw [hf] at hF
  have hl : l.length ≤ 1000 := by simp at hf; omega
  have hN := c_New l
  obtain ⟨v, a1, hT, hv⟩ := c_parts l hl [] (by simp) (by simp) 0
  simp only [List.map_nil] at hT
  rcases hv with rfl | ⟨f, w, c, rfl, ok, hm, fW, g1, g2, mw, wW, mc, cW⟩
  · clear hf
    refine enter Tryz.func12 [.tmp 2] rfl (by kernel_rfl) follows (by kernel_rfl) rfl fun g0 w0 gen hrel hfr hfr' hres => ?_
    repeat' (first
      | (refine ⟨?_, ?_⟩; focus ((repeat' (first | refine And.intro ?_ ?_ | refine Or.inr ?_)); all_goals kernel_rfl))
      | exact hin _ | exact agf (by assumption)
      | (first | refine wp rfl ?_ | refine spt rfl ?_ | refine spf rfl ?_ | (refine spl (fun hc => ?_) fun hc => ?_) <;> (try rw [beq_iff_eq] at hc) <;> try simp only [hc] | (refine guarded_split (fun hb => ?_) fun hb => ?_) <;> try simp only [Bool.not_true, Bool.not_false] at hb | refine Call1_pure (hF) ?_ | refine Call1_pure (c_awake29) ?_ | refine Call1_new ⟨gen, 1000, 0⟩ (hN) (by first | exact hfr' _ _ | simp only [go_sem, *]) ?_ | (refine Call1_turn (hT _) ?_ ?_; focus ((simp only [go_sem, *] <;> rfl); done)) | refine finF hrel ?_ ?_ ?_) <;> try simp only [go_sem, *])
  have hG : FmG false f := hm.G (by simp)
  have hG2 : FmG false (fmTwo 3 f falseF) := .two (.inr rfl) hG falseF_G
  have hW2 : FmW (fmTwo 3 f falseF) := fmTwo_W fW falseF_W
  have h1 := c_r28Witness hG fW
  have h2 := c_r28Challenge hG fW
  have h3 := c_r28Witness hG2 hW2
  have h0 := c_False
  change Pure Tryz.prog env _ _ (.agg falseF.cells) at h0
  rw [ok] at h1 h2
  have n4 : ((4 : Int) != 0) = true := rfl
  have n0 : ((0 : Int) != 0) = false := rfl
  rcases hG2.look with ⟨_, e1, e2, g3, g4⟩ | e4
  case inr =>
    rw [e4] at h3
    rw [fmTwo, Fm.mk_cells] at h3
    simp only [Ty.mk_kind, Ty.mk_args, List.map_cons, List.map_nil] at h3
    clear hG hG2 hW2 hm mw mc ok hf e4 g1 g2
    refine enter Tryz.func12 [.tmp 2] rfl (by kernel_rfl) follows (by kernel_rfl) rfl fun g0 w0 gen hrel hfr hfr' hres => ?_
    repeat' (first
      | (refine ⟨?_, ?_⟩; focus ((repeat' (first | refine And.intro ?_ ?_ | refine Or.inr ?_)); all_goals kernel_rfl))
      | exact hin _ | exact agf (by assumption)
      | (first | refine wp rfl ?_ | refine spt rfl ?_ | refine spf rfl ?_ | (refine spl (fun hc => ?_) fun hc => ?_) <;> (try rw [beq_iff_eq] at hc) <;> try simp only [hc] | (refine guarded_split (fun hb => ?_) fun hb => ?_) <;> try simp only [Bool.not_true, Bool.not_false] at hb | refine Call1_pure (hF) ?_ | refine Call1_pure (c_awake29) ?_ | refine Call1_new ⟨gen, 1000, 0⟩ (hN) (by first | exact hfr' _ _ | simp only [go_sem, *]) ?_ | (refine Call1_turn (hT _) ?_ ?_; focus ((simp only [go_sem, *] <;> rfl); done)) | refine Call1_pure (h0) ?_ | refine Call1_pure (h1) ?_ | refine Call1_pure (h2) ?_ | refine Call1_pure (h3) ?_ | refine finF hrel ?_ ?_ ?_) <;> try simp only [go_sem, *])
  rw [← e1] at g3 g4 e2
  rw [e2] at h3
  obtain ⟨fn, a2, mf, nW, hTn⟩ := c_Term l hl 2 [] (fmTwo 3 f falseF).look.1.1 a1 (by simp) g3.1 (by have := g3.h40; omega) (by have := g3.h40; have e : Int.toNat 2 = 2 := rfl; simp; omega) (by have := g3.h40; omega)
  have b2 : bndT 64 2 = 1888 := rfl
  have e22 : Int.toNat 2 = 2 := rfl
  rw [e22] at mf
  have zw := (mw.sz (M := 64) (by omega) (by simp) g1.2).1
  have zf := (mf.sz (M := 64) (by omega) (by simp) g3.2).1
  have lw := mw.least (M := 64) (m := 268435456) (by omega) (by omega) (by simp) g1.2 (by have := g1.2; simp; omega)
  have lfn := mf.least (M := 64) (m := 268435456) (by omega) (by omega) (by simp) g3.2 (by have := g3.2; simp; omega)
  have lf := hm.least (m := 268435456) (by omega) (by simp) (by simp)
  have hlaw := law_matNot hG (mw.G (by simp) g1) (mf.G (by simp) g3) (by simpa using lf) (by simpa using lw) (by simpa using lfn) (by omega) (by omega) ok e2 _ _ rfl rfl
  have cA := c_matF _ hW2 fn w nW wW
  have cB0 := c_matF f fW w (chCall f.look.1.1 f.look.1.2 fn w) wW (chCall_W nW wW)
  have cB1 := c_matF f fW (tm0 13 []) fn tm0_W0 nW
  have AW := matF_W hW2 nW wW
  have B0W := matF_W fW wW (chCall_W (a := f.look.1.1) (b := f.look.1.2) nW wW)
  have B1W := matF_W fW (tm0_W0 (k := 13)) nW
  have cC := c_r28Call f.look.1.1 f.look.1.2 fn w
  have cU := c_r24Unit
  have cS := c_refFmSame falseF falseF_W falseF falseF_W
  rw [Fm.same_refl] at cS
  have cS2 := fun (a b : Fm) (ha : FmW a) (hb : FmW b) => c_refFmSame a ha b hb
  generalize hks : (fmTwo 3 f falseF).look.1.1 = ks at *
  rw [fmTwo, Fm.mk_cells] at h3
  simp only [Ty.mk_kind, Ty.mk_args, List.map_cons, List.map_nil] at h3
  have cA' : Pure Tryz.prog env 70 [.agg [.int .i64 3, .int .i64 0, .sl .any [], .sl .any [], .sl .any [f.cells, falseF.cells]], .agg fn.cells, .agg w.cells] (fmErrV (matF (fmTwo 3 f falseF) fn w)) := by
    have := cA
    rw [fmTwo, Fm.mk_cells] at this
    simp only [Ty.mk_kind, Ty.mk_args, List.map_cons, List.map_nil] at this
    exact this
  clear hks cA hG hG2 hm mw mc mf ok hf g1 g2 g3 g4 e1 e2 zw zf lw lfn lf b2
  generalize matF (fmTwo 3 f falseF) fn w = A at *
  generalize chCall f.look.1.1 f.look.1.2 fn w = cl at *
  generalize matF f w cl = B0 at *
  generalize matF f (tm0 13 []) fn = B1 at *
  generalize tm0 13 [] = un at *
  generalize f.look.1.1 = s at *
  generalize f.look.1.2 = t at *
  obtain ⟨A1, A2⟩ := A
  obtain ⟨B01, B02⟩ := B0
  obtain ⟨B11, B12⟩ := B1
  simp only [fmErrV] at cA' cB0 cB1 hlaw AW B0W B1W
  have k0 : ((0 : Int) == 4) = false := rfl
  have k4 : ((4 : Int) == 4) = true := rfl
  cases hs : (s.kind == 5)
  all_goals
    simp only [hs, if_true, Bool.false_eq_true, if_false] at hlaw
    rcases hlaw with rfl | ⟨rfl, rfl⟩ | ⟨rfl, rfl, x, rfl, hx⟩
    · clear cS cS2
      refine enter Tryz.func12 [.tmp 2] rfl (by kernel_rfl) follows (by kernel_rfl) rfl fun g0 w0 gen hrel hfr hfr' hres => ?_
      repeat' (first
        | (refine ⟨?_, ?_⟩; focus ((repeat' (first | refine And.intro ?_ ?_ | refine Or.inr ?_)); all_goals kernel_rfl))
        | exact hin _ | exact agf (by assumption)
        | (first | refine wp rfl ?_ | refine spt rfl ?_ | refine spf rfl ?_ | (refine spl (fun hc => ?_) fun hc => ?_) <;> (try rw [beq_iff_eq] at hc) <;> try simp only [hc] | (refine guarded_split (fun hb => ?_) fun hb => ?_) <;> try simp only [Bool.not_true, Bool.not_false] at hb | refine Call1_pure (hF) ?_ | refine Call1_pure (c_awake29) ?_ | refine Call1_new ⟨gen, 1000, 0⟩ (hN) (by first | exact hfr' _ _ | simp only [go_sem, *]) ?_ | (refine Call1_turn (hT _) ?_ ?_; focus ((simp only [go_sem, *] <;> rfl); done)) | (refine Call1_turn (hTn _) ?_ ?_; focus ((simp only [go_sem, *] <;> rfl); done)) | refine Call1_pure (h0) ?_ | refine Call1_pure (h1) ?_ | refine Call1_pure (h2) ?_ | refine Call1_pure (h3) ?_ | refine Call1_pure (cA') ?_ | refine Call1_pure (cB0) ?_ | refine Call1_pure (cB1) ?_ | refine Call1_pure (cC) ?_ | refine Call1_pure (cU) ?_ | refine finF hrel ?_ ?_ ?_) <;> try simp only [go_sem, *])
    · clear cS cS2
      refine enter Tryz.func12 [.tmp 2] rfl (by kernel_rfl) follows (by kernel_rfl) rfl fun g0 w0 gen hrel hfr hfr' hres => ?_
      repeat' (first
        | (refine ⟨?_, ?_⟩; focus ((repeat' (first | refine And.intro ?_ ?_ | refine Or.inr ?_)); all_goals kernel_rfl))
        | exact hin _ | exact agf (by assumption)
        | (first | refine wp rfl ?_ | refine spt rfl ?_ | refine spf rfl ?_ | (refine spl (fun hc => ?_) fun hc => ?_) <;> (try rw [beq_iff_eq] at hc) <;> try simp only [hc] | (refine guarded_split (fun hb => ?_) fun hb => ?_) <;> try simp only [Bool.not_true, Bool.not_false] at hb | refine Call1_pure (hF) ?_ | refine Call1_pure (c_awake29) ?_ | refine Call1_new ⟨gen, 1000, 0⟩ (hN) (by first | exact hfr' _ _ | simp only [go_sem, *]) ?_ | (refine Call1_turn (hT _) ?_ ?_; focus ((simp only [go_sem, *] <;> rfl); done)) | (refine Call1_turn (hTn _) ?_ ?_; focus ((simp only [go_sem, *] <;> rfl); done)) | refine Call1_pure (h0) ?_ | refine Call1_pure (h1) ?_ | refine Call1_pure (h2) ?_ | refine Call1_pure (h3) ?_ | refine Call1_pure (cA') ?_ | refine Call1_pure (cB0) ?_ | refine Call1_pure (cB1) ?_ | refine Call1_pure (cC) ?_ | refine Call1_pure (cU) ?_ | refine finF hrel ?_ ?_ ?_) <;> try simp only [go_sem, *])
    · have xW : FmW x := AW.arg (show x ∈ (fmTwo 3 x falseF).args by simp [fmTwo, Fm.args])
      rw [fmTwo, Fm.mk_cells] at cA'
      simp only [Ty.mk_kind, Ty.mk_args, List.map_cons, List.map_nil] at cA'
      cases ht : (t.kind == 5) with
      | true =>
        clear cS2
        refine enter Tryz.func12 [.tmp 2] rfl (by kernel_rfl) follows (by kernel_rfl) rfl fun g0 w0 gen hrel hfr hfr' hres => ?_
        repeat' (first
          | (refine ⟨?_, ?_⟩; focus ((repeat' (first | refine And.intro ?_ ?_ | refine Or.inr ?_)); all_goals kernel_rfl))
          | exact hin _ | exact agf (by assumption)
          | (first | refine wp rfl ?_ | refine spt rfl ?_ | refine spf rfl ?_ | (refine spl (fun hc => ?_) fun hc => ?_) <;> (try rw [beq_iff_eq] at hc) <;> try simp only [hc] | (refine guarded_split (fun hb => ?_) fun hb => ?_) <;> try simp only [Bool.not_true, Bool.not_false] at hb | refine Call1_pure (hF) ?_ | refine Call1_pure (c_awake29) ?_ | refine Call1_new ⟨gen, 1000, 0⟩ (hN) (by first | exact hfr' _ _ | simp only [go_sem, *]) ?_ | (refine Call1_turn (hT _) ?_ ?_; focus ((simp only [go_sem, *] <;> rfl); done)) | (refine Call1_turn (hTn _) ?_ ?_; focus ((simp only [go_sem, *] <;> rfl); done)) | refine Call1_pure (h0) ?_ | refine Call1_pure (h1) ?_ | refine Call1_pure (h2) ?_ | refine Call1_pure (h3) ?_ | refine Call1_pure (cA') ?_ | refine Call1_pure (cB0) ?_ | refine Call1_pure (cB1) ?_ | refine Call1_pure (cC) ?_ | refine Call1_pure (cU) ?_ | refine Call1_pure (cS) ?_ | refine finF hrel ?_ ?_ ?_) <;> try simp only [go_sem, *])
      | false =>
        have hx' := hx.resolve_left (by rw [ht]; decide)
        have cX := cS2 x x xW xW
        rw [Fm.same_refl] at cX
        subst hx'
        clear cS2
        refine enter Tryz.func12 [.tmp 2] rfl (by kernel_rfl) follows (by kernel_rfl) rfl fun g0 w0 gen hrel hfr hfr' hres => ?_
        repeat' (first
          | (refine ⟨?_, ?_⟩; focus ((repeat' (first | refine And.intro ?_ ?_ | refine Or.inr ?_)); all_goals kernel_rfl))
          | exact hin _ | exact agf (by assumption)
          | (first | refine wp rfl ?_ | refine spt rfl ?_ | refine spf rfl ?_ | (refine spl (fun hc => ?_) fun hc => ?_) <;> (try rw [beq_iff_eq] at hc) <;> try simp only [hc] | (refine guarded_split (fun hb => ?_) fun hb => ?_) <;> try simp only [Bool.not_true, Bool.not_false] at hb | refine Call1_pure (hF) ?_ | refine Call1_pure (c_awake29) ?_ | refine Call1_new ⟨gen, 1000, 0⟩ (hN) (by first | exact hfr' _ _ | simp only [go_sem, *]) ?_ | (refine Call1_turn (hT _) ?_ ?_; focus ((simp only [go_sem, *] <;> rfl); done)) | (refine Call1_turn (hTn _) ?_ ?_; focus ((simp only [go_sem, *] <;> rfl); done)) | refine Call1_pure (h0) ?_ | refine Call1_pure (h1) ?_ | refine Call1_pure (h2) ?_ | refine Call1_pure (h3) ?_ | refine Call1_pure (cA') ?_ | refine Call1_pure (cB0) ?_ | refine Call1_pure (cB1) ?_ | refine Call1_pure (cC) ?_ | refine Call1_pure (cU) ?_ | refine Call1_pure (cS) ?_ | refine Call1_pure (cX) ?_ | refine finF hrel ?_ ?_ ?_) <;> try simp only [go_sem, *])
end Go.Proofs.YtnhjlnkogoihhaaGreatDoor
