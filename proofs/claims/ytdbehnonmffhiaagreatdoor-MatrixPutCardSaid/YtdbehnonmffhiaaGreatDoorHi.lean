/-
  Walks: the sanity check of chapter 29; what the laws make; the law of MatrixNot.
-/
import Derived.Test.YtdbehnonmffhiaaGreatDoorHf
import Derived.Test.YtdbehnonmffhiaaGreatDoorHh
import Derived.Test.YtdbehnonmffhiaaGreatDoorGm
import Derived.Test.YtdbehnonmffhiaaGreatDoorWu
import Derived.Test.YtdbehnonmffhiaaGreatDoorAbsD
set_option linter.unusedSimpArgs false
set_option linter.unusedVariables false
set_option maxRecDepth 20000
set_option maxHeartbeats 4000000
namespace Go.Proofs.YtdbehnonmffhiaaGreatDoor
open Go GoAbs Go.Proofs

def aw29 : Fm := fmQ 4 tNat (fmQ 5 tNat (fmEq (tmVar 0) (tmVar 1)))
theorem aw29_W : FmW aw29 := fmQ_W tNat_W (fmQ_W tNat_W (fmEq_W (tmVar_W _) (tmVar_W _)))

theorem c_awake29 : Pure Tryz.prog env 4 [] (.bool true) := by
  intro h
  have h1 := c_matF aw29 aw29_W (tmVar 4) (tm0 4 []) (tmVar_W _) tm0_W0
  have e1 : matF aw29 (tmVar 4) (tm0 4 []) = (fmEq (tm0 3 [tmVar 4, tm0 4 []]) (tm0 4 []), 0) := by kernel_rfl
  rw [e1] at h1
  have h2 := c_mFree aw29 aw29_W
  have e2 : aw29.mfree = false := by kernel_rfl
  rw [e2] at h2
  have h3 := c_mFree (fmEq (tm0 3 [tmVar 4, tm0 4 []]) (tm0 4 [])) (fmEq_W (tm0_W2 (tmVar_W _) tm0_W0) tm0_W0)
  have e3 : (fmEq (tm0 3 [tmVar 4, tm0 4 []]) (tm0 4 [])).mfree = true := by kernel_rfl
  rw [e3] at h3
  simp only [fmErrV, aw29, tNat, tm0, tmVar, fmQ, fmEq, Ty.mk_cells, Tm.mk_cells, Fm.mk_cells, Ty.mk_kind, Ty.mk_args, List.map_cons, List.map_nil] at h1 h2 h3
  clear e1 e2 e3
  refine enter Tryz.func4 [.tmp 0] rfl (by kernel_rfl) follows (by kernel_rfl) rfl fun g0 w0 gen hrel hfr hfr' hres => ?_
  repeat' (first
    | exact hin _ | exact agf (by assumption)
    | (first | refine wp rfl ?_ | (refine guarded_split (fun hb => ?_) fun hb => ?_) <;> try simp only [Bool.not_true, Bool.not_false] at hb | refine Call1_pure (h1) ?_ | refine Call1_pure (h2) ?_ | refine Call1_pure (h3) ?_ | refine finF hrel ?_ ?_ ?_) <;> try simp only [go_sem, *])
  all_goals (simp at hb)

theorem f40_of {n : Nat} {t : Ty} (hn : n ≤ 30) (h : MkTy n t) : TyF t ∧ tyH t ≤ 40 := ⟨h.F, by have := h.H; omega⟩

theorem c_parts (l : List Int) (hl : l.length ≤ 1000) (g : List Ty) (hg : ∀ y ∈ g, MkTy 1 y) (hgl : g.length ≤ 10) (a : Nat) : ∃ (v : V) (a' : Nat),
    (∀ d, Turns Tryz.prog env 9 [.ptr d 0, .sl .any (g.map Ty.cells)] d (.box (deckC l a)) v (.box (deckC l a'))) ∧
    (v = .tup [.agg [.int .i64 0, .int .i64 0, .sl .any [], .sl .any [], .sl .any []], .agg [.int .i64 0, .int .i64 0, .int .i64 0, .sl .any [], .sl .any []], .agg [.int .i64 0, .int .i64 0, .int .i64 0, .sl .any [], .sl .any []], .bool false] ∨
     ∃ f w c, v = .tup [.agg f.cells, .agg w.cells, .agg c.cells, .bool true] ∧ f.look.2 = 0 ∧ MkFm false 3 g f ∧ FmW f ∧ TyG f.look.1.1 ∧ TyG f.look.1.2 ∧ MkTm 2 g f.look.1.1 w ∧ TmW w ∧ MkTm 2 g f.look.1.2 c ∧ TmW c) := by
  have hgG : ∀ y ∈ g, TyG y := fun y hy => (hg y hy).G (by omega)
  have hgF : ∀ y ∈ g, TyF y ∧ tyH y ≤ 40 := fun y hy => f40_of (by omega) (hg y hy)
  obtain ⟨f, a1, hm, hw, hT⟩ := c_Pure l hl 3 (by omega) g a hgF (by omega)
  have hG := hm.G hgG
  have h1 := c_r28Witness hG hw
  have h2 := c_r28Challenge hG hw
  rcases hG.look with ⟨_, e1, e2, g1, g2⟩ | e4
  · rw [← e1] at g1 g2 e2
    obtain ⟨w, a2, mw, ww, hTw⟩ := c_Term l hl 2 g f.look.1.1 a1 hgF g1.1 (by have := g1.h40; omega) (by have := g1.h40; have e : Int.toNat 2 = 2 := rfl; omega) (by have := g1.h40; omega)
    obtain ⟨c, a3, mc, wc, hTc⟩ := c_Term l hl 2 g f.look.1.2 a2 hgF g2.1 (by have := g2.h40; omega) (by have := g2.h40; have e : Int.toNat 2 = 2 := rfl; omega) (by have := g2.h40; omega)
    refine ⟨_, a3, ?_, .inr ⟨f, w, c, rfl, e2, hm, hw, g1, g2, mw, ww, mc, wc⟩⟩
    rw [e2] at h1 h2
    clear hm hG e1 e2 g1 g2 mw mc hgG hgF hg
    generalize f.look.1.1 = s at *
    generalize f.look.1.2 = t at *
    have n0 : ((0 : Int) != 0) = false := rfl
    intro d h hd
    refine enter Tryz.func9 [.cell 4 35, .cell 5 37, .cell 6 37, .tmp 7] rfl (by kernel_rfl) follows (by kernel_rfl) rfl fun g0 w0 gen hrel hfr hfr' hres => ?_
    have f1 := fresh_ne hfr hd
    have f2 := fresh_ne' hfr hd
    repeat' (first
      | (refine ⟨?_, ?_⟩; focus ((repeat' (first | refine And.intro ?_ ?_ | refine Or.inr ?_)); all_goals kernel_rfl))
      | exact agb (by assumption)
      | (first | refine wp rfl ?_ | refine spt rfl ?_ | refine spf rfl ?_ | (refine spl (fun hc => ?_) fun hc => ?_) <;> (try rw [beq_iff_eq] at hc) <;> try simp only [hc] | (refine guarded_split (fun hb => ?_) fun hb => ?_) <;> try simp only [Bool.not_true, Bool.not_false] at hb | refine Call1_pure (h1) ?_ | refine Call1_pure (h2) ?_ | (refine Call1_turn (hT d) ?_ ?_; focus ((simp only [go_sem, *] <;> rfl); done)) | (refine Call1_turn (hTw d) ?_ ?_; focus ((simp only [go_sem, *] <;> rfl); done)) | (refine Call1_turn (hTc d) ?_ ?_; focus ((simp only [go_sem, *] <;> rfl); done)) | refine finT hrel hd ?_ ?_ ?_ ?_ ?_) <;> try simp only [go_sem, *])
  · refine ⟨_, a1, ?_, .inl rfl⟩
    rw [e4] at h1 h2
    have n4 : ((4 : Int) != 0) = true := rfl
    clear hm hG e4 hgG hgF hg
    intro d h hd
    refine enter Tryz.func9 [.cell 4 35, .cell 5 37, .cell 6 37, .tmp 7] rfl (by kernel_rfl) follows (by kernel_rfl) rfl fun g0 w0 gen hrel hfr hfr' hres => ?_
    have f1 := fresh_ne hfr hd
    have f2 := fresh_ne' hfr hd
    repeat' (first
      | (refine ⟨?_, ?_⟩; focus ((repeat' (first | refine And.intro ?_ ?_ | refine Or.inr ?_)); all_goals kernel_rfl))
      | exact agb (by assumption)
      | (first | refine wp rfl ?_ | refine spt rfl ?_ | refine spf rfl ?_ | (refine spl (fun hc => ?_) fun hc => ?_) <;> (try rw [beq_iff_eq] at hc) <;> try simp only [hc] | (refine guarded_split (fun hb => ?_) fun hb => ?_) <;> try simp only [Bool.not_true, Bool.not_false] at hb | refine Call1_pure (h1) ?_ | refine Call1_pure (h2) ?_ | (refine Call1_turn (hT d) ?_ ?_; focus ((simp only [go_sem, *] <;> rfl); done)) | refine finT hrel hd ?_ ?_ ?_ ?_ ?_) <;> try simp only [go_sem, *])

theorem matF_W {f : Fm} {w c : Tm} (hf : FmW f) (hw : TmW w) (hc : TmW c) : FmW (matF f w c).1 := by
  unfold matF
  repeat' split
  all_goals first | exact zeroF_W' | exact mOf_W _ _ _ _ hf hw hc

end Go.Proofs.YtdbehnonmffhiaaGreatDoor
