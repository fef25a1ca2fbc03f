/-
  Walks: the sanity check of chapter 24; the law of RealizeNone.
-/
import Derived.Test.YteopcebaeojjkaaGreatDoorIh
import Derived.Test.YteopcebaeojjkaaGreatDoorIf
import Derived.Test.YteopcebaeojjkaaGreatDoorGt
import Derived.Test.YteopcebaeojjkaaGreatDoorWv
import Derived.Test.YteopcebaeojjkaaGreatDoorGi
set_option linter.unusedSimpArgs false
set_option linter.unusedVariables false
set_option maxRecDepth 20000
set_option maxHeartbeats 4000000
namespace Go.Proofs.YteopcebaeojjkaaGreatDoor
open Go GoAbs Go.Proofs

def aw24 : Fm := fmQ 4 tNat (fmQ 5 tNat (fmEq (tmVar 0) (tm0 5 [tmVar 1])))
theorem aw24_W : FmW aw24 := fmQ_W tNat_W (fmQ_W tNat_W (fmEq_W (tmVar_W _) (tm0_W1 (tmVar_W _))))
theorem aw24_Mk : MkFm true 2 [] aw24 :=
  .q (.inl rfl) .nat (.q (.inr (.inl rfl)) .nat (.eq (.var (i := 0) (by simp) rfl) (.succ (.var (i := 1) (by simp) rfl))))

theorem c_awake24 : Pure Tryz.prog env 42 [] (.bool true) := by
  intro h
  have h1 := c_rlF aw24 (aw24_Mk.G (by simp)).C aw24_W (tmVar 3) (tmVar_W _)
  have e1 : rlF aw24 (tmVar 3) = (fmQ 4 tNat (fmEq (tm0 3 [tmVar 4, tmVar 0]) (tm0 5 [tmVar 0])), 0) := by kernel_rfl
  rw [e1] at h1
  have h2 := c_rSequent [] [aw24] (by simp [aw24_W, aw24_Mk]) (by simp) (by simp) (by simp)
  have e2 : rseq [] [aw24] = some ([.mk 4 [tNat, tNat]], [fmQ 4 tNat (fmEq (tm0 3 [tmVar 1, tmVar 0]) (tm0 5 [tmVar 0]))]) := by kernel_rfl
  rw [e2] at h2
  simp only [rseqV, fmErrV, aw24, tNat, tm0, tmVar, fmQ, fmEq, Ty.mk_cells, Tm.mk_cells, Fm.mk_cells, Ty.mk_kind, Ty.mk_args, List.map_cons, List.map_nil] at h1 h2
  clear e1 e2
  refine enter Tryz.func42 [.tmp 0] rfl (by kernel_rfl) follows (by kernel_rfl) rfl fun g0 w0 gen hrel hfr hfr' hres => ?_
  repeat' (first
    | exact hin _ | exact agf (by assumption)
    | (first | refine wp rfl ?_ | (refine guarded_split (fun hb => ?_) fun hb => ?_) <;> try simp only [Bool.not_true, Bool.not_false] at hb | refine Call1_pure (h1) ?_ | refine Call1_pure (h2) ?_ | refine finF hrel ?_ ?_ ?_) <;> try simp only [go_sem, *])
  all_goals (simp at hb)

theorem hgF40 {g : List Ty} (hg : ∀ y ∈ g, MkTy 1 y) : ∀ y ∈ g, TyF y ∧ tyH y ≤ 40 := fun y hy => ⟨(hg y hy).F, by have := (hg y hy).H; omega⟩
theorem cty_G {u : Bool} {f : Fm} (hG : FmG u f) (h : f.cty.2 = 0) : TyG f.cty.1 := by
  have he : f.cty = f.ct := by
    unfold Fm.cty at h ⊢
    split at h
    · rename_i h1
      simp only [bne_iff_ne] at h1
      exact absurd h h1
    · rename_i h1
      rw [if_neg h1]
  rw [he] at h ⊢
  rcases hG.C.ok.1 with ⟨_, h'⟩ | h'
  · exact h'
  · rw [h'] at h; cases h

theorem c_RealizeNone (l : List Int) : Pure Tryz.prog env 4 [.sl .any (ints l)] (.bool true) := by
  intro h
  have hF := c_Few l
  cases hf : decide ((l.length : Int) ≤ 500) with
  | false =>
    rw [hf] at hF
    clear hf
    refine enter Tryz.func4 [.tmp 2] rfl (by kernel_rfl) follows (by kernel_rfl) rfl fun g0 w0 gen hrel hfr hfr' hres => ?_
    repeat' (first
      | (refine ⟨?_, ?_⟩; focus ((repeat' (first | refine And.intro ?_ ?_ | refine Or.inr ?_)); all_goals kernel_rfl))
      | exact hin _ | exact agf (by assumption)
      | (first | refine wp rfl ?_ | refine spt rfl ?_ | refine spf rfl ?_ | (refine spl (fun hc => ?_) fun hc => ?_) <;> (try rw [beq_iff_eq] at hc) <;> try simp only [hc] | (refine guarded_split (fun hb => ?_) fun hb => ?_) <;> try simp only [Bool.not_true, Bool.not_false] at hb | refine Call1_pure (hF) ?_ | refine Call1_pure (c_awake24) ?_ | refine finF hrel ?_ ?_ ?_) <;> try simp only [go_sem, *])
  | true =>
  rw [hf] at hF
  have hl : l.length ≤ 1000 := by simp at hf; omega
  have hN := c_New l
  obtain ⟨g, a0, hg, hgl, hC⟩ := c_Context l hl 0
  have hgF := hgF40 hg
  obtain ⟨f, a1, hm, fW, hT⟩ := c_Formula l hl 3 (by omega) g a0 hgF (by omega)
  have hgG : ∀ y ∈ g, TyG y := fun y hy => (hg y hy).G (by omega)
  have hG := hm.G hgG
  have h1 := c_r23Type f hG fW (fmErr_sz hm (by omega) hg)
  clear hf
  have n4 : ((4 : Int) != 0) = true := rfl
  have n0 : ((0 : Int) != 0) = false := rfl
  have k4 : ((4 : Int) == 4) = true := rfl
  have k0 : ((0 : Int) == 0) = true := rfl
  cases q1 : (f.cty.2 != 0) with
  | true =>
    simp only [tyErrV] at h1
    clear hg hgl hm hG hgG hgF
    generalize f.cty.1 = s at *
    generalize f.cty.2 = e at *
    refine enter Tryz.func4 [.tmp 2] rfl (by kernel_rfl) follows (by kernel_rfl) rfl fun g0 w0 gen hrel hfr hfr' hres => ?_
    repeat' (first
      | (refine ⟨?_, ?_⟩; focus ((repeat' (first | refine And.intro ?_ ?_ | refine Or.inr ?_)); all_goals kernel_rfl))
      | exact hin _ | exact agf (by assumption)
      | (first | refine wp rfl ?_ | refine spt rfl ?_ | refine spf rfl ?_ | (refine spl (fun hc => ?_) fun hc => ?_) <;> (try rw [beq_iff_eq] at hc) <;> try simp only [hc] | (refine guarded_split (fun hb => ?_) fun hb => ?_) <;> try simp only [Bool.not_true, Bool.not_false] at hb | refine Call1_pure (hF) ?_ | refine Call1_pure (c_awake24) ?_ | refine Call1_new ⟨gen, 1000, 0⟩ (hN) (by first | exact hfr' _ _ | simp only [go_sem, *]) ?_ | (refine Call1_turn (hC _) ?_ ?_; focus ((simp only [go_sem, *] <;> rfl); done)) | (refine Call1_turn (hT _) ?_ ?_; focus ((simp only [go_sem, *] <;> rfl); done)) | refine Call1_pure (h1) ?_ | refine finF hrel ?_ ?_ ?_) <;> try simp only [go_sem, *])
  | false =>
  have ok : f.cty.2 = 0 := by simpa using q1
  have g1 := cty_G hG ok
  obtain ⟨t, a2, mt, tW, hTn⟩ := c_Term l hl 2 g f.cty.1 a1 hgF g1.1 (by have := g1.h40; omega) (by have := g1.h40; have e : Int.toNat 2 = 2 := rfl; omega) (by have := g1.h40; omega)
  have cM := c_rlF f hG.C fW t tW
  have mW := rlF_W hG.C fW tW
  have law := law_rlNone hm hg (by omega) ok mt
  simp only [tyErrV, ok] at h1
  clear q1 ok
  generalize f.cty.1 = s at *
  generalize rlF f t = M at *
  obtain ⟨m, e⟩ := M
  simp only [fmErrV] at cM mW law
  rcases law with e4 | ⟨e0, gd⟩
  · simp only at e4
    subst e4
    clear hg hgl hm g1 hgG hgF mt mW hG
    refine enter Tryz.func4 [.tmp 2] rfl (by kernel_rfl) follows (by kernel_rfl) rfl fun g0 w0 gen hrel hfr hfr' hres => ?_
    repeat' (first
      | (refine ⟨?_, ?_⟩; focus ((repeat' (first | refine And.intro ?_ ?_ | refine Or.inr ?_)); all_goals kernel_rfl))
      | exact hin _ | exact agf (by assumption)
      | (first | refine wp rfl ?_ | refine spt rfl ?_ | refine spf rfl ?_ | (refine spl (fun hc => ?_) fun hc => ?_) <;> (try rw [beq_iff_eq] at hc) <;> try simp only [hc] | (refine guarded_split (fun hb => ?_) fun hb => ?_) <;> try simp only [Bool.not_true, Bool.not_false] at hb | refine Call1_pure (hF) ?_ | refine Call1_pure (c_awake24) ?_ | refine Call1_new ⟨gen, 1000, 0⟩ (hN) (by first | exact hfr' _ _ | simp only [go_sem, *]) ?_ | (refine Call1_turn (hC _) ?_ ?_; focus ((simp only [go_sem, *] <;> rfl); done)) | (refine Call1_turn (hT _) ?_ ?_; focus ((simp only [go_sem, *] <;> rfl); done)) | refine Call1_pure (h1) ?_ | (refine Call1_turn (hTn _) ?_ ?_; focus ((simp only [go_sem, *] <;> rfl); done)) | refine Call1_pure (cM) ?_ | refine finF hrel ?_ ?_ ?_) <;> try simp only [go_sem, *])
  · simp only at e0 gd
    subst e0
    have h2 := c_r08Content m gd.gd.C mW (gd.gd.err0 gd.sz)
    rw [gd.nc] at h2
    have h3 := c_fmTyped g hgG (by omega) m gd.ty gd.gd gd.sz mW
    clear hg hgl hm g1 hgG hgF mt mW hG gd
    refine enter Tryz.func4 [.tmp 2] rfl (by kernel_rfl) follows (by kernel_rfl) rfl fun g0 w0 gen hrel hfr hfr' hres => ?_
    repeat' (first
      | (refine ⟨?_, ?_⟩; focus ((repeat' (first | refine And.intro ?_ ?_ | refine Or.inr ?_)); all_goals kernel_rfl))
      | exact hin _ | exact agf (by assumption)
      | (first | refine wp rfl ?_ | refine spt rfl ?_ | refine spf rfl ?_ | (refine spl (fun hc => ?_) fun hc => ?_) <;> (try rw [beq_iff_eq] at hc) <;> try simp only [hc] | (refine guarded_split (fun hb => ?_) fun hb => ?_) <;> try simp only [Bool.not_true, Bool.not_false] at hb | refine Call1_pure (hF) ?_ | refine Call1_pure (c_awake24) ?_ | refine Call1_new ⟨gen, 1000, 0⟩ (hN) (by first | exact hfr' _ _ | simp only [go_sem, *]) ?_ | (refine Call1_turn (hC _) ?_ ?_; focus ((simp only [go_sem, *] <;> rfl); done)) | (refine Call1_turn (hT _) ?_ ?_; focus ((simp only [go_sem, *] <;> rfl); done)) | refine Call1_pure (h1) ?_ | (refine Call1_turn (hTn _) ?_ ?_; focus ((simp only [go_sem, *] <;> rfl); done)) | refine Call1_pure (cM) ?_ | refine Call1_pure (h2) ?_ | refine Call1_pure (h3) ?_ | refine finF hrel ?_ ?_ ?_) <;> try simp only [go_sem, *])
end Go.Proofs.YteopcebaeojjkaaGreatDoor
