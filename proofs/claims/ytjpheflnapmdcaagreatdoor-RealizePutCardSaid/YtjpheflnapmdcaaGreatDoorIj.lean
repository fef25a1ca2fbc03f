/-
  Walks: the law of RealizePut.
-/
import Derived.Test.YtjpheflnapmdcaaGreatDoorIi
import Derived.Test.YtjpheflnapmdcaaGreatDoorIk
set_option linter.unusedSimpArgs false
set_option linter.unusedVariables false
set_option maxRecDepth 20000
set_option maxHeartbeats 4000000
namespace Go.Proofs.YtjpheflnapmdcaaGreatDoor
open Go GoAbs Go.Proofs

theorem c_RealizePut (l : List Int) : Pure Tryz.prog env 9 [.sl .any (ints l)] (.bool true) := by
  intro h
  have hF := c_Few l
  cases hf : decide ((l.length : Int) ≤ 500) with
  | false =>
    rw [hf] at hF
    clear hf
    refine en Tryz.func9 [.tmp 2] rfl rfl fun g0 w0 gen hrel hfr hfr' hres => ?_
    repeat' (first
      | exact hin _ | exact agf (by assumption)
      | (first | refine wp rfl ?_ | refine spt rfl ?_ | refine spf rfl ?_ | (refine spl (fun hc => ?_) fun hc => ?_) <;> (try rw [beq_iff_eq] at hc) <;> try simp only [hc] | (refine gs (fun hb => ?_) fun hb => ?_) <;> try simp only [Bool.not_true, Bool.not_false] at hb | refine cp (hF) ?_ | refine cp (c_awake24) ?_ | refine finF hrel ?_ ?_ ?_) <;> try simp only [go_sem, *])
  | true =>
  rw [hf] at hF
  have hl : l.length ≤ 1000 := by simp at hf; omega
  have hN := c_New l
  obtain ⟨g, a0, hg, hgl, hC⟩ := c_Context l hl 0
  have hg1 : ∀ y ∈ g ++ [tNat], MkTy 1 y := by
    intro y hy
    rcases List.mem_append.1 hy with hy | hy
    · exact hg y hy
    · simp at hy; subst hy; exact .nat
  have hgF := hgF40 hg1
  have hgF0 := hgF40 hg
  obtain ⟨f, a1, hm, fW, hT⟩ := c_Formula l hl 3 (by omega) (g ++ [tNat]) a0 hgF (by simp; omega)
  have hgG : ∀ y ∈ g ++ [tNat], TyG y := fun y hy => (hg1 y hy).G (by omega)
  have hG := hm.G hgG
  have h1 := c_r23Type f hG fW (fmErr_sz hm (by omega) hg1)
  clear hf
  have hwk : weakLL (g.map Ty.cells ++ [tNat.cells]) = (g ++ [tNat]).map Ty.cells := by rw [← weakLL_Ty (g ++ [tNat])]; simp
  have hwk2 : weakLL (g.map Ty.cells) = g.map Ty.cells := weakLL_Ty g
  have b3 : (g.length + 1) * 32 ≤ 140737488355328 := by omega
  have b3' : g.length * 32 ≤ 140737488355328 := by omega
  have b4 : g.length + 1 ≤ 140737488355328 := by omega
  have b4' : g.length ≤ 140737488355328 := by omega
  have ml : (g.map Ty.cells).length = g.length := by simp
  have z0 : 0 + g.length = g.length := Nat.zero_add _
  have hNt := c_playNat
  have n4 : ((4 : Int) != 0) = true := rfl
  have n0 : ((0 : Int) != 0) = false := rfl
  have k4 : ((4 : Int) == 4) = true := rfl
  have k0 : ((0 : Int) == 0) = true := rfl
  have k04 : ((0 : Int) == 4) = false := rfl
  cases q1 : (f.cty.2 != 0) with
  | true =>
    simp only [tyErrV] at h1
    clear hg hg1 hgl hm hG hgG hgF hgF0
    generalize f.cty.1 = s at *
    generalize f.cty.2 = e at *
    refine en Tryz.func9 [.tmp 2] rfl rfl fun g0 w0 gen hrel hfr hfr' hres => ?_
    repeat' (first
      | exact hin _ | exact agf (by assumption)
      | (first | refine wp rfl ?_ | refine spt rfl ?_ | refine spf rfl ?_ | (refine spl (fun hc => ?_) fun hc => ?_) <;> (try rw [beq_iff_eq] at hc) <;> try simp only [hc] | (refine gs (fun hb => ?_) fun hb => ?_) <;> try simp only [Bool.not_true, Bool.not_false] at hb | refine cp (hF) ?_ | refine cp (c_awake24) ?_ | refine cp (hNt) ?_ | refine Call1_new ⟨gen, 1000, 0⟩ (hN) (by first | exact hfr' _ _ | simp only [go_sem, *]) ?_ | (refine ct (hC _) ?_ ?_; focus ((simp only [go_sem, *] <;> rfl); done)) | (refine ct (hT _) ?_ ?_; focus ((simp only [go_sem, *] <;> rfl); done)) | refine cp (h1) ?_ | refine finF hrel ?_ ?_ ?_) <;> try simp only [go_sem, *])
  | false =>
  have ok : f.cty.2 = 0 := by simpa using q1
  have g1 := cty_G hG ok
  obtain ⟨t, a2, mt, tW, hTn⟩ := c_Term l hl 2 (g ++ [tNat]) f.cty.1 a1 hgF g1.1 (by have := g1.h40; omega) (by have := g1.h40; have e : Int.toNat 2 = 2 := rfl; simp; omega) (by have := g1.h40; omega)
  obtain ⟨n, a3, mn, nW, hTm⟩ := c_Term l hl 2 g tNat a2 hgF0 .nat (by have := (TyG.nat).h40; omega) (by have := (TyG.nat).h40; have e : Int.toNat 2 = 2 := rfl; omega) (by have := (TyG.nat).h40; omega)
  have e22 : Int.toNat 2 = 2 := rfl
  rw [e22] at mt mn
  have cM := c_rlF f hG.C fW t tW
  have mW := rlF_W hG.C fW tW
  have hgood := law_rlNone hm hg1 (by simp; omega) ok mt
  have law := law_rlPut hm hg (by omega) ok mt mn
  have p1 := c_fmPut (rlF f t).1 mW 0 n nW
  have p2 := c_fmPut f fW 0 n nW
  have p3 := c_tmPut t tW 0 n nW
  have gp : (fmPut f 0 n).2 = 0 → FmC (fmPut f 0 n).1 := fun h => by
    obtain ⟨r1, _, _⟩ := mk_term (s := tNat) (by omega) hg (by omega) .nat (by have := tySz_nat; omega) mn
    have he := fmErr_sz hm (by omega) hg1
    have hzz : fmSz f ≤ 20000 := by
      have := hm.sz (fun y hy => (hg1 y hy).sz1)
      have p3 : 2 ^ 3 = 8 := rfl
      omega
    have := (fmPut_okU hG r1.gd hzz r1.sz h).1
    rw [this]
    exact fmInn_C hG.C 0
  have cY := fun hc => c_rlF (fmPut f 0 n).1 hc (fmPut_W fW nW) (tmPut t 0 n).1 (tmPut_W tW nW)
  have XW := fmPut_W (a := 0) mW nW
  have cS := c_refFmSame (fmPut (rlF f t).1 0 n).1 XW (fmPut (rlF f t).1 0 n).1 XW
  rw [Fm.same_refl] at cS
  simp only [tyErrV, ok] at h1
  clear q1 ok hg hg1 hgl hm hG hgG hgF hgF0 g1 mt mn XW mW
  generalize f.cty.1 = s at *
  generalize rlF (fmPut f 0 n).1 (tmPut t 0 n).1 = Y at *
  generalize rlF f t = M at *
  obtain ⟨m, e⟩ := M
  simp only at p1 cS law hgood
  generalize fmPut m 0 n = PM at *
  generalize fmPut f 0 n = PF at *
  generalize tmPut t 0 n = PT at *
  obtain ⟨M1, M2⟩ := PM
  obtain ⟨F1, F2⟩ := PF
  obtain ⟨T1, T2⟩ := PT
  obtain ⟨Y1, Y2⟩ := Y
  simp only [fmErrV, tmErrV] at cM p1 p2 p3 cY law hgood cS gp
  rcases hgood with e4 | ⟨e0, -⟩
  · simp only at e4
    subst e4
    clear p1 p2 p3 cY cS law gp
    refine en Tryz.func9 [.tmp 2] rfl rfl fun g0 w0 gen hrel hfr hfr' hres => ?_
    repeat' (first
      | exact hin _ | exact agf (by assumption)
      | (first | refine wp rfl ?_ | refine spt rfl ?_ | refine spf rfl ?_ | (refine spl (fun hc => ?_) fun hc => ?_) <;> (try rw [beq_iff_eq] at hc) <;> try simp only [hc] | (refine gs (fun hb => ?_) fun hb => ?_) <;> try simp only [Bool.not_true, Bool.not_false] at hb | refine cp (hF) ?_ | refine cp (c_awake24) ?_ | refine cp (hNt) ?_ | refine Call1_new ⟨gen, 1000, 0⟩ (hN) (by first | exact hfr' _ _ | simp only [go_sem, *]) ?_ | (refine ct (hC _) ?_ ?_; focus ((simp only [go_sem, *] <;> rfl); done)) | (refine ct (hT _) ?_ ?_; focus ((simp only [go_sem, *] <;> rfl); done)) | refine cp (h1) ?_ | (refine ct (hTn _) ?_ ?_; focus ((simp only [go_sem, *] <;> rfl); done)) | (refine ct (hTm _) ?_ ?_; focus ((simp only [go_sem, *] <;> rfl); done)) | refine cp (cM) ?_ | refine finF hrel ?_ ?_ ?_) <;> try simp only [go_sem, *])
  simp only at e0
  subst e0
  cases q1 : (M2 != 0) with
  | true =>
    clear cY cS law gp
    refine en Tryz.func9 [.tmp 2] rfl rfl fun g0 w0 gen hrel hfr hfr' hres => ?_
    repeat' (first
      | exact hin _ | exact agf (by assumption)
      | (first | refine wp rfl ?_ | refine spt rfl ?_ | refine spf rfl ?_ | (refine spl (fun hc => ?_) fun hc => ?_) <;> (try rw [beq_iff_eq] at hc) <;> try simp only [hc] | (refine gs (fun hb => ?_) fun hb => ?_) <;> try simp only [Bool.not_true, Bool.not_false] at hb | refine cp (hF) ?_ | refine cp (c_awake24) ?_ | refine cp (hNt) ?_ | refine Call1_new ⟨gen, 1000, 0⟩ (hN) (by first | exact hfr' _ _ | simp only [go_sem, *]) ?_ | (refine ct (hC _) ?_ ?_; focus ((simp only [go_sem, *] <;> rfl); done)) | (refine ct (hT _) ?_ ?_; focus ((simp only [go_sem, *] <;> rfl); done)) | refine cp (h1) ?_ | (refine ct (hTn _) ?_ ?_; focus ((simp only [go_sem, *] <;> rfl); done)) | (refine ct (hTm _) ?_ ?_; focus ((simp only [go_sem, *] <;> rfl); done)) | refine cp (cM) ?_ | refine cp (p1) ?_ | refine cp (p2) ?_ | refine cp (p3) ?_ | refine finF hrel ?_ ?_ ?_) <;> try simp only [go_sem, *])
  | false =>
  cases q2 : (F2 != 0) with
  | true =>
    clear cY cS law gp
    refine en Tryz.func9 [.tmp 2] rfl rfl fun g0 w0 gen hrel hfr hfr' hres => ?_
    repeat' (first
      | exact hin _ | exact agf (by assumption)
      | (first | refine wp rfl ?_ | refine spt rfl ?_ | refine spf rfl ?_ | (refine spl (fun hc => ?_) fun hc => ?_) <;> (try rw [beq_iff_eq] at hc) <;> try simp only [hc] | (refine gs (fun hb => ?_) fun hb => ?_) <;> try simp only [Bool.not_true, Bool.not_false] at hb | refine cp (hF) ?_ | refine cp (c_awake24) ?_ | refine cp (hNt) ?_ | refine Call1_new ⟨gen, 1000, 0⟩ (hN) (by first | exact hfr' _ _ | simp only [go_sem, *]) ?_ | (refine ct (hC _) ?_ ?_; focus ((simp only [go_sem, *] <;> rfl); done)) | (refine ct (hT _) ?_ ?_; focus ((simp only [go_sem, *] <;> rfl); done)) | refine cp (h1) ?_ | (refine ct (hTn _) ?_ ?_; focus ((simp only [go_sem, *] <;> rfl); done)) | (refine ct (hTm _) ?_ ?_; focus ((simp only [go_sem, *] <;> rfl); done)) | refine cp (cM) ?_ | refine cp (p1) ?_ | refine cp (p2) ?_ | refine cp (p3) ?_ | refine finF hrel ?_ ?_ ?_) <;> try simp only [go_sem, *])
  | false =>
  cases q3 : (T2 != 0) with
  | true =>
    clear cY cS law gp
    refine en Tryz.func9 [.tmp 2] rfl rfl fun g0 w0 gen hrel hfr hfr' hres => ?_
    repeat' (first
      | exact hin _ | exact agf (by assumption)
      | (first | refine wp rfl ?_ | refine spt rfl ?_ | refine spf rfl ?_ | (refine spl (fun hc => ?_) fun hc => ?_) <;> (try rw [beq_iff_eq] at hc) <;> try simp only [hc] | (refine gs (fun hb => ?_) fun hb => ?_) <;> try simp only [Bool.not_true, Bool.not_false] at hb | refine cp (hF) ?_ | refine cp (c_awake24) ?_ | refine cp (hNt) ?_ | refine Call1_new ⟨gen, 1000, 0⟩ (hN) (by first | exact hfr' _ _ | simp only [go_sem, *]) ?_ | (refine ct (hC _) ?_ ?_; focus ((simp only [go_sem, *] <;> rfl); done)) | (refine ct (hT _) ?_ ?_; focus ((simp only [go_sem, *] <;> rfl); done)) | refine cp (h1) ?_ | (refine ct (hTn _) ?_ ?_; focus ((simp only [go_sem, *] <;> rfl); done)) | (refine ct (hTm _) ?_ ?_; focus ((simp only [go_sem, *] <;> rfl); done)) | refine cp (cM) ?_ | refine cp (p1) ?_ | refine cp (p2) ?_ | refine cp (p3) ?_ | refine finF hrel ?_ ?_ ?_) <;> try simp only [go_sem, *])
  | false =>
  have cZ := cY (gp (by simpa using q2))
  clear cY gp
  rcases law rfl (by simpa using q1) (by simpa using q2) (by simpa using q3) with e4 | ⟨e0, e1⟩
  · subst e4
    clear cS law
    refine en Tryz.func9 [.tmp 2] rfl rfl fun g0 w0 gen hrel hfr hfr' hres => ?_
    repeat' (first
      | exact hin _ | exact agf (by assumption)
      | (first | refine wp rfl ?_ | refine spt rfl ?_ | refine spf rfl ?_ | (refine spl (fun hc => ?_) fun hc => ?_) <;> (try rw [beq_iff_eq] at hc) <;> try simp only [hc] | (refine gs (fun hb => ?_) fun hb => ?_) <;> try simp only [Bool.not_true, Bool.not_false] at hb | refine cp (hF) ?_ | refine cp (c_awake24) ?_ | refine cp (hNt) ?_ | refine Call1_new ⟨gen, 1000, 0⟩ (hN) (by first | exact hfr' _ _ | simp only [go_sem, *]) ?_ | (refine ct (hC _) ?_ ?_; focus ((simp only [go_sem, *] <;> rfl); done)) | (refine ct (hT _) ?_ ?_; focus ((simp only [go_sem, *] <;> rfl); done)) | refine cp (h1) ?_ | (refine ct (hTn _) ?_ ?_; focus ((simp only [go_sem, *] <;> rfl); done)) | (refine ct (hTm _) ?_ ?_; focus ((simp only [go_sem, *] <;> rfl); done)) | refine cp (cM) ?_ | refine cp (p1) ?_ | refine cp (p2) ?_ | refine cp (p3) ?_ | refine cp (cZ) ?_ | refine finF hrel ?_ ?_ ?_) <;> try simp only [go_sem, *])
  · subst e0
    subst e1
    clear law
    refine en Tryz.func9 [.tmp 2] rfl rfl fun g0 w0 gen hrel hfr hfr' hres => ?_
    repeat' (first
      | exact hin _ | exact agf (by assumption)
      | (first | refine wp rfl ?_ | refine spt rfl ?_ | refine spf rfl ?_ | (refine spl (fun hc => ?_) fun hc => ?_) <;> (try rw [beq_iff_eq] at hc) <;> try simp only [hc] | (refine gs (fun hb => ?_) fun hb => ?_) <;> try simp only [Bool.not_true, Bool.not_false] at hb | refine cp (hF) ?_ | refine cp (c_awake24) ?_ | refine cp (hNt) ?_ | refine Call1_new ⟨gen, 1000, 0⟩ (hN) (by first | exact hfr' _ _ | simp only [go_sem, *]) ?_ | (refine ct (hC _) ?_ ?_; focus ((simp only [go_sem, *] <;> rfl); done)) | (refine ct (hT _) ?_ ?_; focus ((simp only [go_sem, *] <;> rfl); done)) | refine cp (h1) ?_ | (refine ct (hTn _) ?_ ?_; focus ((simp only [go_sem, *] <;> rfl); done)) | (refine ct (hTm _) ?_ ?_; focus ((simp only [go_sem, *] <;> rfl); done)) | refine cp (cM) ?_ | refine cp (p1) ?_ | refine cp (p2) ?_ | refine cp (p3) ?_ | refine cp (cZ) ?_ | refine cp (cS) ?_ | refine finF hrel ?_ ?_ ?_) <;> try simp only [go_sem, *])
end Go.Proofs.YtjpheflnapmdcaaGreatDoor
