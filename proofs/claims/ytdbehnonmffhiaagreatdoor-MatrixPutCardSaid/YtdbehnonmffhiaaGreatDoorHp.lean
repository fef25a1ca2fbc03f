/-
  Walks: putting into terms (references); the law of MatrixPut.
-/
import Derived.Test.YtdbehnonmffhiaaGreatDoorHi
import Derived.Test.YtdbehnonmffhiaaGreatDoorGi
import Derived.Test.YtdbehnonmffhiaaGreatDoorVf
import Derived.Test.YtdbehnonmffhiaaGreatDoorAbsDb
set_option linter.unusedSimpArgs false
set_option linter.unusedVariables false
set_option maxRecDepth 20000
set_option maxHeartbeats 4000000
namespace Go.Proofs.YtdbehnonmffhiaaGreatDoor
open Go GoAbs Go.Proofs

theorem c_tmPut (t : Tm) (ht : TmW t) (a : Int) (s : Tm) (hs : TmW s) : Pure Tryz.prog env 13 [.agg t.cells, .int .i64 a, .agg s.cells] (tmErrV (tmPut t a s)) := by
  intro h
  have h1 := c_tmCheck t ht
  have h2 := c_tmCheck s hs
  have h3 := c_tmLeast 536870912 t ht
  have h4 := c_tmLeast 536870912 s hs
  have h5 := c_tmCount t ht
  have h6 := c_tmTimes t ht a
  have h7 := c_tmCount s hs
  have h8 := c_tmIn s hs a t ht 0
  have h9 := c_tmCopy _ (tmInn_W hs (a := a) t 0 ht)
  have hz : zeroT.cells = [.int .i64 0, .int .i64 0, .int .i64 0, .sl .any [], .sl .any []] := by simp [zeroT, Tm.mk_cells, Ty.mk_kind, Ty.mk_args]
  unfold tmPut tmErrV
  cases k1 : (tmErr t != 0) with
  | true =>
    simp only [if_true, hz]
    clear h2 h3 h4 h5 h6 h7 h8 h9
    refine enter Tryz.func13 [.cell 6 37, .tmp 7] rfl (by kernel_rfl) follows (by kernel_rfl) rfl fun g0 w0 gen hrel hfr hfr' hres => ?_
    repeat' (first
      | (refine ⟨?_, ?_⟩; focus ((repeat' (first | refine And.intro ?_ ?_ | refine Or.inr ?_)); all_goals kernel_rfl))
      | exact hin _ | exact agf (by assumption)
      | (first | refine wp rfl ?_ | refine spt rfl ?_ | refine spf rfl ?_ | (refine spl (fun hc => ?_) fun hc => ?_) <;> (try rw [beq_iff_eq] at hc) <;> try simp only [hc] | (refine guarded_split (fun hb => ?_) fun hb => ?_) <;> try simp only [Bool.not_true, Bool.not_false] at hb | refine Call1_pure (h1) ?_ | refine finF hrel ?_ ?_ ?_) <;> try simp only [go_sem, *])
  | false =>
  simp only [Bool.false_eq_true, if_false]
  cases k2 : decide (a < 0) with
  | true =>
    simp only [Bool.true_or, if_true, hz]
    clear h2 h3 h4 h5 h6 h7 h8 h9
    refine enter Tryz.func13 [.cell 6 37, .tmp 7] rfl (by kernel_rfl) follows (by kernel_rfl) rfl fun g0 w0 gen hrel hfr hfr' hres => ?_
    repeat' (first
      | (refine ⟨?_, ?_⟩; focus ((repeat' (first | refine And.intro ?_ ?_ | refine Or.inr ?_)); all_goals kernel_rfl))
      | exact hin _ | exact agf (by assumption)
      | (first | refine wp rfl ?_ | refine spt rfl ?_ | refine spf rfl ?_ | (refine spl (fun hc => ?_) fun hc => ?_) <;> (try rw [beq_iff_eq] at hc) <;> try simp only [hc] | (refine guarded_split (fun hb => ?_) fun hb => ?_) <;> try simp only [Bool.not_true, Bool.not_false] at hb | refine Call1_pure (h1) ?_ | refine finF hrel ?_ ?_ ?_) <;> try simp only [go_sem, *])
  | false =>
  cases k3 : decide (a > 4096) with
  | true =>
    simp only [Bool.or_true, if_true, hz]
    clear h2 h3 h4 h5 h6 h7 h8 h9
    refine enter Tryz.func13 [.cell 6 37, .tmp 7] rfl (by kernel_rfl) follows (by kernel_rfl) rfl fun g0 w0 gen hrel hfr hfr' hres => ?_
    repeat' (first
      | (refine ⟨?_, ?_⟩; focus ((repeat' (first | refine And.intro ?_ ?_ | refine Or.inr ?_)); all_goals kernel_rfl))
      | exact hin _ | exact agf (by assumption)
      | (first | refine wp rfl ?_ | refine spt rfl ?_ | refine spf rfl ?_ | (refine spl (fun hc => ?_) fun hc => ?_) <;> (try rw [beq_iff_eq] at hc) <;> try simp only [hc] | (refine guarded_split (fun hb => ?_) fun hb => ?_) <;> try simp only [Bool.not_true, Bool.not_false] at hb | refine Call1_pure (h1) ?_ | refine finF hrel ?_ ?_ ?_) <;> try simp only [go_sem, *])
  | false =>
  simp only [Bool.or_false, Bool.false_eq_true, if_false]
  cases k4 : (tmErr s != 0) with
  | true =>
    simp only [if_true, hz]
    clear h3 h4 h5 h6 h7 h8 h9
    refine enter Tryz.func13 [.cell 6 37, .tmp 7] rfl (by kernel_rfl) follows (by kernel_rfl) rfl fun g0 w0 gen hrel hfr hfr' hres => ?_
    repeat' (first
      | (refine ⟨?_, ?_⟩; focus ((repeat' (first | refine And.intro ?_ ?_ | refine Or.inr ?_)); all_goals kernel_rfl))
      | exact hin _ | exact agf (by assumption)
      | (first | refine wp rfl ?_ | refine spt rfl ?_ | refine spf rfl ?_ | (refine spl (fun hc => ?_) fun hc => ?_) <;> (try rw [beq_iff_eq] at hc) <;> try simp only [hc] | (refine guarded_split (fun hb => ?_) fun hb => ?_) <;> try simp only [Bool.not_true, Bool.not_false] at hb | refine Call1_pure (h1) ?_ | refine Call1_pure (h2) ?_ | refine finF hrel ?_ ?_ ?_) <;> try simp only [go_sem, *])
  | false =>
  simp only [Bool.false_eq_true, if_false]
  cases k5 : t.least 536870912 with
  | false =>
    rw [k5] at h3
    simp only [Bool.not_false, Bool.true_or, if_true, hz]
    clear h4 h5 h6 h7 h8 h9
    refine enter Tryz.func13 [.cell 6 37, .tmp 7] rfl (by kernel_rfl) follows (by kernel_rfl) rfl fun g0 w0 gen hrel hfr hfr' hres => ?_
    repeat' (first
      | (refine ⟨?_, ?_⟩; focus ((repeat' (first | refine And.intro ?_ ?_ | refine Or.inr ?_)); all_goals kernel_rfl))
      | exact hin _ | exact agf (by assumption)
      | (first | refine wp rfl ?_ | refine spt rfl ?_ | refine spf rfl ?_ | (refine spl (fun hc => ?_) fun hc => ?_) <;> (try rw [beq_iff_eq] at hc) <;> try simp only [hc] | (refine guarded_split (fun hb => ?_) fun hb => ?_) <;> try simp only [Bool.not_true, Bool.not_false] at hb | refine Call1_pure (h1) ?_ | refine Call1_pure (h2) ?_ | refine Call1_pure (h3) ?_ | refine finF hrel ?_ ?_ ?_) <;> try simp only [go_sem, *])
  | true =>
  rw [k5] at h3
  cases k6 : s.least 536870912 with
  | false =>
    rw [k6] at h4
    simp only [Bool.not_false, Bool.or_true, if_true, hz]
    clear h5 h6 h7 h8 h9
    refine enter Tryz.func13 [.cell 6 37, .tmp 7] rfl (by kernel_rfl) follows (by kernel_rfl) rfl fun g0 w0 gen hrel hfr hfr' hres => ?_
    repeat' (first
      | (refine ⟨?_, ?_⟩; focus ((repeat' (first | refine And.intro ?_ ?_ | refine Or.inr ?_)); all_goals kernel_rfl))
      | exact hin _ | exact agf (by assumption)
      | (first | refine wp rfl ?_ | refine spt rfl ?_ | refine spf rfl ?_ | (refine spl (fun hc => ?_) fun hc => ?_) <;> (try rw [beq_iff_eq] at hc) <;> try simp only [hc] | (refine guarded_split (fun hb => ?_) fun hb => ?_) <;> try simp only [Bool.not_true, Bool.not_false] at hb | refine Call1_pure (h1) ?_ | refine Call1_pure (h2) ?_ | refine Call1_pure (h3) ?_ | refine Call1_pure (h4) ?_ | refine finF hrel ?_ ?_ ?_) <;> try simp only [go_sem, *])
  | true =>
  rw [k6] at h4
  simp only [Bool.not_true, Bool.or_false, Bool.false_eq_true, if_false]
  have w1 : IntKind.i64.wrap (s.szW - 1) = subW s.szW 1 := rfl
  have w2 : IntKind.i64.wrap (t.times a * subW s.szW 1) = mulW (t.times a) (subW s.szW 1) := rfl
  have w3 : IntKind.i64.wrap (t.szW + mulW (t.times a) (subW s.szW 1)) = addW t.szW (mulW (t.times a) (subW s.szW 1)) := rfl
  cases k7 : decide (addW t.szW (mulW (t.times a) (subW s.szW 1)) > 4096) with
  | true =>
    simp only [if_true, hz]
    clear h8 h9
    refine enter Tryz.func13 [.cell 6 37, .tmp 7] rfl (by kernel_rfl) follows (by kernel_rfl) rfl fun g0 w0 gen hrel hfr hfr' hres => ?_
    repeat' (first
      | (refine ⟨?_, ?_⟩; focus ((repeat' (first | refine And.intro ?_ ?_ | refine Or.inr ?_)); all_goals kernel_rfl))
      | exact hin _ | exact agf (by assumption)
      | (first | refine wp rfl ?_ | refine spt rfl ?_ | refine spf rfl ?_ | (refine spl (fun hc => ?_) fun hc => ?_) <;> (try rw [beq_iff_eq] at hc) <;> try simp only [hc] | (refine guarded_split (fun hb => ?_) fun hb => ?_) <;> try simp only [Bool.not_true, Bool.not_false] at hb | refine Call1_pure (h1) ?_ | refine Call1_pure (h2) ?_ | refine Call1_pure (h3) ?_ | refine Call1_pure (h4) ?_ | refine Call1_pure (h5) ?_ | refine Call1_pure (h6) ?_ | refine Call1_pure (h7) ?_ | refine finF hrel ?_ ?_ ?_) <;> try simp only [go_sem, *])
  | false =>
    simp only [Bool.false_eq_true, if_false]
    refine enter Tryz.func13 [.cell 6 37, .tmp 7] rfl (by kernel_rfl) follows (by kernel_rfl) rfl fun g0 w0 gen hrel hfr hfr' hres => ?_
    repeat' (first
      | (refine ⟨?_, ?_⟩; focus ((repeat' (first | refine And.intro ?_ ?_ | refine Or.inr ?_)); all_goals kernel_rfl))
      | exact hin _ | exact agf (by assumption)
      | (first | refine wp rfl ?_ | refine spt rfl ?_ | refine spf rfl ?_ | (refine spl (fun hc => ?_) fun hc => ?_) <;> (try rw [beq_iff_eq] at hc) <;> try simp only [hc] | (refine guarded_split (fun hb => ?_) fun hb => ?_) <;> try simp only [Bool.not_true, Bool.not_false] at hb | refine Call1_pure (h1) ?_ | refine Call1_pure (h2) ?_ | refine Call1_pure (h3) ?_ | refine Call1_pure (h4) ?_ | refine Call1_pure (h5) ?_ | refine Call1_pure (h6) ?_ | refine Call1_pure (h7) ?_ | refine Call1_pure (h8) ?_ | refine Call1_pure (h9) ?_ | refine finF hrel ?_ ?_ ?_) <;> try simp only [go_sem, *])

theorem tmPut_W {t s : Tm} {a : Int} (ht : TmW t) (hs : TmW s) : TmW (tmPut t a s).1 := by
  unfold tmPut
  repeat' split
  all_goals first | exact tmInn_W hs t 0 ht | exact zeroT_W | exact tm0_W0
theorem fmPut_W {t : Fm} {s : Tm} {a : Int} (ht : FmW t) (hs : TmW s) : FmW (fmPut t a s).1 := by
  unfold fmPut
  repeat' split
  all_goals first | exact fmInn_W hs t 0 ht | exact zeroF_W'

theorem c_MatrixPut (l : List Int) : Pure Tryz.prog env 3 [.sl .any (ints l)] (.bool true) := by
  intro h
  have hF := c_Few l
  cases hf : decide ((l.length : Int) ≤ 500) with
  | false =>
    rw [hf] at hF
    clear hf
    refine enter Tryz.func3 [.tmp 2] rfl (by kernel_rfl) follows (by kernel_rfl) rfl fun g0 w0 gen hrel hfr hfr' hres => ?_
    repeat' (first
      | exact hin _ | exact agf (by assumption)
      | (first | refine wp rfl ?_ | refine spt rfl ?_ | refine spf rfl ?_ | (refine spl (fun hc => ?_) fun hc => ?_) <;> (try rw [beq_iff_eq] at hc) <;> try simp only [hc] | (refine guarded_split (fun hb => ?_) fun hb => ?_) <;> try simp only [Bool.not_true, Bool.not_false] at hb | refine Call1_pure (hF) ?_ | refine Call1_pure (c_awake29) ?_ | refine finF hrel ?_ ?_ ?_) <;> try simp only [go_sem, *])
  | true =>
  rw [hf] at hF
  have hl : l.length ≤ 1000 := by simp at hf; omega
  have hN := c_New l
  obtain ⟨g, a0, hg, hgl, hC⟩ := c_Context l hl 0
  have hg1 : ∀ y ∈ g ++ [tNat], MkTy 1 y := by
    intro y hy
    rcases List.mem_append.1 hy with hy | hy
    · exact hg y hy
    · simp at hy; subst hy; exact .nat
  obtain ⟨v, a1, hT, hv⟩ := c_parts l hl (g ++ [tNat]) hg1 (by simp; omega) a0
  clear hf
  have hwk : weakLL (g.map Ty.cells ++ [tNat.cells]) = (g ++ [tNat]).map Ty.cells := by rw [← weakLL_Ty (g ++ [tNat])]; simp
  have hwk2 : weakLL (g.map Ty.cells) = g.map Ty.cells := weakLL_Ty g
  have b3 : (g.length + 1) * 32 ≤ 140737488355328 := by omega
  have b3' : g.length * 32 ≤ 140737488355328 := by omega
  have b4 : g.length + 1 ≤ 140737488355328 := by omega
  have b4' : g.length ≤ 140737488355328 := by omega
  have ml : (g.map Ty.cells).length = g.length := by simp
  have z0 : 0 + g.length = g.length := Nat.zero_add _
  have hNt := c_playNat
  rcases hv with rfl | ⟨f, w, c, rfl, ok, hm, fW, g1, g2, mw, wW, mc, cW⟩
  · clear hg hg1
    refine enter Tryz.func3 [.tmp 2] rfl (by kernel_rfl) follows (by kernel_rfl) rfl fun g0 w0 gen hrel hfr hfr' hres => ?_
    repeat' (first
      | exact hin _ | exact agf (by assumption)
      | (first | refine wp rfl ?_ | refine spt rfl ?_ | refine spf rfl ?_ | (refine spl (fun hc => ?_) fun hc => ?_) <;> (try rw [beq_iff_eq] at hc) <;> try simp only [hc] | (refine guarded_split (fun hb => ?_) fun hb => ?_) <;> try simp only [Bool.not_true, Bool.not_false] at hb | refine Call1_pure (hF) ?_ | refine Call1_pure (c_awake29) ?_ | refine Call1_pure (hNt) ?_ | refine Call1_new ⟨gen, 1000, 0⟩ (hN) (by first | exact hfr' _ _ | simp only [go_sem, *]) ?_ | (refine Call1_turn (hC _) ?_ ?_; focus ((simp only [go_sem, *] <;> rfl); done)) | (refine Call1_turn (hT _) ?_ ?_; focus ((simp only [go_sem, *] <;> rfl); done)) | refine finF hrel ?_ ?_ ?_) <;> try simp only [go_sem, *])
  have hgF : ∀ y ∈ g, TyF y ∧ tyH y ≤ 40 := fun y hy => f40_of (by omega) (hg y hy)
  have e22 : Int.toNat 2 = 2 := rfl
  obtain ⟨n, a2, mn, nW, hTn⟩ := c_Term l hl 2 g tNat a1 hgF .nat (by have := (TyG.nat).h40; omega) (by have := (TyG.nat).h40; have e : Int.toNat 2 = 2 := rfl; omega) (by have := (TyG.nat).h40; omega)
  rw [e22] at mn
  have cM := c_matF f fW w c wW cW
  have mW := matF_W fW wW cW
  have hgood := law_matFree hm hg1 (by simp; omega) ok mw mc
  have law := law_matPut hm hg (by omega) ok mw mc mn
  have p1 := c_fmPut (matF f w c).1 mW 0 n nW
  have p2 := c_fmPut f fW 0 n nW
  have p3 := c_tmPut w wW 0 n nW
  have p4 := c_tmPut c cW 0 n nW
  have cY := c_matF (fmPut f 0 n).1 (fmPut_W fW nW) (tmPut w 0 n).1 (tmPut c 0 n).1 (tmPut_W wW nW) (tmPut_W cW nW)
  have XW := fmPut_W (a := 0) mW nW
  have cS := c_refFmSame (fmPut (matF f w c).1 0 n).1 XW (fmPut (matF f w c).1 0 n).1 XW
  rw [Fm.same_refl] at cS
  have n4 : ((4 : Int) != 0) = true := rfl
  have n0 : ((0 : Int) != 0) = false := rfl
  have k4 : ((4 : Int) == 4) = true := rfl
  have k0 : ((0 : Int) == 0) = true := rfl
  have k04 : ((0 : Int) == 4) = false := rfl
  clear hg hg1 hm g1 g2 mw mc ok mn hgF XW mW
  generalize matF (fmPut f 0 n).1 (tmPut w 0 n).1 (tmPut c 0 n).1 = Y at *
  generalize matF f w c = M at *
  obtain ⟨m, e⟩ := M
  simp only at p1 cS law hgood
  generalize fmPut m 0 n = PM at *
  generalize fmPut f 0 n = PF at *
  generalize tmPut w 0 n = PW at *
  generalize tmPut c 0 n = PC at *
  obtain ⟨M1, M2⟩ := PM
  obtain ⟨F1, F2⟩ := PF
  obtain ⟨W1, W2⟩ := PW
  obtain ⟨C1, C2⟩ := PC
  obtain ⟨Y1, Y2⟩ := Y
  simp only [fmErrV, tmErrV] at cM p1 p2 p3 p4 cY law hgood cS
  rcases hgood with rfl | ⟨rfl, -⟩
  · clear p1 p2 p3 p4 cY cS law
    refine enter Tryz.func3 [.tmp 2] rfl (by kernel_rfl) follows (by kernel_rfl) rfl fun g0 w0 gen hrel hfr hfr' hres => ?_
    repeat' (first
      | exact hin _ | exact agf (by assumption)
      | (first | refine wp rfl ?_ | refine spt rfl ?_ | refine spf rfl ?_ | (refine spl (fun hc => ?_) fun hc => ?_) <;> (try rw [beq_iff_eq] at hc) <;> try simp only [hc] | (refine guarded_split (fun hb => ?_) fun hb => ?_) <;> try simp only [Bool.not_true, Bool.not_false] at hb | refine Call1_pure (hF) ?_ | refine Call1_pure (c_awake29) ?_ | refine Call1_pure (hNt) ?_ | refine Call1_new ⟨gen, 1000, 0⟩ (hN) (by first | exact hfr' _ _ | simp only [go_sem, *]) ?_ | (refine Call1_turn (hC _) ?_ ?_; focus ((simp only [go_sem, *] <;> rfl); done)) | (refine Call1_turn (hT _) ?_ ?_; focus ((simp only [go_sem, *] <;> rfl); done)) | (refine Call1_turn (hTn _) ?_ ?_; focus ((simp only [go_sem, *] <;> rfl); done)) | refine Call1_pure (cM) ?_ | refine finF hrel ?_ ?_ ?_) <;> try simp only [go_sem, *])
  cases q1 : (M2 != 0) with
  | true =>
    clear cY cS law
    refine enter Tryz.func3 [.tmp 2] rfl (by kernel_rfl) follows (by kernel_rfl) rfl fun g0 w0 gen hrel hfr hfr' hres => ?_
    repeat' (first
      | exact hin _ | exact agf (by assumption)
      | (first | refine wp rfl ?_ | refine spt rfl ?_ | refine spf rfl ?_ | (refine spl (fun hc => ?_) fun hc => ?_) <;> (try rw [beq_iff_eq] at hc) <;> try simp only [hc] | (refine guarded_split (fun hb => ?_) fun hb => ?_) <;> try simp only [Bool.not_true, Bool.not_false] at hb | refine Call1_pure (hF) ?_ | refine Call1_pure (c_awake29) ?_ | refine Call1_pure (hNt) ?_ | refine Call1_new ⟨gen, 1000, 0⟩ (hN) (by first | exact hfr' _ _ | simp only [go_sem, *]) ?_ | (refine Call1_turn (hC _) ?_ ?_; focus ((simp only [go_sem, *] <;> rfl); done)) | (refine Call1_turn (hT _) ?_ ?_; focus ((simp only [go_sem, *] <;> rfl); done)) | (refine Call1_turn (hTn _) ?_ ?_; focus ((simp only [go_sem, *] <;> rfl); done)) | refine Call1_pure (cM) ?_ | refine Call1_pure (p1) ?_ | refine Call1_pure (p2) ?_ | refine Call1_pure (p3) ?_ | refine Call1_pure (p4) ?_ | refine finF hrel ?_ ?_ ?_) <;> try simp only [go_sem, *])
  | false =>
  cases q2 : (F2 != 0) with
  | true =>
    clear cY cS law
    refine enter Tryz.func3 [.tmp 2] rfl (by kernel_rfl) follows (by kernel_rfl) rfl fun g0 w0 gen hrel hfr hfr' hres => ?_
    repeat' (first
      | exact hin _ | exact agf (by assumption)
      | (first | refine wp rfl ?_ | refine spt rfl ?_ | refine spf rfl ?_ | (refine spl (fun hc => ?_) fun hc => ?_) <;> (try rw [beq_iff_eq] at hc) <;> try simp only [hc] | (refine guarded_split (fun hb => ?_) fun hb => ?_) <;> try simp only [Bool.not_true, Bool.not_false] at hb | refine Call1_pure (hF) ?_ | refine Call1_pure (c_awake29) ?_ | refine Call1_pure (hNt) ?_ | refine Call1_new ⟨gen, 1000, 0⟩ (hN) (by first | exact hfr' _ _ | simp only [go_sem, *]) ?_ | (refine Call1_turn (hC _) ?_ ?_; focus ((simp only [go_sem, *] <;> rfl); done)) | (refine Call1_turn (hT _) ?_ ?_; focus ((simp only [go_sem, *] <;> rfl); done)) | (refine Call1_turn (hTn _) ?_ ?_; focus ((simp only [go_sem, *] <;> rfl); done)) | refine Call1_pure (cM) ?_ | refine Call1_pure (p1) ?_ | refine Call1_pure (p2) ?_ | refine Call1_pure (p3) ?_ | refine Call1_pure (p4) ?_ | refine finF hrel ?_ ?_ ?_) <;> try simp only [go_sem, *])
  | false =>
  cases q3 : (W2 != 0) with
  | true =>
    clear cY cS law
    refine enter Tryz.func3 [.tmp 2] rfl (by kernel_rfl) follows (by kernel_rfl) rfl fun g0 w0 gen hrel hfr hfr' hres => ?_
    repeat' (first
      | exact hin _ | exact agf (by assumption)
      | (first | refine wp rfl ?_ | refine spt rfl ?_ | refine spf rfl ?_ | (refine spl (fun hc => ?_) fun hc => ?_) <;> (try rw [beq_iff_eq] at hc) <;> try simp only [hc] | (refine guarded_split (fun hb => ?_) fun hb => ?_) <;> try simp only [Bool.not_true, Bool.not_false] at hb | refine Call1_pure (hF) ?_ | refine Call1_pure (c_awake29) ?_ | refine Call1_pure (hNt) ?_ | refine Call1_new ⟨gen, 1000, 0⟩ (hN) (by first | exact hfr' _ _ | simp only [go_sem, *]) ?_ | (refine Call1_turn (hC _) ?_ ?_; focus ((simp only [go_sem, *] <;> rfl); done)) | (refine Call1_turn (hT _) ?_ ?_; focus ((simp only [go_sem, *] <;> rfl); done)) | (refine Call1_turn (hTn _) ?_ ?_; focus ((simp only [go_sem, *] <;> rfl); done)) | refine Call1_pure (cM) ?_ | refine Call1_pure (p1) ?_ | refine Call1_pure (p2) ?_ | refine Call1_pure (p3) ?_ | refine Call1_pure (p4) ?_ | refine finF hrel ?_ ?_ ?_) <;> try simp only [go_sem, *])
  | false =>
  cases q4 : (C2 != 0) with
  | true =>
    clear cY cS law
    refine enter Tryz.func3 [.tmp 2] rfl (by kernel_rfl) follows (by kernel_rfl) rfl fun g0 w0 gen hrel hfr hfr' hres => ?_
    repeat' (first
      | exact hin _ | exact agf (by assumption)
      | (first | refine wp rfl ?_ | refine spt rfl ?_ | refine spf rfl ?_ | (refine spl (fun hc => ?_) fun hc => ?_) <;> (try rw [beq_iff_eq] at hc) <;> try simp only [hc] | (refine guarded_split (fun hb => ?_) fun hb => ?_) <;> try simp only [Bool.not_true, Bool.not_false] at hb | refine Call1_pure (hF) ?_ | refine Call1_pure (c_awake29) ?_ | refine Call1_pure (hNt) ?_ | refine Call1_new ⟨gen, 1000, 0⟩ (hN) (by first | exact hfr' _ _ | simp only [go_sem, *]) ?_ | (refine Call1_turn (hC _) ?_ ?_; focus ((simp only [go_sem, *] <;> rfl); done)) | (refine Call1_turn (hT _) ?_ ?_; focus ((simp only [go_sem, *] <;> rfl); done)) | (refine Call1_turn (hTn _) ?_ ?_; focus ((simp only [go_sem, *] <;> rfl); done)) | refine Call1_pure (cM) ?_ | refine Call1_pure (p1) ?_ | refine Call1_pure (p2) ?_ | refine Call1_pure (p3) ?_ | refine Call1_pure (p4) ?_ | refine finF hrel ?_ ?_ ?_) <;> try simp only [go_sem, *])
  | false =>
  rcases law rfl (by simpa using q1) (by simpa using q2) (by simpa using q3) (by simpa using q4) with rfl | ⟨rfl, rfl⟩
  · clear cS law
    refine enter Tryz.func3 [.tmp 2] rfl (by kernel_rfl) follows (by kernel_rfl) rfl fun g0 w0 gen hrel hfr hfr' hres => ?_
    repeat' (first
      | exact hin _ | exact agf (by assumption)
      | (first | refine wp rfl ?_ | refine spt rfl ?_ | refine spf rfl ?_ | (refine spl (fun hc => ?_) fun hc => ?_) <;> (try rw [beq_iff_eq] at hc) <;> try simp only [hc] | (refine guarded_split (fun hb => ?_) fun hb => ?_) <;> try simp only [Bool.not_true, Bool.not_false] at hb | refine Call1_pure (hF) ?_ | refine Call1_pure (c_awake29) ?_ | refine Call1_pure (hNt) ?_ | refine Call1_new ⟨gen, 1000, 0⟩ (hN) (by first | exact hfr' _ _ | simp only [go_sem, *]) ?_ | (refine Call1_turn (hC _) ?_ ?_; focus ((simp only [go_sem, *] <;> rfl); done)) | (refine Call1_turn (hT _) ?_ ?_; focus ((simp only [go_sem, *] <;> rfl); done)) | (refine Call1_turn (hTn _) ?_ ?_; focus ((simp only [go_sem, *] <;> rfl); done)) | refine Call1_pure (cM) ?_ | refine Call1_pure (p1) ?_ | refine Call1_pure (p2) ?_ | refine Call1_pure (p3) ?_ | refine Call1_pure (p4) ?_ | refine Call1_pure (cY) ?_ | refine finF hrel ?_ ?_ ?_) <;> try simp only [go_sem, *])
  · clear law
    refine enter Tryz.func3 [.tmp 2] rfl (by kernel_rfl) follows (by kernel_rfl) rfl fun g0 w0 gen hrel hfr hfr' hres => ?_
    repeat' (first
      | exact hin _ | exact agf (by assumption)
      | (first | refine wp rfl ?_ | refine spt rfl ?_ | refine spf rfl ?_ | (refine spl (fun hc => ?_) fun hc => ?_) <;> (try rw [beq_iff_eq] at hc) <;> try simp only [hc] | (refine guarded_split (fun hb => ?_) fun hb => ?_) <;> try simp only [Bool.not_true, Bool.not_false] at hb | refine Call1_pure (hF) ?_ | refine Call1_pure (c_awake29) ?_ | refine Call1_pure (hNt) ?_ | refine Call1_new ⟨gen, 1000, 0⟩ (hN) (by first | exact hfr' _ _ | simp only [go_sem, *]) ?_ | (refine Call1_turn (hC _) ?_ ?_; focus ((simp only [go_sem, *] <;> rfl); done)) | (refine Call1_turn (hT _) ?_ ?_; focus ((simp only [go_sem, *] <;> rfl); done)) | (refine Call1_turn (hTn _) ?_ ?_; focus ((simp only [go_sem, *] <;> rfl); done)) | refine Call1_pure (cM) ?_ | refine Call1_pure (p1) ?_ | refine Call1_pure (p2) ?_ | refine Call1_pure (p3) ?_ | refine Call1_pure (p4) ?_ | refine Call1_pure (cY) ?_ | refine Call1_pure (cS) ?_ | refine finF hrel ?_ ?_ ?_) <;> try simp only [go_sem, *])
end Go.Proofs.YtdbehnonmffhiaaGreatDoor
