/-
  Walks: the law of the characteristic terms of a formula and of its negation.
-/
import Derived.Test.YtpnjamplciaopaaGreatDoorLj
set_option linter.unusedSimpArgs false
set_option linter.unusedVariables false
set_option maxRecDepth 20000
set_option maxHeartbeats 4000000
namespace Go.Proofs.YtpnjamplciaopaaGreatDoor
open Go GoAbs Go.Proofs

theorem c_TruthNot (l : List Int) : Pure Tryz.prog env 7 [.sl .any (ints l)] (.bool true) := by
  have hF := c_Few l
  cases hf : decide ((l.length : Int) ≤ 500) with
  | false =>
    rw [hf] at hF
    clear hf
    intro h
    refine en Tryz.func7 [.tmp 2] rfl rfl fun g0 w0 gen hrel hfr hfr' hres => ?_
    repeat' (first
      | (refine ⟨?_, ?_⟩; focus ((repeat' (first | refine And.intro ?_ ?_ | refine Or.inr ?_)); all_goals kernel_rfl))
      | exact hin _ | exact agf (by assumption)
      | (first | refine wp rfl ?_ | refine spt rfl ?_ | refine spf rfl ?_ | (refine spl (fun hc => ?_) fun hc => ?_) <;> (try rw [beq_iff_eq] at hc) <;> try simp only [hc] | (refine gs (fun hb => ?_) fun hb => ?_) <;> try simp only [Bool.not_true, Bool.not_false] at hb | refine cp (hF) ?_ | refine cp (c_awake30) ?_ | refine finF hrel ?_ ?_ ?_) <;> try simp only [go_sem, *])
  | true =>
  rw [hf] at hF
  have hl : l.length ≤ 1000 := by simp at hf; omega
  clear hf
  have hN := c_New l
  obtain ⟨f, a', hf, wf, Tf⟩ := c_free30 l hl 2 (by omega) 0
  replace Tf : ∀ d, Turns Tryz.prog env 27 [.ptr d 0, .int .i64 2] d (.box (deckC l 0)) (.agg f.cells) (.box (deckC l a')) := Tf
  obtain ⟨C, hz⟩ := hf.all
  have hz : fmSz f ≤ 4000 := by omega
  have hB := c_False
  rw [show fmEq (tm0 4 []) (tm0 5 [tm0 4 []]) = botF from rfl] at hB
  have wB : FmW botF := fmEq_W tm0_W0 oneT_W
  have C2 := FreeC.two (k := 3) (by omega) C botF_C
  have hz2 : fmSz (fmTwo 3 f botF) ≤ 4096 := by rw [fmSz_two, botF_sz]; omega
  have w2 : FmW (fmTwo 3 f botF) := fmTwo_W wf wB
  have h1 := c_trTerm (u := true) f wf (fun _ => ⟨C.gd, by omega⟩) (far_least f)
  rw [C.trF (by omega)] at h1
  have h2 := c_trTerm (u := true) (fmTwo 3 f botF) w2 (fun _ => ⟨C2.gd, hz2⟩) (far_least _)
  rw [C2.trF hz2] at h2
  have e1 := tr_err C.gd C.fr
  have e2 := tr_err C2.gd C2.fr
  have c4 := c_limits30 4
  have c5 := c_limits30 5
  rw [show ((4 : Int) == 4 || (4 : Int) == 5 || (4 : Int) == 3) = true from rfl] at c4
  rw [show ((5 : Int) == 4 || (5 : Int) == 5 || (5 : Int) == 3) = true from rfl] at c5
  have l0 := c_limits30 0
  rw [show ((0 : Int) == 4 || (0 : Int) == 5 || (0 : Int) == 3) = false from rfl] at l0
  have n0 : ((0 : Int) != 0) = false := rfl
  have n4 : ((4 : Int) != 0) = true := rfl
  have n5 : ((5 : Int) != 0) = true := rfl
  have e : (fmTwo 3 f botF).cells = [.int .i64 3, .int .i64 0, .sl .any [], .sl .any [], .sl .any [f.cells, botF.cells]] := by rw [fmTwo, Fm.mk_cells]; rfl
  have law : f.tr.2 = 0 → (fmTwo 3 f botF).tr.2 = 0 → ∀ u u' r r', ev 30000 (30000 + 1) 0 f.tr.1 [] = some (r, u, false) → ev 30000 (30000 + 1) 0 (fmTwo 3 f botF).tr.1 [] = some (r', u', false) → r.num + r'.num = 1 :=
    fun h h' u u' r r' v v' => law_trNot C.ty C.gd C.fr hz C.ls h h' v v'
  have ty1 : f.tr.2 = 0 → HasTy TyG [] f.tr.1 tNat ∧ TmG f.tr.1 ∧ tmSz f.tr.1 ≤ 4096 := fun h =>
    ⟨tr_ty C.ty C.fr (by simp) C.gd (by omega) C.ls h, (tr_G C.gd C.fr (by omega) 268435456 (by omega) (by omega) C.ls h).1, (tr_G C.gd C.fr (by omega) 268435456 (by omega) (by omega) C.ls h).2.1⟩
  have ty2 : (fmTwo 3 f botF).tr.2 = 0 → HasTy TyG [] (fmTwo 3 f botF).tr.1 tNat ∧ TmG (fmTwo 3 f botF).tr.1 ∧ tmSz (fmTwo 3 f botF).tr.1 ≤ 4096 := fun h =>
    ⟨tr_ty C2.ty C2.fr (by simp) C2.gd hz2 C2.ls h, (tr_G C2.gd C2.fr hz2 268435456 (by omega) (by omega) C2.ls h).1, (tr_G C2.gd C2.fr hz2 268435456 (by omega) (by omega) C2.ls h).2.1⟩
  have tw1 := tr_W C.gd wf C.fr
  have tw2 := tr_W C2.gd w2 C2.fr
  rw [e] at h2
  clear e C C2 hz hz2 w2 wB wf hf hl
  generalize f.tr = p at *
  generalize (fmTwo 3 f botF).tr = p' at *
  obtain ⟨T, eT⟩ := p
  obtain ⟨T2, eT2⟩ := p'
  unfold tmErrV at h1 h2
  simp only at *
  generalize botF = B at *
  rcases e1 with rfl | rfl
  · rcases e2 with rfl | rfl
    · obtain ⟨t1, t2, t3⟩ := ty1 rfl
      obtain ⟨s1, s2, s3⟩ := ty2 rfl
      obtain ⟨r, u, o, h0, _⟩ := ev_some (w := 30000) t1
      obtain ⟨r', u', o', h0', _⟩ := ev_some (w := 30000) s1
      have h3 := c_Eval0 (w := 30000) (by omega) t1 t2 t3 tw1 h0
      replace h3 : Pure Tryz.prog env 30 [.agg T.cells, .int .i64 30000] (evalV r u o) := h3
      have h4 := c_Eval0 (w := 30000) (by omega) s1 s2 s3 tw2 h0'
      replace h4 : Pure Tryz.prog env 30 [.agg T2.cells, .int .i64 30000] (evalV r' u' o') := h4
      have law := law rfl rfl u u' r r'
      clear ty1 ty2 t1 t2 t3 s1 s2 s3 tw1 tw2
      unfold evalV valN at h3 h4
      cases o with
      | true =>
        clear law h0 h0'
        simp only [if_true] at h3
        cases o' with
        | true =>
          simp only [if_true] at h4
          intro h
          refine en Tryz.func7 [.tmp 2] rfl rfl fun g0 w0 gen hrel hfr hfr' hres => ?_
          repeat' (first
            | (refine ⟨?_, ?_⟩; focus ((repeat' (first | refine And.intro ?_ ?_ | refine Or.inr ?_)); all_goals kernel_rfl))
            | exact hin _ | exact agf (by assumption)
            | (first | refine wp rfl ?_ | refine spt rfl ?_ | refine spf rfl ?_ | (refine spl (fun hc => ?_) fun hc => ?_) <;> (try rw [beq_iff_eq] at hc) <;> try simp only [hc] | (refine gs (fun hb => ?_) fun hb => ?_) <;> try simp only [Bool.not_true, Bool.not_false] at hb | refine cp (hF) ?_ | refine cp (c_awake30) ?_ | refine Call1_new ⟨gen, 1000, 0⟩ (hN) (by first | exact hfr' _ _ | simp only [go_sem, *]) ?_ | (refine ct (Tf _) ?_ ?_; focus ((simp only [go_sem, *] <;> rfl); done)) | refine cp (hB) ?_ | refine cp (h1) ?_ | refine cp (h2) ?_ | refine cp (h3) ?_ | refine cp (h4) ?_ | refine cp (c5) ?_ | refine finF hrel ?_ ?_ ?_) <;> try simp only [go_sem, *])
        | false =>
          simp only [Bool.false_eq_true, if_false] at h4
          intro h
          refine en Tryz.func7 [.tmp 2] rfl rfl fun g0 w0 gen hrel hfr hfr' hres => ?_
          repeat' (first
            | (refine ⟨?_, ?_⟩; focus ((repeat' (first | refine And.intro ?_ ?_ | refine Or.inr ?_)); all_goals kernel_rfl))
            | exact hin _ | exact agf (by assumption)
            | (first | refine wp rfl ?_ | refine spt rfl ?_ | refine spf rfl ?_ | (refine spl (fun hc => ?_) fun hc => ?_) <;> (try rw [beq_iff_eq] at hc) <;> try simp only [hc] | (refine gs (fun hb => ?_) fun hb => ?_) <;> try simp only [Bool.not_true, Bool.not_false] at hb | refine cp (hF) ?_ | refine cp (c_awake30) ?_ | refine Call1_new ⟨gen, 1000, 0⟩ (hN) (by first | exact hfr' _ _ | simp only [go_sem, *]) ?_ | (refine ct (Tf _) ?_ ?_; focus ((simp only [go_sem, *] <;> rfl); done)) | refine cp (hB) ?_ | refine cp (h1) ?_ | refine cp (h2) ?_ | refine cp (h3) ?_ | refine cp (h4) ?_ | refine cp (c5) ?_ | refine finF hrel ?_ ?_ ?_) <;> try simp only [go_sem, *])
      | false =>
        simp only [Bool.false_eq_true, if_false] at h3
        cases o' with
        | true =>
          clear law h0 h0'
          simp only [if_true] at h4
          intro h
          refine en Tryz.func7 [.tmp 2] rfl rfl fun g0 w0 gen hrel hfr hfr' hres => ?_
          repeat' (first
            | (refine ⟨?_, ?_⟩; focus ((repeat' (first | refine And.intro ?_ ?_ | refine Or.inr ?_)); all_goals kernel_rfl))
            | exact hin _ | exact agf (by assumption)
            | (first | refine wp rfl ?_ | refine spt rfl ?_ | refine spf rfl ?_ | (refine spl (fun hc => ?_) fun hc => ?_) <;> (try rw [beq_iff_eq] at hc) <;> try simp only [hc] | (refine gs (fun hb => ?_) fun hb => ?_) <;> try simp only [Bool.not_true, Bool.not_false] at hb | refine cp (hF) ?_ | refine cp (c_awake30) ?_ | refine Call1_new ⟨gen, 1000, 0⟩ (hN) (by first | exact hfr' _ _ | simp only [go_sem, *]) ?_ | (refine ct (Tf _) ?_ ?_; focus ((simp only [go_sem, *] <;> rfl); done)) | refine cp (hB) ?_ | refine cp (h1) ?_ | refine cp (h2) ?_ | refine cp (h3) ?_ | refine cp (h4) ?_ | refine cp (l0) ?_ | refine cp (c5) ?_ | refine finF hrel ?_ ?_ ?_) <;> try simp only [go_sem, *])
        | false =>
          have lw := law h0 h0'
          clear law h0 h0'
          simp only [Bool.false_eq_true, if_false] at h4
          have hw : IntKind.i64.wrap ((r.num : Int) + (r'.num : Int)) = 1 := wrap_eq (by omega) (by omega) (by omega)
          clear lw
          intro h
          refine en Tryz.func7 [.tmp 2] rfl rfl fun g0 w0 gen hrel hfr hfr' hres => ?_
          repeat' (first
            | (refine ⟨?_, ?_⟩; focus ((repeat' (first | refine And.intro ?_ ?_ | refine Or.inr ?_)); all_goals kernel_rfl))
            | exact hin _ | exact agf (by assumption)
            | (first | refine wp rfl ?_ | refine spt rfl ?_ | refine spf rfl ?_ | (refine spl (fun hc => ?_) fun hc => ?_) <;> (try rw [beq_iff_eq] at hc) <;> try simp only [hc] | (refine gs (fun hb => ?_) fun hb => ?_) <;> try simp only [Bool.not_true, Bool.not_false] at hb | refine cp (hF) ?_ | refine cp (c_awake30) ?_ | refine Call1_new ⟨gen, 1000, 0⟩ (hN) (by first | exact hfr' _ _ | simp only [go_sem, *]) ?_ | (refine ct (Tf _) ?_ ?_; focus ((simp only [go_sem, *] <;> rfl); done)) | refine cp (hB) ?_ | refine cp (h1) ?_ | refine cp (h2) ?_ | refine cp (h3) ?_ | refine cp (h4) ?_ | refine finF hrel ?_ ?_ ?_) <;> try simp only [go_sem, *])
    · clear law ty1 ty2 tw1 tw2
      intro h
      refine en Tryz.func7 [.tmp 2] rfl rfl fun g0 w0 gen hrel hfr hfr' hres => ?_
      repeat' (first
        | (refine ⟨?_, ?_⟩; focus ((repeat' (first | refine And.intro ?_ ?_ | refine Or.inr ?_)); all_goals kernel_rfl))
        | exact hin _ | exact agf (by assumption)
        | (first | refine wp rfl ?_ | refine spt rfl ?_ | refine spf rfl ?_ | (refine spl (fun hc => ?_) fun hc => ?_) <;> (try rw [beq_iff_eq] at hc) <;> try simp only [hc] | (refine gs (fun hb => ?_) fun hb => ?_) <;> try simp only [Bool.not_true, Bool.not_false] at hb | refine cp (hF) ?_ | refine cp (c_awake30) ?_ | refine Call1_new ⟨gen, 1000, 0⟩ (hN) (by first | exact hfr' _ _ | simp only [go_sem, *]) ?_ | (refine ct (Tf _) ?_ ?_; focus ((simp only [go_sem, *] <;> rfl); done)) | refine cp (hB) ?_ | refine cp (h1) ?_ | refine cp (h2) ?_ | refine cp (l0) ?_ | refine cp (c4) ?_ | refine finF hrel ?_ ?_ ?_) <;> try simp only [go_sem, *])
  · clear law ty1 ty2 tw1 tw2 e2
    intro h
    refine en Tryz.func7 [.tmp 2] rfl rfl fun g0 w0 gen hrel hfr hfr' hres => ?_
    repeat' (first
      | (refine ⟨?_, ?_⟩; focus ((repeat' (first | refine And.intro ?_ ?_ | refine Or.inr ?_)); all_goals kernel_rfl))
      | exact hin _ | exact agf (by assumption)
      | (first | refine wp rfl ?_ | refine spt rfl ?_ | refine spf rfl ?_ | (refine spl (fun hc => ?_) fun hc => ?_) <;> (try rw [beq_iff_eq] at hc) <;> try simp only [hc] | (refine gs (fun hb => ?_) fun hb => ?_) <;> try simp only [Bool.not_true, Bool.not_false] at hb | refine cp (hF) ?_ | refine cp (c_awake30) ?_ | refine Call1_new ⟨gen, 1000, 0⟩ (hN) (by first | exact hfr' _ _ | simp only [go_sem, *]) ?_ | (refine ct (Tf _) ?_ ?_; focus ((simp only [go_sem, *] <;> rfl); done)) | refine cp (hB) ?_ | refine cp (h1) ?_ | refine cp (h2) ?_ | refine cp (c4) ?_ | refine finF hrel ?_ ?_ ?_) <;> try simp only [go_sem, *])
end Go.Proofs.YtpnjamplciaopaaGreatDoor
