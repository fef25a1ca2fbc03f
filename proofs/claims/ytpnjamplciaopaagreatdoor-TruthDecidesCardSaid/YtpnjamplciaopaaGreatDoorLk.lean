/-
  Walks: the laws of the values of characteristic terms.
-/
import Derived.Test.YtpnjamplciaopaaGreatDoorLj
set_option linter.unusedSimpArgs false
set_option linter.unusedVariables false
set_option maxRecDepth 20000
set_option maxHeartbeats 4000000
namespace Go.Proofs.YtpnjamplciaopaaGreatDoor
open Go GoAbs Go.Proofs

theorem c_TruthDecides (l : List Int) : Pure Tryz.prog env 4 [.sl .any (ints l)] (.bool true) := by
  have hF := c_Few l
  cases hf : decide ((l.length : Int) ≤ 500) with
  | false =>
    rw [hf] at hF
    clear hf
    intro h
    refine en Tryz.func4 [.tmp 2] rfl rfl fun g0 w0 gen hrel hfr hfr' hres => ?_
    repeat' (first
      | exact hin _ | exact agf (by assumption)
      | (first | refine wp rfl ?_ | refine spt rfl ?_ | refine spf rfl ?_ | (refine spl (fun hc => ?_) fun hc => ?_) <;> (try rw [beq_iff_eq] at hc) <;> try simp only [hc] | (refine gs (fun hb => ?_) fun hb => ?_) <;> try simp only [Bool.not_true, Bool.not_false] at hb | refine cp (hF) ?_ | refine cp (c_awake30) ?_ | refine finF hrel ?_ ?_ ?_) <;> try simp only [go_sem, *])
  | true =>
  rw [hf] at hF
  have hl : l.length ≤ 1000 := by simp at hf; omega
  clear hf
  have hN := c_New l
  obtain ⟨f, a', hf, wf, Tf⟩ := c_free30 l hl 3 (by omega) 0
  replace Tf : ∀ d, Turns Tryz.prog env 27 [.ptr d 0, .int .i64 3] d (.box (deckC l 0)) (.agg f.cells) (.box (deckC l a')) := Tf
  obtain ⟨C, hz⟩ := hf.all
  have hz : fmSz f ≤ 4096 := by omega
  have h1 := c_trTerm (u := true) f wf (fun _ => ⟨C.gd, hz⟩) (far_least f)
  rw [C.trF hz] at h1
  have h2 := c_r09Truth f C hz wf 65536 (by omega)
  replace h2 : Pure Tryz.prog env 28 [.agg f.cells, .int .i64 65536] (t9V (t9R 65536 (f.t9 65536))) := h2
  have e1 := tr_err C.gd C.fr
  have e2 := t9_err C.gd C.fr 65536
  have c4 := c_limits30 4
  have c5 := c_limits30 5
  rw [show ((4 : Int) == 4 || (4 : Int) == 5 || (4 : Int) == 3) = true from rfl] at c4
  rw [show ((5 : Int) == 4 || (5 : Int) == 5 || (5 : Int) == 3) = true from rfl] at c5
  have l0 := c_limits30 0
  rw [show ((0 : Int) == 4 || (0 : Int) == 5 || (0 : Int) == 3) = false from rfl] at l0
  have n0 : ((0 : Int) != 0) = false := rfl
  have n4 : ((4 : Int) != 0) = true := rfl
  have n5 : ((5 : Int) != 0) = true := rfl
  have tt : (true == true) = true := rfl
  have ff : (false == false) = true := rfl
  rcases e1 with e1 | e1
  · rcases e2 with e2 | e2
    · have ty := tr_ty C.ty C.fr (by simp) C.gd hz C.ls e1
      obtain ⟨tG, tz, _⟩ := tr_G C.gd C.fr hz 268435456 (by omega) (by omega) C.ls e1
      have tW := tr_W C.gd wf C.fr
      obtain ⟨r, u, o, h0, _⟩ := ev_some (w := 65536) ty
      have h3 := c_Eval0 (w := 65536) (by omega) ty tG tz tW h0
      replace h3 : Pure Tryz.prog env 30 [.agg f.tr.1.cells, .int .i64 65536] (evalV r u o) := h3
      have law : ev 65536 (65536 + 1) 0 f.tr.1 [] = some (r, u, false) → r.num = if (f.t9 65536).1 then 1 else 0 := fun h0 => law_trDecides C.ty C.gd C.fr hz C.ls e1 (w := 65536) (w' := 65536) e2 h0
      have h2r : t9R 65536 (f.t9 65536) = ((f.t9 65536).1, 65536 - (f.t9 65536).2.1, 0) := by unfold t9R; rw [e2]; rfl
      rw [h2r] at h2
      unfold t9V at h2
      unfold tmErrV at h1
      rw [e1] at h1
      simp only at h1 h2
      clear h2r ty tG tz tW e1 e2 C hf wf hz hl
      generalize (f.t9 65536).1 = b at *
      generalize 65536 - (f.t9 65536).2.1 = m at *
      cases o with
      | true =>
        clear law h0
        generalize f.tr.1 = T at *
        unfold evalV at h3
        simp only [if_true] at h3
        intro h
        refine en Tryz.func4 [.tmp 2] rfl rfl fun g0 w0 gen hrel hfr hfr' hres => ?_
        repeat' (first
          | exact hin _ | exact agf (by assumption)
          | (first | refine wp rfl ?_ | refine spt rfl ?_ | refine spf rfl ?_ | (refine spl (fun hc => ?_) fun hc => ?_) <;> (try rw [beq_iff_eq] at hc) <;> try simp only [hc] | (refine gs (fun hb => ?_) fun hb => ?_) <;> try simp only [Bool.not_true, Bool.not_false] at hb | refine cp (hF) ?_ | refine cp (c_awake30) ?_ | refine Call1_new ⟨gen, 1000, 0⟩ (hN) (by first | exact hfr' _ _ | simp only [go_sem, *]) ?_ | (refine ct (Tf _) ?_ ?_; focus ((simp only [go_sem, *] <;> rfl); done)) | refine cp (h1) ?_ | refine cp (h2) ?_ | refine cp (h3) ?_ | refine cp (c5) ?_ | refine finF hrel ?_ ?_ ?_) <;> try simp only [go_sem, *])
      | false =>
        have lw := law h0
        clear h0 law
        generalize f.tr.1 = T at *
        unfold evalV valN at h3
        rw [lw] at h3
        simp only [Bool.false_eq_true, if_false] at h3
        clear lw
        intro h
        cases b with
        | true =>
          replace h3 : Pure Tryz.prog env 30 [.agg T.cells, .int .i64 65536] (.tup [.agg [.int .i64 1, .int .i64 1, .sl .any [], .sl .any []], .int .i64 u, .int .i64 0]) := h3
          have d1 : decide ((1 : Int) ≤ 1) = true := rfl
          refine en Tryz.func4 [.tmp 2] rfl rfl fun g0 w0 gen hrel hfr hfr' hres => ?_
          repeat' (first
            | exact hin _ | exact agf (by assumption)
            | (first | refine wp rfl ?_ | refine spt rfl ?_ | refine spf rfl ?_ | (refine spl (fun hc => ?_) fun hc => ?_) <;> (try rw [beq_iff_eq] at hc) <;> try simp only [hc] | (refine gs (fun hb => ?_) fun hb => ?_) <;> try simp only [Bool.not_true, Bool.not_false] at hb | refine cp (hF) ?_ | refine cp (c_awake30) ?_ | refine Call1_new ⟨gen, 1000, 0⟩ (hN) (by first | exact hfr' _ _ | simp only [go_sem, *]) ?_ | (refine ct (Tf _) ?_ ?_; focus ((simp only [go_sem, *] <;> rfl); done)) | refine cp (h1) ?_ | refine cp (h2) ?_ | refine cp (h3) ?_ | refine finF hrel ?_ ?_ ?_) <;> try simp only [go_sem, *])
        | false =>
          replace h3 : Pure Tryz.prog env 30 [.agg T.cells, .int .i64 65536] (.tup [.agg [.int .i64 1, .int .i64 0, .sl .any [], .sl .any []], .int .i64 u, .int .i64 0]) := h3
          have d1 : decide ((0 : Int) ≤ 1) = true := rfl
          refine en Tryz.func4 [.tmp 2] rfl rfl fun g0 w0 gen hrel hfr hfr' hres => ?_
          repeat' (first
            | exact hin _ | exact agf (by assumption)
            | (first | refine wp rfl ?_ | refine spt rfl ?_ | refine spf rfl ?_ | (refine spl (fun hc => ?_) fun hc => ?_) <;> (try rw [beq_iff_eq] at hc) <;> try simp only [hc] | (refine gs (fun hb => ?_) fun hb => ?_) <;> try simp only [Bool.not_true, Bool.not_false] at hb | refine cp (hF) ?_ | refine cp (c_awake30) ?_ | refine Call1_new ⟨gen, 1000, 0⟩ (hN) (by first | exact hfr' _ _ | simp only [go_sem, *]) ?_ | (refine ct (Tf _) ?_ ?_; focus ((simp only [go_sem, *] <;> rfl); done)) | refine cp (h1) ?_ | refine cp (h2) ?_ | refine cp (h3) ?_ | refine finF hrel ?_ ?_ ?_) <;> try simp only [go_sem, *])
    · have h2r : t9R 65536 (f.t9 65536) = (false, 0, 5) := by unfold t9R; rw [e2]; rfl
      rw [h2r] at h2
      replace h2 : Pure Tryz.prog env 28 [.agg f.cells, .int .i64 65536] (.tup [.bool false, .int .i64 0, .int .i64 5]) := h2
      unfold tmErrV at h1
      rw [e1] at h1
      try simp only at h1
      clear h2r e1 e2 C hf wf hz hl
      generalize f.tr.1 = T at *
      intro h
      refine en Tryz.func4 [.tmp 2] rfl rfl fun g0 w0 gen hrel hfr hfr' hres => ?_
      repeat' (first
        | exact hin _ | exact agf (by assumption)
        | (first | refine wp rfl ?_ | refine spt rfl ?_ | refine spf rfl ?_ | (refine spl (fun hc => ?_) fun hc => ?_) <;> (try rw [beq_iff_eq] at hc) <;> try simp only [hc] | (refine gs (fun hb => ?_) fun hb => ?_) <;> try simp only [Bool.not_true, Bool.not_false] at hb | refine cp (hF) ?_ | refine cp (c_awake30) ?_ | refine Call1_new ⟨gen, 1000, 0⟩ (hN) (by first | exact hfr' _ _ | simp only [go_sem, *]) ?_ | (refine ct (Tf _) ?_ ?_; focus ((simp only [go_sem, *] <;> rfl); done)) | refine cp (h1) ?_ | refine cp (h2) ?_ | refine cp (l0) ?_ | refine cp (c5) ?_ | refine finF hrel ?_ ?_ ?_) <;> try simp only [go_sem, *])
  · unfold tmErrV at h1
    rw [e1] at h1
    try simp only at h1
    generalize t9R 65536 (f.t9 65536) = p at *
    obtain ⟨p1, p2, p3⟩ := p
    unfold t9V at h2
    simp only at h2
    clear e1 e2 C hf wf hz hl
    generalize f.tr.1 = T at *
    intro h
    refine en Tryz.func4 [.tmp 2] rfl rfl fun g0 w0 gen hrel hfr hfr' hres => ?_
    repeat' (first
      | exact hin _ | exact agf (by assumption)
      | (first | refine wp rfl ?_ | refine spt rfl ?_ | refine spf rfl ?_ | (refine spl (fun hc => ?_) fun hc => ?_) <;> (try rw [beq_iff_eq] at hc) <;> try simp only [hc] | (refine gs (fun hb => ?_) fun hb => ?_) <;> try simp only [Bool.not_true, Bool.not_false] at hb | refine cp (hF) ?_ | refine cp (c_awake30) ?_ | refine Call1_new ⟨gen, 1000, 0⟩ (hN) (by first | exact hfr' _ _ | simp only [go_sem, *]) ?_ | (refine ct (Tf _) ?_ ?_; focus ((simp only [go_sem, *] <;> rfl); done)) | refine cp (h1) ?_ | refine cp (h2) ?_ | refine cp (c4) ?_ | refine finF hrel ?_ ?_ ?_) <;> try simp only [go_sem, *])
end Go.Proofs.YtpnjamplciaopaaGreatDoor
