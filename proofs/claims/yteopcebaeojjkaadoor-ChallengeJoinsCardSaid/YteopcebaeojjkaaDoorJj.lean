/-
  Walks: the law of what is put together and comes apart again.
-/
import Derived.Test.YteopcebaeojjkaaDoorWx
import Derived.Test.YteopcebaeojjkaaDoorMd
import Derived.Test.YteopcebaeojjkaaDoorJb
import Derived.Test.YteopcebaeojjkaaDoorAbsDd
set_option linter.unusedSimpArgs false
set_option linter.unusedVariables false
set_option maxRecDepth 20000
set_option maxHeartbeats 4000000
namespace Go.Proofs.YteopcebaeojjkaaDoor
open Go GoAbs Go.Proofs

theorem c_TypeOf0 (t : Tm) (s : Ty) (hT : HasTy TyG [] t s) (hG : TmG t) (hz : tmSz t ≤ 4096) (hw : TmW t) :
    Pure Tryd.prog env 10 [.sl .any [], .agg t.cells] (.tup [.agg s.cells, .int .i64 0]) := by
  have h2 : Pure Tryd.prog env 42 [.sl .any [], .agg t.cells] (.tup [.agg s.cells, .int .i64 0]) := by
    intro h
    have h1 := c_tmCheck t hw
    rw [hG.err0 hz] at h1
    have h2 := c_infer hT (by simp) hw (by simp; omega)
    have n0 : ((0 : Int) != 0) = false := rfl
    simp only [List.map_nil] at h2
    clear hT hG hz hw
    refine en Tryd.func42 [.cell 4 29, .tmp 5] rfl rfl fun g0 w0 gen hrel hfr hfr' hres => ?_
    repeat' (first
      | exact hin _ | exact agf (by assumption)
      | (first | refine wp rfl ?_ | refine spt rfl ?_ | refine spf rfl ?_ | (refine spl (fun hc => ?_) fun hc => ?_) <;> (try rw [beq_iff_eq] at hc) <;> try simp only [hc] | refine cp (h1) ?_ | refine cp (h2) ?_ | refine finF hrel ?_ ?_ ?_) <;> try simp only [go_sem, *])
  intro h
  have h1 : Pure Tryd.prog env 41 [.sl .any []] (.int .i64 0) := by
    intro h
    have d1 : decide (((0 : Nat) : Int) > 16) = false := rfl
    refine en Tryd.func41 [.tmp 2] rfl rfl fun g0 w0 gen hrel hfr hfr' hres => ?_
    repeat' (first
      | exact hin _ | exact agf (by assumption)
      | (first | refine wp rfl ?_ | refine spt rfl ?_ | refine spf rfl ?_ | (refine spl (fun hc => ?_) fun hc => ?_) <;> (try rw [beq_iff_eq] at hc) <;> try simp only [hc] | refine finF hrel ?_ ?_ ?_) <;> try simp only [go_sem, *])
    refine AR_range [9] [] (fun i σ => Agree h σ.h ∧ True) (([] : List Ty)).length (by first | omega | (simp only [go_sem, *] <;> omega)) ⟨rfl, rfl, rfl⟩ rfl (by simp only [go_sem, *]) (by simp only [go_sem, *]) ?_ (by intro i σ t v ht hK; simp only [List.mem_cons, List.not_mem_nil, or_false] at ht; rcases ht with rfl | rfl | rfl <;> exact hK) ?_ ?_
    · simp only [go_sem, *]
      first | exact (by repeat (first | exact Agree.refl _ | assumption | refine Agree.new ?_ (hgf0 _ _) | refine Agree.new ?_ (hfr' _ _))) | exact ⟨(by repeat (first | exact Agree.refl _ | assumption | refine Agree.new ?_ (hgf0 _ _) | refine Agree.new ?_ (hfr' _ _))), trivial⟩
    ·
      intro i σ gr0 hgl_gr0 hgn hlt jI jN jS ⟨jA, _⟩
      obtain ⟨jT, jB⟩ := jS
      simp only [go_sem] at jT jB
      have hgf := fresh_of hgn
      have hgf0 : ∀ r i, h ⟨gr0, r, i⟩ = none := fun r i => agree_fresh jA (hgf r i)
      have eg_gen_gr0 := gen_lt (show gen < gr0 by omega)
      have eh_gen_gr0 := gen_lt' (show gen < gr0 by omega)
      obtain ⟨x, hx⟩ : ∃ x, (([] : List Ty))[i]? = some x := ⟨_, List.getElem?_eq_getElem hlt⟩
      have hxm := List.mem_of_getElem? hx
      have hm := min_lt hlt
      clear hgn
      simp at hlt
    ·
      intro σ ga0 hgl_ga0 hgn jS ⟨jA, _⟩
      obtain ⟨jT, jB⟩ := jS
      simp only [go_sem] at jT jB
      have hgf := fresh_of hgn
      have hgf0 : ∀ r i, h ⟨ga0, r, i⟩ = none := fun r i => agree_fresh jA (hgf r i)
      have eg_gen_ga0 := gen_lt (show gen < ga0 by omega)
      have eh_gen_ga0 := gen_lt' (show gen < ga0 by omega)
      clear hgn
      repeat' (first
        | exact hin _ | exact agf (by assumption)
        | (first | refine wp rfl ?_ | refine spt rfl ?_ | refine spf rfl ?_ | (refine spl (fun hc => ?_) fun hc => ?_) <;> (try rw [beq_iff_eq] at hc) <;> try simp only [hc] | refine finF hrel ?_ ?_ ?_) <;> try simp only [go_sem, *])
  have n0 : ((0 : Int) != 0) = false := rfl
  clear hT hG hz hw
  refine en Tryd.func10 [.cell 4 29, .tmp 5] rfl rfl fun g0 w0 gen hrel hfr hfr' hres => ?_
  repeat' (first
    | exact hin _ | exact agf (by assumption)
    | (first | refine wp rfl ?_ | refine spt rfl ?_ | refine spf rfl ?_ | (refine spl (fun hc => ?_) fun hc => ?_) <;> (try rw [beq_iff_eq] at hc) <;> try simp only [hc] | refine cp (h1) ?_ | refine cp (h2) ?_ | refine finF hrel ?_ ?_ ?_) <;> try simp only [go_sem, *])

theorem c_ChallengeJoins (l : List Int) : Pure Tryd.prog env 3 [.sl .any (ints l)] (.bool true) := by
  intro h
  have hF := c_Few l
  cases hf : decide ((l.length : Int) ≤ 500) with
  | false =>
    rw [hf] at hF
    clear hf
    refine en Tryd.func3 [.tmp 2] rfl rfl fun g0 w0 gen hrel hfr hfr' hres => ?_
    repeat' (first
      | (refine ⟨?_, ?_⟩; focus ((repeat' (first | refine And.intro ?_ ?_ | refine Or.inr ?_)); all_goals kernel_rfl))
      | exact hin _ | exact agf (by assumption)
      | (first | refine wp rfl ?_ | refine spt rfl ?_ | refine spf rfl ?_ | (refine spl (fun hc => ?_) fun hc => ?_) <;> (try rw [beq_iff_eq] at hc) <;> try simp only [hc] | (refine gs (fun hb => ?_) fun hb => ?_) <;> try simp only [Bool.not_true, Bool.not_false] at hb | refine cp (hF) ?_ | refine cp (c_awake28) ?_ | refine finF hrel ?_ ?_ ?_) <;> try simp only [go_sem, *])
  | true =>
  rw [hf] at hF
  have hl : l.length ≤ 1000 := by simp at hf; omega
  have hN := c_New l
  have hA := fun d => c_Type l hl d 1 (by omega) 0
  have ma := mkType_Mk (l := l) 1 0
  generalize mkType l 1 0 = pa at *
  obtain ⟨a, a1⟩ := pa
  simp only at hA ma
  have hB := fun d => c_Type l hl d 1 (by omega) a1
  have mb := mkType_Mk (l := l) 1 a1
  generalize mkType l 1 a1 = pb at *
  obtain ⟨b, a2⟩ := pb
  simp only at hB mb
  have hba := ma.H
  have hbb := mb.H
  obtain ⟨s, a3, ms, sW, hTs⟩ := c_Term l hl 2 [] a a2 (by simp) ma.F (by omega) (by have e : Int.toNat 2 = 2 := rfl; simp; omega) (by omega)
  obtain ⟨t, a4, mt, tW, hTt⟩ := c_Term l hl 2 [] b a3 (by simp) mb.F (by omega) (by have e : Int.toNat 2 = 2 := rfl; simp; omega) (by omega)
  have e22 : Int.toNat 2 = 2 := rfl
  rw [e22] at ms mt
  simp only [List.map_nil] at hTs hTt
  obtain ⟨c1, c2, c3, c4, c5, m1, m2⟩ := law_chJoins ma mb ms mt
  have jW : TmW (chJoin a b s t) := by
    unfold chJoin
    split
    · exact tW
    · split
      · exact sW
      · exact tm0_W2 sW tW
  have pW : ∀ (k : Int) (x y : Ty) {u : Tm}, TmW u → TmW (chPart k x y u) := by
    intro k x y u hu
    unfold chPart
    repeat' split
    · exact tm0_W0
    · exact hu
    · exact tm0_W1 hu
  have k1 := c_Join a b s t
  have k2 := c_TypeOf0 _ _ c1.ty c1.gd c1.sz jW
  have k3 := c_chPair a b
  have k4 := c_refSame (chPair a b) (chPair_W ma.F.W mb.F.W) (chPair a b) (chPair_W ma.F.W mb.F.W)
  rw [Ty.same_refl] at k4
  have k5 := c_Left a b (chJoin a b s t)
  have k6 := c_Right a b (chJoin a b s t)
  have k7 := c_MatchG (g := []) (by simp) _ s c2.ty c4.ty c2.gd c4.gd c2.sz c4.sz (pW 11 a b jW) sW
  have k8 := c_MatchG (g := []) (by simp) _ t c3.ty c5.ty c3.gd c5.gd c3.sz c5.sz (pW 12 b a jW) tW
  have q1 := lim_match m1
  have q2 := lim_match m2
  have n0 : ((0 : Int) != 0) = false := rfl
  have L1 := c_limits (matchN 11 (chPart 11 a b (chJoin a b s t)) s)
  have L2 := c_limits (matchN 11 (chPart 12 b a (chJoin a b s t)) t)
  clear hf ma mb ms mt c1 c2 c3 c4 c5 m1 m2 jW pW sW tW hba hbb
  generalize matchN 11 (chPart 11 a b (chJoin a b s t)) s = e1 at *
  generalize matchN 11 (chPart 12 b a (chJoin a b s t)) t = e2 at *
  generalize chPart 11 a b (chJoin a b s t) = x at *
  generalize chPart 12 b a (chJoin a b s t) = y at *
  generalize chJoin a b s t = j at *
  generalize chPair a b = u at *
  obtain ⟨q11, q12⟩ := q1
  obtain ⟨q21, q22⟩ := q2
  cases ka : (a.kind == 5) <;> cases kb : (b.kind == 5)
  all_goals
    rcases q12 with q12 | ⟨q12, q13⟩
    · rcases q22 with q22 | ⟨q22, q23⟩
      ·
        refine en Tryd.func3 [.tmp 2] rfl rfl fun g0 w0 gen hrel hfr hfr' hres => ?_
        repeat' (first
          | (refine ⟨?_, ?_⟩; focus ((repeat' (first | refine And.intro ?_ ?_ | refine Or.inr ?_)); all_goals kernel_rfl))
          | exact hin _ | exact agf (by assumption)
          | (first | refine wp rfl ?_ | refine spt rfl ?_ | refine spf rfl ?_ | (refine spl (fun hc => ?_) fun hc => ?_) <;> (try rw [beq_iff_eq] at hc) <;> try simp only [hc] | (refine gs (fun hb => ?_) fun hb => ?_) <;> try simp only [Bool.not_true, Bool.not_false] at hb | refine cp (hF) ?_ | refine cp (c_awake28) ?_ | refine Call1_new ⟨gen, 1000, 0⟩ (hN) (by first | exact hfr' _ _ | simp only [go_sem, *]) ?_ | (refine ct (hA _) ?_ ?_; focus ((simp only [go_sem, *] <;> rfl); done)) | (refine ct (hB _) ?_ ?_; focus ((simp only [go_sem, *] <;> rfl); done)) | (refine ct (hTs _) ?_ ?_; focus ((simp only [go_sem, *] <;> rfl); done)) | (refine ct (hTt _) ?_ ?_; focus ((simp only [go_sem, *] <;> rfl); done)) | refine cp (k1) ?_ | refine cp (k2) ?_ | refine cp (k3) ?_ | refine cp (k4) ?_ | refine cp (k5) ?_ | refine cp (k6) ?_ | refine cp (k7) ?_ | refine cp (k8) ?_ | refine finF hrel ?_ ?_ ?_) <;> try simp only [go_sem, *])
      · rw [q23] at L2
        refine en Tryd.func3 [.tmp 2] rfl rfl fun g0 w0 gen hrel hfr hfr' hres => ?_
        repeat' (first
          | (refine ⟨?_, ?_⟩; focus ((repeat' (first | refine And.intro ?_ ?_ | refine Or.inr ?_)); all_goals kernel_rfl))
          | exact hin _ | exact agf (by assumption)
          | (first | refine wp rfl ?_ | refine spt rfl ?_ | refine spf rfl ?_ | (refine spl (fun hc => ?_) fun hc => ?_) <;> (try rw [beq_iff_eq] at hc) <;> try simp only [hc] | (refine gs (fun hb => ?_) fun hb => ?_) <;> try simp only [Bool.not_true, Bool.not_false] at hb | refine cp (hF) ?_ | refine cp (c_awake28) ?_ | refine Call1_new ⟨gen, 1000, 0⟩ (hN) (by first | exact hfr' _ _ | simp only [go_sem, *]) ?_ | (refine ct (hA _) ?_ ?_; focus ((simp only [go_sem, *] <;> rfl); done)) | (refine ct (hB _) ?_ ?_; focus ((simp only [go_sem, *] <;> rfl); done)) | (refine ct (hTs _) ?_ ?_; focus ((simp only [go_sem, *] <;> rfl); done)) | (refine ct (hTt _) ?_ ?_; focus ((simp only [go_sem, *] <;> rfl); done)) | refine cp (k1) ?_ | refine cp (k2) ?_ | refine cp (k3) ?_ | refine cp (k4) ?_ | refine cp (k5) ?_ | refine cp (k6) ?_ | refine cp (k7) ?_ | refine cp (k8) ?_ | refine cp (L2) ?_ | refine finF hrel ?_ ?_ ?_) <;> try simp only [go_sem, *])
    · rw [q13] at L1
      rcases q22 with q22 | ⟨q22, q23⟩
      ·
        refine en Tryd.func3 [.tmp 2] rfl rfl fun g0 w0 gen hrel hfr hfr' hres => ?_
        repeat' (first
          | (refine ⟨?_, ?_⟩; focus ((repeat' (first | refine And.intro ?_ ?_ | refine Or.inr ?_)); all_goals kernel_rfl))
          | exact hin _ | exact agf (by assumption)
          | (first | refine wp rfl ?_ | refine spt rfl ?_ | refine spf rfl ?_ | (refine spl (fun hc => ?_) fun hc => ?_) <;> (try rw [beq_iff_eq] at hc) <;> try simp only [hc] | (refine gs (fun hb => ?_) fun hb => ?_) <;> try simp only [Bool.not_true, Bool.not_false] at hb | refine cp (hF) ?_ | refine cp (c_awake28) ?_ | refine Call1_new ⟨gen, 1000, 0⟩ (hN) (by first | exact hfr' _ _ | simp only [go_sem, *]) ?_ | (refine ct (hA _) ?_ ?_; focus ((simp only [go_sem, *] <;> rfl); done)) | (refine ct (hB _) ?_ ?_; focus ((simp only [go_sem, *] <;> rfl); done)) | (refine ct (hTs _) ?_ ?_; focus ((simp only [go_sem, *] <;> rfl); done)) | (refine ct (hTt _) ?_ ?_; focus ((simp only [go_sem, *] <;> rfl); done)) | refine cp (k1) ?_ | refine cp (k2) ?_ | refine cp (k3) ?_ | refine cp (k4) ?_ | refine cp (k5) ?_ | refine cp (k6) ?_ | refine cp (k7) ?_ | refine cp (k8) ?_ | refine cp (L1) ?_ | refine finF hrel ?_ ?_ ?_) <;> try simp only [go_sem, *])
      · rw [q23] at L2
        refine en Tryd.func3 [.tmp 2] rfl rfl fun g0 w0 gen hrel hfr hfr' hres => ?_
        repeat' (first
          | (refine ⟨?_, ?_⟩; focus ((repeat' (first | refine And.intro ?_ ?_ | refine Or.inr ?_)); all_goals kernel_rfl))
          | exact hin _ | exact agf (by assumption)
          | (first | refine wp rfl ?_ | refine spt rfl ?_ | refine spf rfl ?_ | (refine spl (fun hc => ?_) fun hc => ?_) <;> (try rw [beq_iff_eq] at hc) <;> try simp only [hc] | (refine gs (fun hb => ?_) fun hb => ?_) <;> try simp only [Bool.not_true, Bool.not_false] at hb | refine cp (hF) ?_ | refine cp (c_awake28) ?_ | refine Call1_new ⟨gen, 1000, 0⟩ (hN) (by first | exact hfr' _ _ | simp only [go_sem, *]) ?_ | (refine ct (hA _) ?_ ?_; focus ((simp only [go_sem, *] <;> rfl); done)) | (refine ct (hB _) ?_ ?_; focus ((simp only [go_sem, *] <;> rfl); done)) | (refine ct (hTs _) ?_ ?_; focus ((simp only [go_sem, *] <;> rfl); done)) | (refine ct (hTt _) ?_ ?_; focus ((simp only [go_sem, *] <;> rfl); done)) | refine cp (k1) ?_ | refine cp (k2) ?_ | refine cp (k3) ?_ | refine cp (k4) ?_ | refine cp (k5) ?_ | refine cp (k6) ?_ | refine cp (k7) ?_ | refine cp (k8) ?_ | refine cp (L1) ?_ | refine cp (L2) ?_ | refine finF hrel ?_ ?_ ?_) <;> try simp only [go_sem, *])
end Go.Proofs.YteopcebaeojjkaaDoor
