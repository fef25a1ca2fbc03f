/-
 Walks: the law of RealizeMatches.
-/
import Derived.Test.YteopcebaeojjkaaGreatDoorIi
import Derived.Test.YteopcebaeojjkaaGreatDoorJb
set_option linter.unusedSimpArgs false
set_option linter.unusedVariables false
set_option maxRecDepth 20000
set_option maxHeartbeats 4000000
namespace Go.Proofs.YteopcebaeojjkaaGreatDoor
open Go GoAbs Go.Proofs
theorem c_RealizeMatches (l : List Int) : Pure Tryz.prog env 7 [.sl .any (ints l)] (.bool true) := by
 intro h
 have hF := c_Few l
 cases hf : decide ((l.length : Int) ≤ 500) with
 | false =>
  rw [hf] at hF
  clear hf
  refine en Tryz.func7 [.tmp 2] rfl rfl fun g0 w0 gen hrel hfr hfr' hres => ?_
  repeat' (first
   | exact hin _ | exact agf (by assumption)
   | (first | refine wp rfl ?_ | refine spt rfl ?_ | refine spf rfl ?_ | (refine spl (fun hc => ?_) fun hc => ?_) <;> (try rw [beq_iff_eq] at hc) <;> try simp only [hc] | (refine gs (fun hb => ?_) fun hb => ?_) <;> try simp only [Bool.not_true, Bool.not_false] at hb | refine cp (hF) ?_ | refine cp (c_awake24) ?_ | refine finF hrel ?_ ?_ ?_) <;> try simp only [go_sem, *])
 | true =>
 rw [hf] at hF
 have hl : l.length ≤ 1000 := by simp at hf; omega
 have hN := c_New l
 obtain ⟨f, a1, hm, fW, hT⟩ := c_Formula l hl 2 (by omega) [] 0 (by simp) (by simp)
 have hG := hm.G (by simp)
 have h1 := c_r23Type f hG fW (fmErr_sz hm (by omega) (by simp))
 clear hf
 simp only [List.map_nil] at hT
 have n4 : ((4 : Int) != 0) = true := rfl
 have n5 : ((5 : Int) != 0) = true := rfl
 have n0 : ((0 : Int) != 0) = false := rfl
 have k4 : ((4 : Int) == 4) = true := rfl
 have k0 : ((0 : Int) == 0) = true := rfl
 have k04 : ((0 : Int) == 4) = false := rfl
 have k40 : ((4 : Int) == 0) = false := rfl
 have k50 : ((5 : Int) == 0) = false := rfl
 have k54 : ((5 : Int) == 4) = false := rfl
 have k55 : ((5 : Int) == 5) = true := rfl
 cases q1 : (f.cty.2 != 0) with
 | true =>
  simp only [tyErrV] at h1
  clear hm hG
  generalize f.cty.1 = s at *
  generalize f.cty.2 = e at *
  refine en Tryz.func7 [.tmp 2] rfl rfl fun g0 w0 gen hrel hfr hfr' hres => ?_
  repeat' (first
   | exact hin _ | exact agf (by assumption)
   | (first | refine wp rfl ?_ | refine spt rfl ?_ | refine spf rfl ?_ | (refine spl (fun hc => ?_) fun hc => ?_) <;> (try rw [beq_iff_eq] at hc) <;> try simp only [hc] | (refine gs (fun hb => ?_) fun hb => ?_) <;> try simp only [Bool.not_true, Bool.not_false] at hb | refine cp (hF) ?_ | refine cp (c_awake24) ?_ | refine Call1_new ⟨gen, 1000, 0⟩ (hN) (by first | exact hfr' _ _ | simp only [go_sem, *]) ?_ | (refine ct (hT _) ?_ ?_; focus ((simp only [go_sem, *] <;> rfl); done)) | refine cp (h1) ?_ | refine finF hrel ?_ ?_ ?_) <;> try simp only [go_sem, *])
 | false =>
 have ok : f.cty.2 = 0 := by simpa using q1
 have g1 := cty_G hG ok
 obtain ⟨t, a2, mt, tW, hTn⟩ := c_Term l hl 2 [] f.cty.1 a1 (by simp) g1.1 (by have := g1.h40; omega) (by have := g1.h40; have e : Int.toNat 2 = 2 := rfl; simp; omega) (by have := g1.h40; omega)
 have e22 : Int.toNat 2 = 2 := rfl
 rw [e22] at mt
 simp only [List.map_nil] at hTn
 have hz2 := mk2 hm
 obtain ⟨w1, w2, w3⟩ := cty_ok hG ok (by omega)
 have p2 : 2 ^ 2 = 4 := rfl
 have zs := (ct_sz hm (by simp) w1).1
 have tR := mk_term (t := t) (by omega) (g := []) (by simp) (by simp) g1 (by rw [w2]; omega) mt
 have cN := c_NormalG (g := []) (by simp) t tR.2.2 tR.1.gd (by omega) tW
 simp only [tyErrV, ok] at h1
 cases q2 : ((norm t).2.2 != 0) with
 | true =>
  unfold normW at cN
  clear hm hG g1 mt hz2 w1 w2 w3 zs tR tW ok q1
  generalize (norm t).2.2 = e at *
  generalize (norm t).2.1 = m at *
  generalize (norm t).1 = n at *
  generalize f.cty.1 = s at *
  refine en Tryz.func7 [.tmp 2] rfl rfl fun g0 w0 gen hrel hfr hfr' hres => ?_
  repeat' (first
   | exact hin _ | exact agf (by assumption)
   | (first | refine wp rfl ?_ | refine spt rfl ?_ | refine spf rfl ?_ | (refine spl (fun hc => ?_) fun hc => ?_) <;> (try rw [beq_iff_eq] at hc) <;> try simp only [hc] | (refine gs (fun hb => ?_) fun hb => ?_) <;> try simp only [Bool.not_true, Bool.not_false] at hb | refine cp (hF) ?_ | refine cp (c_awake24) ?_ | refine Call1_new ⟨gen, 1000, 0⟩ (hN) (by first | exact hfr' _ _ | simp only [go_sem, *]) ?_ | (refine ct (hT _) ?_ ?_; focus ((simp only [go_sem, *] <;> rfl); done)) | refine cp (h1) ?_ | (refine ct (hTn _) ?_ ?_; focus ((simp only [go_sem, *] <;> rfl); done)) | refine cp (cN) ?_ | refine finF hrel ?_ ?_ ?_) <;> try simp only [go_sem, *])
 | false =>
 have qn : (norm t).2.2 = 0 := by simpa using q2
 obtain ⟨o1, o2, rel⟩ := law_rlMatches hm ok mt qn
 have nW := norm_W tW
 have cM := c_rlF f hG.C fW t tW
 have cM' := c_rlF f hG.C fW (norm t).1 nW
 have mW := rlF_W hG.C fW tW
 have mW' := rlF_W hG.C fW nW
 unfold normW at cN
 rw [qn] at cN
 clear hm hG g1 mt hz2 w1 w2 w3 zs tR tW nW ok q1 q2 qn
 generalize f.cty.1 = s at *
 generalize (norm t).2.1 = m at *
 generalize (norm t).1 = n at *
 generalize rlF f t = M at *
 generalize rlF f n = M' at *
 obtain ⟨F, e⟩ := M
 obtain ⟨F', e'⟩ := M'
 simp only [fmErrV] at cM cM' mW mW' o1 o2 rel
 rcases o1 with e4 | ⟨e0, gd⟩
 ·simp only at e4
  subst e4
  clear rel
  rcases o2 with e4 | ⟨e0, -⟩
  ·simp only at e4; subst e4
   refine en Tryz.func7 [.tmp 2] rfl rfl fun g0 w0 gen hrel hfr hfr' hres => ?_
   repeat' (first
    | exact hin _ | exact agf (by assumption)
    | (first | refine wp rfl ?_ | refine spt rfl ?_ | refine spf rfl ?_ | (refine spl (fun hc => ?_) fun hc => ?_) <;> (try rw [beq_iff_eq] at hc) <;> try simp only [hc] | (refine gs (fun hb => ?_) fun hb => ?_) <;> try simp only [Bool.not_true, Bool.not_false] at hb | refine cp (hF) ?_ | refine cp (c_awake24) ?_ | refine Call1_new ⟨gen, 1000, 0⟩ (hN) (by first | exact hfr' _ _ | simp only [go_sem, *]) ?_ | (refine ct (hT _) ?_ ?_; focus ((simp only [go_sem, *] <;> rfl); done)) | refine cp (h1) ?_ | (refine ct (hTn _) ?_ ?_; focus ((simp only [go_sem, *] <;> rfl); done)) | refine cp (cN) ?_ | refine cp (cM) ?_ | refine cp (cM') ?_ | refine finF hrel ?_ ?_ ?_) <;> try simp only [go_sem, *])
  ·simp only at e0; subst e0
   refine en Tryz.func7 [.tmp 2] rfl rfl fun g0 w0 gen hrel hfr hfr' hres => ?_
   repeat' (first
    | exact hin _ | exact agf (by assumption)
    | (first | refine wp rfl ?_ | refine spt rfl ?_ | refine spf rfl ?_ | (refine spl (fun hc => ?_) fun hc => ?_) <;> (try rw [beq_iff_eq] at hc) <;> try simp only [hc] | (refine gs (fun hb => ?_) fun hb => ?_) <;> try simp only [Bool.not_true, Bool.not_false] at hb | refine cp (hF) ?_ | refine cp (c_awake24) ?_ | refine Call1_new ⟨gen, 1000, 0⟩ (hN) (by first | exact hfr' _ _ | simp only [go_sem, *]) ?_ | (refine ct (hT _) ?_ ?_; focus ((simp only [go_sem, *] <;> rfl); done)) | refine cp (h1) ?_ | (refine ct (hTn _) ?_ ?_; focus ((simp only [go_sem, *] <;> rfl); done)) | refine cp (cN) ?_ | refine cp (cM) ?_ | refine cp (cM') ?_ | refine finF hrel ?_ ?_ ?_) <;> try simp only [go_sem, *])
 ·simp only at e0 gd
  subst e0
  rcases o2 with e4 | ⟨e0, gd'⟩
  ·simp only at e4; subst e4
   clear rel gd
   refine en Tryz.func7 [.tmp 2] rfl rfl fun g0 w0 gen hrel hfr hfr' hres => ?_
   repeat' (first
    | exact hin _ | exact agf (by assumption)
    | (first | refine wp rfl ?_ | refine spt rfl ?_ | refine spf rfl ?_ | (refine spl (fun hc => ?_) fun hc => ?_) <;> (try rw [beq_iff_eq] at hc) <;> try simp only [hc] | (refine gs (fun hb => ?_) fun hb => ?_) <;> try simp only [Bool.not_true, Bool.not_false] at hb | refine cp (hF) ?_ | refine cp (c_awake24) ?_ | refine Call1_new ⟨gen, 1000, 0⟩ (hN) (by first | exact hfr' _ _ | simp only [go_sem, *]) ?_ | (refine ct (hT _) ?_ ?_; focus ((simp only [go_sem, *] <;> rfl); done)) | refine cp (h1) ?_ | (refine ct (hTn _) ?_ ?_; focus ((simp only [go_sem, *] <;> rfl); done)) | refine cp (cN) ?_ | refine cp (cM) ?_ | refine cp (cM') ?_ | refine finF hrel ?_ ?_ ?_) <;> try simp only [go_sem, *])
  ·simp only at e0 gd'
   subst e0
   obtain ⟨e, el, hX⟩ := c_refMatch (rel rfl rfl) gd gd'.ty gd'.gd (by have := gd'.sz; omega) mW mW'
   clear rel gd gd' mW mW'
   rcases el with rfl | rfl | rfl
   ·
    refine en Tryz.func7 [.tmp 2] rfl rfl fun g0 w0 gen hrel hfr hfr' hres => ?_
    repeat' (first
     | exact hin _ | exact agf (by assumption)
     | (first | refine wp rfl ?_ | refine spt rfl ?_ | refine spf rfl ?_ | (refine spl (fun hc => ?_) fun hc => ?_) <;> (try rw [beq_iff_eq] at hc) <;> try simp only [hc] | (refine gs (fun hb => ?_) fun hb => ?_) <;> try simp only [Bool.not_true, Bool.not_false] at hb | refine cp (hF) ?_ | refine cp (c_awake24) ?_ | refine Call1_new ⟨gen, 1000, 0⟩ (hN) (by first | exact hfr' _ _ | simp only [go_sem, *]) ?_ | (refine ct (hT _) ?_ ?_; focus ((simp only [go_sem, *] <;> rfl); done)) | refine cp (h1) ?_ | (refine ct (hTn _) ?_ ?_; focus ((simp only [go_sem, *] <;> rfl); done)) | refine cp (cN) ?_ | refine cp (cM) ?_ | refine cp (cM') ?_ | refine cp (hX) ?_ | refine finF hrel ?_ ?_ ?_) <;> try simp only [go_sem, *])
   ·
    refine en Tryz.func7 [.tmp 2] rfl rfl fun g0 w0 gen hrel hfr hfr' hres => ?_
    repeat' (first
     | exact hin _ | exact agf (by assumption)
     | (first | refine wp rfl ?_ | refine spt rfl ?_ | refine spf rfl ?_ | (refine spl (fun hc => ?_) fun hc => ?_) <;> (try rw [beq_iff_eq] at hc) <;> try simp only [hc] | (refine gs (fun hb => ?_) fun hb => ?_) <;> try simp only [Bool.not_true, Bool.not_false] at hb | refine cp (hF) ?_ | refine cp (c_awake24) ?_ | refine Call1_new ⟨gen, 1000, 0⟩ (hN) (by first | exact hfr' _ _ | simp only [go_sem, *]) ?_ | (refine ct (hT _) ?_ ?_; focus ((simp only [go_sem, *] <;> rfl); done)) | refine cp (h1) ?_ | (refine ct (hTn _) ?_ ?_; focus ((simp only [go_sem, *] <;> rfl); done)) | refine cp (cN) ?_ | refine cp (cM) ?_ | refine cp (cM') ?_ | refine cp (hX) ?_ | refine finF hrel ?_ ?_ ?_) <;> try simp only [go_sem, *])
   ·
    refine en Tryz.func7 [.tmp 2] rfl rfl fun g0 w0 gen hrel hfr hfr' hres => ?_
    repeat' (first
     | exact hin _ | exact agf (by assumption)
     | (first | refine wp rfl ?_ | refine spt rfl ?_ | refine spf rfl ?_ | (refine spl (fun hc => ?_) fun hc => ?_) <;> (try rw [beq_iff_eq] at hc) <;> try simp only [hc] | (refine gs (fun hb => ?_) fun hb => ?_) <;> try simp only [Bool.not_true, Bool.not_false] at hb | refine cp (hF) ?_ | refine cp (c_awake24) ?_ | refine Call1_new ⟨gen, 1000, 0⟩ (hN) (by first | exact hfr' _ _ | simp only [go_sem, *]) ?_ | (refine ct (hT _) ?_ ?_; focus ((simp only [go_sem, *] <;> rfl); done)) | refine cp (h1) ?_ | (refine ct (hTn _) ?_ ?_; focus ((simp only [go_sem, *] <;> rfl); done)) | refine cp (cN) ?_ | refine cp (cM) ?_ | refine cp (cM') ?_ | refine cp (hX) ?_ | refine finF hrel ?_ ?_ ?_) <;> try simp only [go_sem, *])
end Go.Proofs.YteopcebaeojjkaaGreatDoor
