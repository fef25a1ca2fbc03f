/-
 Walks: the law of putting a numeral in before and after.
-/
import Derived.Test.YtpnjamplciaopaaGreatDoorLi
import Derived.Test.YtpnjamplciaopaaGreatDoorIk
import Derived.Test.YtpnjamplciaopaaGreatDoorGl
import Derived.Test.YtpnjamplciaopaaGreatDoorGm
import Derived.Test.YtpnjamplciaopaaGreatDoorAbsDc
set_option linter.unusedSimpArgs false
set_option linter.unusedVariables false
set_option maxRecDepth 20000
set_option maxHeartbeats 4000000
namespace Go.Proofs.YtpnjamplciaopaaGreatDoor
open Go GoAbs Go.Proofs
theorem c_TruthWork (l : List Int) : Pure Tryz.prog env 6 [.sl .any (ints l)] (.bool true) := by
 have hF := c_Few l
 cases hf : decide ((l.length : Int) ≤ 500) with
 | false =>
  rw [hf] at hF
  clear hf
  intro h
  refine en Tryz.func6 [.tmp 2] rfl rfl fun g0 w0 gen hrel hfr hfr' hres => ?_
  repeat' (first
   | (refine ⟨?_, ?_⟩; focus ((repeat' (first | refine And.intro ?_ ?_ | refine Or.inr ?_)); all_goals kernel_rfl))
   | exact hin _ | exact agf (by assumption)
   | (first | refine wp rfl ?_ | refine spt rfl ?_ | refine spf rfl ?_ | (refine spl (fun hc => ?_) fun hc => ?_) <;> (try rw [beq_iff_eq] at hc) <;> try simp only [hc] | (refine gs (fun hb => ?_) fun hb => ?_) <;> try simp only [Bool.not_true, Bool.not_false] at hb | refine cp (hF) ?_ | refine cp (c_awake30) ?_ | refine finF hrel ?_ ?_ ?_) <;> try simp only [go_sem, *])
 | true =>
 rw [hf] at hF
 have hl : l.length ≤ 1000 := by simp at hf; omega
 clear hf
 have hN := c_New l
 have hNt := c_playNat
 have hX := fun d => c_Next l hl d 0 2
 have hr := nextD_range (l := l) (a := 0) (n := 2) (by omega) (by omega)
 generalize nextD l 0 2 = q at hr hX
 obtain ⟨c, a1⟩ := q
 simp only at hr hX
 have hg : ∀ y ∈ [tNat], MkTy 1 y := by intro y hy; simp at hy; subst hy; exact .nat
 obtain ⟨f1, a2, m1, w1, T1⟩ := c_Decidable l hl 0 (by omega) [tNat] a1 hg (by simp)
 obtain ⟨f2, a3, m2, w2, T2⟩ := c_Decidable l hl 0 (by omega) [tNat] a2 hg (by simp)
 simp only [List.map_cons, List.map_nil] at T1 T2
 have hY := fun d => c_Next l hl d a3 4
 have hs := nextD_range (l := l) (a := a3) (n := 4) (by omega) (by omega)
 generalize nextD l a3 4 = q at hs hY
 obtain ⟨n', a4⟩ := q
 simp only at hs hY
 obtain ⟨n, rfl⟩ : ∃ n : Nat, n' = (n : Int) := ⟨n'.toNat, by omega⟩
 have hn : n ≤ 3 := by omega
 clear hs
 cases m1 with | @eq _ _ x1 y1 mx1 my1 => ?_
 cases m2 with | @eq _ _ x2 y2 mx2 my2 => ?_
 have hu := c_Num n (by omega)
 obtain ⟨k, hk, hk'⟩ : ∃ k : Int, (k = 2 ∨ k = 3) ∧ (c = 0 ∧ k = 2 ∨ c = 1 ∧ k = 3) := by
  obtain rfl | rfl : c = 0 ∨ c = 1 := by omega
  ·exact ⟨2, .inl rfl, .inl ⟨rfl, rfl⟩⟩
  ·exact ⟨3, .inr rfl, .inr ⟨rfl, rfl⟩⟩
 clear hr
 have fW : FmW (fmTwo k (fmEq x1 y1) (fmEq x2 y2)) := fmTwo_W w1 w2
 obtain ⟨hG, hz, hm, hll, -⟩ := two_C hk mx1 my1 mx2 my2
 have law := law_trWork hk mx1 my1 mx2 my2 (n := n) (by omega)
 have h1 := c_trTerm (u := true) _ fW (fun _ => ⟨hG, hz⟩) (far_least _)
 rw [two_trF hG hz hm hll] at h1
 have e1 := tr_err hG hm
 have tW := tr_W hG fW hm
 have e : (fmTwo k (fmEq x1 y1) (fmEq x2 y2)).cells = [.int .i64 k, .int .i64 0, .sl .any [], .sl .any [], .sl .any [(fmEq x1 y1).cells, (fmEq x2 y2).cells]] := by rw [fmTwo, Fm.mk_cells]; rfl
 have p2 := c_fmPut _ fW 0 (numT n) (numT_W n)
 have p3 := c_tmPut _ tW 0 (numT n) (numT_W n)
 have PW := fmPut_W (a := 0) fW (numT_W n)
 have QW := tmPut_W (a := 0) tW (numT_W n)
 have h4 := fun hc => c_trTerm (u := true) _ PW (fun _ => hc) (far_least _)
 have h5 := c_refTmSame _ QW _ QW
 rw [Tm.same_refl] at h5
 clear hG hz hm hll mx1 my1 mx2 my2 w1 w2 PW QW tW hn hl fW hg hk
 rw [e] at h1 p2
 generalize fmTwo k (fmEq x1 y1) (fmEq x2 y2) = f at *
 generalize fmEq x1 y1 = A1 at *
 generalize fmEq x2 y2 = A2 at *
 clear e
 generalize f.tr = TF at *
 obtain ⟨tt, te⟩ := TF
 simp only at e1 law p3 h5
 generalize numT n = N at *
 generalize fmPut f 0 N = PF at *
 generalize tmPut tt 0 N = PT at *
 obtain ⟨F1, F2⟩ := PF
 obtain ⟨P1, P2⟩ := PT
 simp only at h4 law h5
 generalize trF F1 = Y at *
 obtain ⟨Y1, Y2⟩ := Y
 simp only [fmErrV, tmErrV] at h1 p2 p3 h4 law h5
 have c4 := c_limits30 4
 rw [show ((4 : Int) == 4 || (4 : Int) == 5 || (4 : Int) == 3) = true from rfl] at c4
 have n0 : ((0 : Int) != 0) = false := rfl
 have n4 : ((4 : Int) != 0) = true := rfl
 have k4 : ((4 : Int) == 4) = true := rfl
 have k0 : ((0 : Int) == 0) = true := rfl
 have k04 : ((0 : Int) == 4) = false := rfl
 rcases e1 with rfl | rfl
 ·cases q2 : (F2 != 0) with
  | true =>
   clear law h4 h5
   intro h
   rcases hk' with ⟨rfl, rfl⟩ | ⟨rfl, rfl⟩
   ·
    refine en Tryz.func6 [.tmp 2] rfl rfl fun g0 w0 gen hrel hfr hfr' hres => ?_
    repeat' (first
     | (refine ⟨?_, ?_⟩; focus ((repeat' (first | refine And.intro ?_ ?_ | refine Or.inr ?_)); all_goals kernel_rfl))
     | exact hin _ | exact agf (by assumption)
     | (first | refine wp rfl ?_ | refine spt rfl ?_ | refine spf rfl ?_ | (refine spl (fun hc => ?_) fun hc => ?_) <;> (try rw [beq_iff_eq] at hc) <;> try simp only [hc] | (refine gs (fun hb => ?_) fun hb => ?_) <;> try simp only [Bool.not_true, Bool.not_false] at hb | refine cp (hF) ?_ | refine cp (c_awake30) ?_ | refine cp (hNt) ?_ | refine Call1_new ⟨gen, 1000, 0⟩ (hN) (by first | exact hfr' _ _ | simp only [go_sem, *]) ?_ | (refine ct (hX _) ?_ ?_; focus ((simp only [go_sem, *] <;> rfl); done)) | (refine ct (T1 _) ?_ ?_; focus ((simp only [go_sem, *] <;> rfl); done)) | (refine ct (T2 _) ?_ ?_; focus ((simp only [go_sem, *] <;> rfl); done)) | (refine ct (hY _) ?_ ?_; focus ((simp only [go_sem, *] <;> rfl); done)) | refine cp (hu) ?_ | refine cp (h1) ?_ | refine cp (p2) ?_ | refine cp (p3) ?_ | refine finF hrel ?_ ?_ ?_) <;> try simp only [go_sem, *])
   ·
    refine en Tryz.func6 [.tmp 2] rfl rfl fun g0 w0 gen hrel hfr hfr' hres => ?_
    repeat' (first
     | (refine ⟨?_, ?_⟩; focus ((repeat' (first | refine And.intro ?_ ?_ | refine Or.inr ?_)); all_goals kernel_rfl))
     | exact hin _ | exact agf (by assumption)
     | (first | refine wp rfl ?_ | refine spt rfl ?_ | refine spf rfl ?_ | (refine spl (fun hc => ?_) fun hc => ?_) <;> (try rw [beq_iff_eq] at hc) <;> try simp only [hc] | (refine gs (fun hb => ?_) fun hb => ?_) <;> try simp only [Bool.not_true, Bool.not_false] at hb | refine cp (hF) ?_ | refine cp (c_awake30) ?_ | refine cp (hNt) ?_ | refine Call1_new ⟨gen, 1000, 0⟩ (hN) (by first | exact hfr' _ _ | simp only [go_sem, *]) ?_ | (refine ct (hX _) ?_ ?_; focus ((simp only [go_sem, *] <;> rfl); done)) | (refine ct (T1 _) ?_ ?_; focus ((simp only [go_sem, *] <;> rfl); done)) | (refine ct (T2 _) ?_ ?_; focus ((simp only [go_sem, *] <;> rfl); done)) | (refine ct (hY _) ?_ ?_; focus ((simp only [go_sem, *] <;> rfl); done)) | refine cp (hu) ?_ | refine cp (h1) ?_ | refine cp (p2) ?_ | refine cp (p3) ?_ | refine finF hrel ?_ ?_ ?_) <;> try simp only [go_sem, *])
  | false =>
  cases q3 : (P2 != 0) with
  | true =>
   clear law h4 h5
   intro h
   rcases hk' with ⟨rfl, rfl⟩ | ⟨rfl, rfl⟩
   ·
    refine en Tryz.func6 [.tmp 2] rfl rfl fun g0 w0 gen hrel hfr hfr' hres => ?_
    repeat' (first
     | (refine ⟨?_, ?_⟩; focus ((repeat' (first | refine And.intro ?_ ?_ | refine Or.inr ?_)); all_goals kernel_rfl))
     | exact hin _ | exact agf (by assumption)
     | (first | refine wp rfl ?_ | refine spt rfl ?_ | refine spf rfl ?_ | (refine spl (fun hc => ?_) fun hc => ?_) <;> (try rw [beq_iff_eq] at hc) <;> try simp only [hc] | (refine gs (fun hb => ?_) fun hb => ?_) <;> try simp only [Bool.not_true, Bool.not_false] at hb | refine cp (hF) ?_ | refine cp (c_awake30) ?_ | refine cp (hNt) ?_ | refine Call1_new ⟨gen, 1000, 0⟩ (hN) (by first | exact hfr' _ _ | simp only [go_sem, *]) ?_ | (refine ct (hX _) ?_ ?_; focus ((simp only [go_sem, *] <;> rfl); done)) | (refine ct (T1 _) ?_ ?_; focus ((simp only [go_sem, *] <;> rfl); done)) | (refine ct (T2 _) ?_ ?_; focus ((simp only [go_sem, *] <;> rfl); done)) | (refine ct (hY _) ?_ ?_; focus ((simp only [go_sem, *] <;> rfl); done)) | refine cp (hu) ?_ | refine cp (h1) ?_ | refine cp (p2) ?_ | refine cp (p3) ?_ | refine finF hrel ?_ ?_ ?_) <;> try simp only [go_sem, *])
   ·
    refine en Tryz.func6 [.tmp 2] rfl rfl fun g0 w0 gen hrel hfr hfr' hres => ?_
    repeat' (first
     | (refine ⟨?_, ?_⟩; focus ((repeat' (first | refine And.intro ?_ ?_ | refine Or.inr ?_)); all_goals kernel_rfl))
     | exact hin _ | exact agf (by assumption)
     | (first | refine wp rfl ?_ | refine spt rfl ?_ | refine spf rfl ?_ | (refine spl (fun hc => ?_) fun hc => ?_) <;> (try rw [beq_iff_eq] at hc) <;> try simp only [hc] | (refine gs (fun hb => ?_) fun hb => ?_) <;> try simp only [Bool.not_true, Bool.not_false] at hb | refine cp (hF) ?_ | refine cp (c_awake30) ?_ | refine cp (hNt) ?_ | refine Call1_new ⟨gen, 1000, 0⟩ (hN) (by first | exact hfr' _ _ | simp only [go_sem, *]) ?_ | (refine ct (hX _) ?_ ?_; focus ((simp only [go_sem, *] <;> rfl); done)) | (refine ct (T1 _) ?_ ?_; focus ((simp only [go_sem, *] <;> rfl); done)) | (refine ct (T2 _) ?_ ?_; focus ((simp only [go_sem, *] <;> rfl); done)) | (refine ct (hY _) ?_ ?_; focus ((simp only [go_sem, *] <;> rfl); done)) | refine cp (hu) ?_ | refine cp (h1) ?_ | refine cp (p2) ?_ | refine cp (p3) ?_ | refine finF hrel ?_ ?_ ?_) <;> try simp only [go_sem, *])
  | false =>
  obtain ⟨z1, z2, z3⟩ := law rfl (by simpa using q3) (by simpa using q2)
  have h4 := h4 ⟨z1, z2⟩
  clear law z1 z2
  rcases z3 with rfl | ⟨rfl, rfl⟩
  ·clear h5
   intro h
   rcases hk' with ⟨rfl, rfl⟩ | ⟨rfl, rfl⟩
   ·
    refine en Tryz.func6 [.tmp 2] rfl rfl fun g0 w0 gen hrel hfr hfr' hres => ?_
    repeat' (first
     | (refine ⟨?_, ?_⟩; focus ((repeat' (first | refine And.intro ?_ ?_ | refine Or.inr ?_)); all_goals kernel_rfl))
     | exact hin _ | exact agf (by assumption)
     | (first | refine wp rfl ?_ | refine spt rfl ?_ | refine spf rfl ?_ | (refine spl (fun hc => ?_) fun hc => ?_) <;> (try rw [beq_iff_eq] at hc) <;> try simp only [hc] | (refine gs (fun hb => ?_) fun hb => ?_) <;> try simp only [Bool.not_true, Bool.not_false] at hb | refine cp (hF) ?_ | refine cp (c_awake30) ?_ | refine cp (hNt) ?_ | refine Call1_new ⟨gen, 1000, 0⟩ (hN) (by first | exact hfr' _ _ | simp only [go_sem, *]) ?_ | (refine ct (hX _) ?_ ?_; focus ((simp only [go_sem, *] <;> rfl); done)) | (refine ct (T1 _) ?_ ?_; focus ((simp only [go_sem, *] <;> rfl); done)) | (refine ct (T2 _) ?_ ?_; focus ((simp only [go_sem, *] <;> rfl); done)) | (refine ct (hY _) ?_ ?_; focus ((simp only [go_sem, *] <;> rfl); done)) | refine cp (hu) ?_ | refine cp (h1) ?_ | refine cp (p2) ?_ | refine cp (p3) ?_ | refine cp (h4) ?_ | refine finF hrel ?_ ?_ ?_) <;> try simp only [go_sem, *])
   ·
    refine en Tryz.func6 [.tmp 2] rfl rfl fun g0 w0 gen hrel hfr hfr' hres => ?_
    repeat' (first
     | (refine ⟨?_, ?_⟩; focus ((repeat' (first | refine And.intro ?_ ?_ | refine Or.inr ?_)); all_goals kernel_rfl))
     | exact hin _ | exact agf (by assumption)
     | (first | refine wp rfl ?_ | refine spt rfl ?_ | refine spf rfl ?_ | (refine spl (fun hc => ?_) fun hc => ?_) <;> (try rw [beq_iff_eq] at hc) <;> try simp only [hc] | (refine gs (fun hb => ?_) fun hb => ?_) <;> try simp only [Bool.not_true, Bool.not_false] at hb | refine cp (hF) ?_ | refine cp (c_awake30) ?_ | refine cp (hNt) ?_ | refine Call1_new ⟨gen, 1000, 0⟩ (hN) (by first | exact hfr' _ _ | simp only [go_sem, *]) ?_ | (refine ct (hX _) ?_ ?_; focus ((simp only [go_sem, *] <;> rfl); done)) | (refine ct (T1 _) ?_ ?_; focus ((simp only [go_sem, *] <;> rfl); done)) | (refine ct (T2 _) ?_ ?_; focus ((simp only [go_sem, *] <;> rfl); done)) | (refine ct (hY _) ?_ ?_; focus ((simp only [go_sem, *] <;> rfl); done)) | refine cp (hu) ?_ | refine cp (h1) ?_ | refine cp (p2) ?_ | refine cp (p3) ?_ | refine cp (h4) ?_ | refine finF hrel ?_ ?_ ?_) <;> try simp only [go_sem, *])
  ·intro h
   rcases hk' with ⟨rfl, rfl⟩ | ⟨rfl, rfl⟩
   ·
    refine en Tryz.func6 [.tmp 2] rfl rfl fun g0 w0 gen hrel hfr hfr' hres => ?_
    repeat' (first
     | (refine ⟨?_, ?_⟩; focus ((repeat' (first | refine And.intro ?_ ?_ | refine Or.inr ?_)); all_goals kernel_rfl))
     | exact hin _ | exact agf (by assumption)
     | (first | refine wp rfl ?_ | refine spt rfl ?_ | refine spf rfl ?_ | (refine spl (fun hc => ?_) fun hc => ?_) <;> (try rw [beq_iff_eq] at hc) <;> try simp only [hc] | (refine gs (fun hb => ?_) fun hb => ?_) <;> try simp only [Bool.not_true, Bool.not_false] at hb | refine cp (hF) ?_ | refine cp (c_awake30) ?_ | refine cp (hNt) ?_ | refine Call1_new ⟨gen, 1000, 0⟩ (hN) (by first | exact hfr' _ _ | simp only [go_sem, *]) ?_ | (refine ct (hX _) ?_ ?_; focus ((simp only [go_sem, *] <;> rfl); done)) | (refine ct (T1 _) ?_ ?_; focus ((simp only [go_sem, *] <;> rfl); done)) | (refine ct (T2 _) ?_ ?_; focus ((simp only [go_sem, *] <;> rfl); done)) | (refine ct (hY _) ?_ ?_; focus ((simp only [go_sem, *] <;> rfl); done)) | refine cp (hu) ?_ | refine cp (h1) ?_ | refine cp (p2) ?_ | refine cp (p3) ?_ | refine cp (h4) ?_ | refine cp (h5) ?_ | refine finF hrel ?_ ?_ ?_) <;> try simp only [go_sem, *])
   ·
    refine en Tryz.func6 [.tmp 2] rfl rfl fun g0 w0 gen hrel hfr hfr' hres => ?_
    repeat' (first
     | (refine ⟨?_, ?_⟩; focus ((repeat' (first | refine And.intro ?_ ?_ | refine Or.inr ?_)); all_goals kernel_rfl))
     | exact hin _ | exact agf (by assumption)
     | (first | refine wp rfl ?_ | refine spt rfl ?_ | refine spf rfl ?_ | (refine spl (fun hc => ?_) fun hc => ?_) <;> (try rw [beq_iff_eq] at hc) <;> try simp only [hc] | (refine gs (fun hb => ?_) fun hb => ?_) <;> try simp only [Bool.not_true, Bool.not_false] at hb | refine cp (hF) ?_ | refine cp (c_awake30) ?_ | refine cp (hNt) ?_ | refine Call1_new ⟨gen, 1000, 0⟩ (hN) (by first | exact hfr' _ _ | simp only [go_sem, *]) ?_ | (refine ct (hX _) ?_ ?_; focus ((simp only [go_sem, *] <;> rfl); done)) | (refine ct (T1 _) ?_ ?_; focus ((simp only [go_sem, *] <;> rfl); done)) | (refine ct (T2 _) ?_ ?_; focus ((simp only [go_sem, *] <;> rfl); done)) | (refine ct (hY _) ?_ ?_; focus ((simp only [go_sem, *] <;> rfl); done)) | refine cp (hu) ?_ | refine cp (h1) ?_ | refine cp (p2) ?_ | refine cp (p3) ?_ | refine cp (h4) ?_ | refine cp (h5) ?_ | refine finF hrel ?_ ?_ ?_) <;> try simp only [go_sem, *])
 ·clear law h4 h5 p2 p3
  intro h
  rcases hk' with ⟨rfl, rfl⟩ | ⟨rfl, rfl⟩
  ·
   refine en Tryz.func6 [.tmp 2] rfl rfl fun g0 w0 gen hrel hfr hfr' hres => ?_
   repeat' (first
    | (refine ⟨?_, ?_⟩; focus ((repeat' (first | refine And.intro ?_ ?_ | refine Or.inr ?_)); all_goals kernel_rfl))
    | exact hin _ | exact agf (by assumption)
    | (first | refine wp rfl ?_ | refine spt rfl ?_ | refine spf rfl ?_ | (refine spl (fun hc => ?_) fun hc => ?_) <;> (try rw [beq_iff_eq] at hc) <;> try simp only [hc] | (refine gs (fun hb => ?_) fun hb => ?_) <;> try simp only [Bool.not_true, Bool.not_false] at hb | refine cp (hF) ?_ | refine cp (c_awake30) ?_ | refine cp (hNt) ?_ | refine Call1_new ⟨gen, 1000, 0⟩ (hN) (by first | exact hfr' _ _ | simp only [go_sem, *]) ?_ | (refine ct (hX _) ?_ ?_; focus ((simp only [go_sem, *] <;> rfl); done)) | (refine ct (T1 _) ?_ ?_; focus ((simp only [go_sem, *] <;> rfl); done)) | (refine ct (T2 _) ?_ ?_; focus ((simp only [go_sem, *] <;> rfl); done)) | (refine ct (hY _) ?_ ?_; focus ((simp only [go_sem, *] <;> rfl); done)) | refine cp (hu) ?_ | refine cp (h1) ?_ | refine cp (c4) ?_ | refine finF hrel ?_ ?_ ?_) <;> try simp only [go_sem, *])
  ·
   refine en Tryz.func6 [.tmp 2] rfl rfl fun g0 w0 gen hrel hfr hfr' hres => ?_
   repeat' (first
    | (refine ⟨?_, ?_⟩; focus ((repeat' (first | refine And.intro ?_ ?_ | refine Or.inr ?_)); all_goals kernel_rfl))
    | exact hin _ | exact agf (by assumption)
    | (first | refine wp rfl ?_ | refine spt rfl ?_ | refine spf rfl ?_ | (refine spl (fun hc => ?_) fun hc => ?_) <;> (try rw [beq_iff_eq] at hc) <;> try simp only [hc] | (refine gs (fun hb => ?_) fun hb => ?_) <;> try simp only [Bool.not_true, Bool.not_false] at hb | refine cp (hF) ?_ | refine cp (c_awake30) ?_ | refine cp (hNt) ?_ | refine Call1_new ⟨gen, 1000, 0⟩ (hN) (by first | exact hfr' _ _ | simp only [go_sem, *]) ?_ | (refine ct (hX _) ?_ ?_; focus ((simp only [go_sem, *] <;> rfl); done)) | (refine ct (T1 _) ?_ ?_; focus ((simp only [go_sem, *] <;> rfl); done)) | (refine ct (T2 _) ?_ ?_; focus ((simp only [go_sem, *] <;> rfl); done)) | (refine ct (hY _) ?_ ?_; focus ((simp only [go_sem, *] <;> rfl); done)) | refine cp (hu) ?_ | refine cp (h1) ?_ | refine cp (c4) ?_ | refine finF hrel ?_ ?_ ?_) <;> try simp only [go_sem, *])
end Go.Proofs.YtpnjamplciaopaaGreatDoor
