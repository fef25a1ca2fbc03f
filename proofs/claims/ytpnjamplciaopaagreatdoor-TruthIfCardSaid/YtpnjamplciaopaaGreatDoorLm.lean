/-
 Walks: the law of a term that is one of two.
-/
import Derived.Test.YtpnjamplciaopaaGreatDoorLi
import Derived.Test.YtpnjamplciaopaaGreatDoorJb
import Derived.Test.YtpnjamplciaopaaGreatDoorKd
import Derived.Test.YtpnjamplciaopaaGreatDoorAbsDc
set_option linter.unusedSimpArgs false
set_option linter.unusedVariables false
set_option maxRecDepth 20000
set_option maxHeartbeats 4000000
namespace Go.Proofs.YtpnjamplciaopaaGreatDoor
open Go GoAbs Go.Proofs
theorem c_TruthIf (l : List Int) : Pure Tryz.prog env 5 [.sl .any (ints l)] (.bool true) := by
 have hF := c_Few l
 cases hf : decide ((l.length : Int) ≤ 500) with
 | false =>
  rw [hf] at hF
  clear hf
  intro h
  refine en Tryz.func5 [.tmp 2] rfl rfl fun g0 w0 gen hrel hfr hfr' hres => ?_
  repeat' (first
   | (refine ⟨?_, ?_⟩; focus ((repeat' (first | refine And.intro ?_ ?_ | refine Or.inr ?_)); all_goals kernel_rfl))
   | exact hin _ | exact agf (by assumption)
   | (first | refine wp rfl ?_ | refine spt rfl ?_ | refine spf rfl ?_ | (refine spl (fun hc => ?_) fun hc => ?_) <;> (try rw [beq_iff_eq] at hc) <;> try simp only [hc] | (refine gs (fun hb => ?_) fun hb => ?_) <;> try simp only [Bool.not_true, Bool.not_false] at hb | refine cp (hF) ?_ | refine cp (c_awake30) ?_ | refine finF hrel ?_ ?_ ?_) <;> try simp only [go_sem, *])
 | true =>
 rw [hf] at hF
 have hl : l.length ≤ 1000 := by simp at hf; omega
 clear hf
 have hN := c_New l
 have hX := fun d => c_Next l hl d 0 3
 have hr := nextD_range (l := l) (a := 0) (n := 3) (by omega) (by omega)
 generalize nextD l 0 3 = q at hr hX
 obtain ⟨c, a1⟩ := q
 simp only at hr hX
 obtain ⟨n, rfl⟩ : ∃ n : Nat, c = (n : Int) := ⟨c.toNat, by omega⟩
 have hn : n ≤ 2 := by omega
 clear hr
 have ms := mkType_Mk (l := l) 1 a1
 have hTs := fun d => c_Type l hl d 1 (by omega) a1
 generalize mkType l 1 a1 = q at ms hTs
 obtain ⟨t, a2⟩ := q
 simp only at ms hTs
 have hH : tyH t ≤ 40 := by have := ms.H; omega
 obtain ⟨a, a3, ma, wa, Ta⟩ := c_Term l hl 2 [] t a2 (by simp) ms.F hH (by simp; omega) (by omega)
 obtain ⟨b, a4, mb, wb, Tb⟩ := c_Term l hl 2 [] t a3 (by simp) ms.F hH (by simp; omega) (by omega)
 simp only [List.map_nil] at Ta Tb
 obtain ⟨L1, L2, L3, L4⟩ := law_trIf (n := n) (by omega) ms ma mb
 have gt : TyG t := ms.G (by omega)
 have Ca := mk_TmC2 ms ma
 have Cb := mk_TmC2 ms mb
 have hu := c_Num n (by omega)
 have h1 := c_trIf t (numT n) a b ms.F.W (numT_W n) wa wb (fun _ => gt) (fun _ => ⟨numT_G n, by rw [tmSz_num]; omega⟩) (fun _ => ⟨Ca.gd, Ca.sz⟩) (fun _ => ⟨Cb.gd, Cb.sz⟩)
 rw [L1] at h1
 have wx := chooseT_W ms.F.W (numT_W n) wa wb
 have h2 := c_TypeOf0 _ t L2.ty L2.gd L2.sz wx
 have h3 := c_refSame t ms.F.W t ms.F.W
 rw [Ty.same_refl] at h3
 have ww : TmW (if n = 0 then b else a) := by split <;> assumption
 have h4 := c_MatchG (g := []) (by simp) _ _ L2.ty L3.ty L2.gd L3.gd L2.sz L3.sz wx ww
 have c4 := c_limits30 4
 have c5 := c_limits30 5
 rw [show ((4 : Int) == 4 || (4 : Int) == 5 || (4 : Int) == 3) = true from rfl] at c4
 rw [show ((5 : Int) == 4 || (5 : Int) == 5 || (5 : Int) == 3) = true from rfl] at c5
 have n0 : ((0 : Int) != 0) = false := rfl
 have e0 : ((0 : Int) == 0) = true := rfl
 have e4 : ((4 : Int) == 0) = false := rfl
 have e5 : ((5 : Int) == 0) = false := rfl
 unfold tmErrV at h1
 simp only at h1
 generalize hm : matchN 11 (chooseT t (numT n) a b) (if n = 0 then b else a) = m at *
 generalize chooseT t (numT n) a b = T at *
 generalize numT n = N at *
 clear L1 L2 L3 gt Ca Cb wx ww ma mb wa wb ms hH hm hl hn
 by_cases z : n = 0
 ·have z1 : ((n : Int) == 0) = true := by simp [z]
  rw [if_pos z] at h4
  clear z
  rcases L4 with rfl | rfl | rfl
  all_goals
   intro h
   refine en Tryz.func5 [.tmp 2] rfl rfl fun g0 w0 gen hrel hfr hfr' hres => ?_
   repeat' (first
    | (refine ⟨?_, ?_⟩; focus ((repeat' (first | refine And.intro ?_ ?_ | refine Or.inr ?_)); all_goals kernel_rfl))
    | exact hin _ | exact agf (by assumption)
    | (first | refine wp rfl ?_ | refine spt rfl ?_ | refine spf rfl ?_ | (refine spl (fun hc => ?_) fun hc => ?_) <;> (try rw [beq_iff_eq] at hc) <;> try simp only [hc] | (refine gs (fun hb => ?_) fun hb => ?_) <;> try simp only [Bool.not_true, Bool.not_false] at hb | refine cp (hF) ?_ | refine cp (c_awake30) ?_ | refine Call1_new ⟨gen, 1000, 0⟩ (hN) (by first | exact hfr' _ _ | simp only [go_sem, *]) ?_ | (refine ct (hX _) ?_ ?_; focus ((simp only [go_sem, *] <;> rfl); done)) | (refine ct (hTs _) ?_ ?_; focus ((simp only [go_sem, *] <;> rfl); done)) | (refine ct (Ta _) ?_ ?_; focus ((simp only [go_sem, *] <;> rfl); done)) | (refine ct (Tb _) ?_ ?_; focus ((simp only [go_sem, *] <;> rfl); done)) | refine cp (hu) ?_ | refine cp (h1) ?_ | refine cp (h2) ?_ | refine cp (h3) ?_ | refine cp (h4) ?_ | refine cp (c4) ?_ | refine cp (c5) ?_ | refine finF hrel ?_ ?_ ?_) <;> try simp only [go_sem, *])
 ·have z1 : ((n : Int) == 0) = false := by simp; omega
  rw [if_neg z] at h4
  clear z
  rcases L4 with rfl | rfl | rfl
  all_goals
   intro h
   refine en Tryz.func5 [.tmp 2] rfl rfl fun g0 w0 gen hrel hfr hfr' hres => ?_
   repeat' (first
    | (refine ⟨?_, ?_⟩; focus ((repeat' (first | refine And.intro ?_ ?_ | refine Or.inr ?_)); all_goals kernel_rfl))
    | exact hin _ | exact agf (by assumption)
    | (first | refine wp rfl ?_ | refine spt rfl ?_ | refine spf rfl ?_ | (refine spl (fun hc => ?_) fun hc => ?_) <;> (try rw [beq_iff_eq] at hc) <;> try simp only [hc] | (refine gs (fun hb => ?_) fun hb => ?_) <;> try simp only [Bool.not_true, Bool.not_false] at hb | refine cp (hF) ?_ | refine cp (c_awake30) ?_ | refine Call1_new ⟨gen, 1000, 0⟩ (hN) (by first | exact hfr' _ _ | simp only [go_sem, *]) ?_ | (refine ct (hX _) ?_ ?_; focus ((simp only [go_sem, *] <;> rfl); done)) | (refine ct (hTs _) ?_ ?_; focus ((simp only [go_sem, *] <;> rfl); done)) | (refine ct (Ta _) ?_ ?_; focus ((simp only [go_sem, *] <;> rfl); done)) | (refine ct (Tb _) ?_ ?_; focus ((simp only [go_sem, *] <;> rfl); done)) | refine cp (hu) ?_ | refine cp (h1) ?_ | refine cp (h2) ?_ | refine cp (h3) ?_ | refine cp (h4) ?_ | refine cp (c4) ?_ | refine cp (c5) ?_ | refine finF hrel ?_ ?_ ?_) <;> try simp only [go_sem, *])
end Go.Proofs.YtpnjamplciaopaaGreatDoor
