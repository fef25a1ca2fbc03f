/-
 Walks: putting into terms (references).
-/
import Derived.Test.YtpnjamplciaopaaGreatDoorVf
import Derived.Test.YtpnjamplciaopaaGreatDoorHd
import Derived.Test.YtpnjamplciaopaaGreatDoorAbsDb
set_option linter.unusedSimpArgs false
set_option linter.unusedVariables false
set_option maxRecDepth 20000
set_option maxHeartbeats 4000000
namespace Go.Proofs.YtpnjamplciaopaaGreatDoor
open Go GoAbs Go.Proofs
theorem c_tmPut (t : Tm) (ht : TmW t) (a : Int) (s : Tm) (hs : TmW s) : Pure Tryz.prog env 36 [.agg t.cells, .int .i64 a, .agg s.cells] (tmErrV (tmPut t a s)) := by
 intro h
 have h1 := c_tmCheck t ht
 have h2 := c_tmCheck s hs
 have h3 := c_tmLeast 536870912 t ht
 have h4 := c_tmLeast 536870912 s hs
 have h5 := c_tmCount t ht
 have h6 := c_tmTimes t ht a
 have h7 := c_tmCount s hs
 have h8 := c_tmIn s hs a t ht 0
 have h9 := c_tmCopy _ (tmInn_W hs (a := a) t 0 ht)
 have hz : zeroT.cells = [.int .i64 0, .int .i64 0, .int .i64 0, .sl .any [], .sl .any []] := by simp [zeroT, Tm.mk_cells, Ty.mk_kind, Ty.mk_args]
 unfold tmPut tmErrV
 cases k1 : (tmErr t != 0) with
 | true =>
  simp only [if_true, hz]
  clear h2 h3 h4 h5 h6 h7 h8 h9
  refine en Tryz.func36 [.cell 6 31, .tmp 7] rfl rfl fun g0 w0 gen hrel hfr hfr' hres => ?_
  repeat' (first
   | (refine ⟨?_, ?_⟩; focus ((repeat' (first | refine And.intro ?_ ?_ | refine Or.inr ?_)); all_goals kernel_rfl))
   | exact hin _ | exact agf (by assumption)
   | (first | refine wp rfl ?_ | refine spt rfl ?_ | refine spf rfl ?_ | (refine spl (fun hc => ?_) fun hc => ?_) <;> (try rw [beq_iff_eq] at hc) <;> try simp only [hc] | (refine gs (fun hb => ?_) fun hb => ?_) <;> try simp only [Bool.not_true, Bool.not_false] at hb | refine cp (h1) ?_ | refine finF hrel ?_ ?_ ?_) <;> try simp only [go_sem, *])
 | false =>
 simp only [Bool.false_eq_true, if_false]
 cases k2 : decide (a < 0) with
 | true =>
  simp only [Bool.true_or, if_true, hz]
  clear h2 h3 h4 h5 h6 h7 h8 h9
  refine en Tryz.func36 [.cell 6 31, .tmp 7] rfl rfl fun g0 w0 gen hrel hfr hfr' hres => ?_
  repeat' (first
   | (refine ⟨?_, ?_⟩; focus ((repeat' (first | refine And.intro ?_ ?_ | refine Or.inr ?_)); all_goals kernel_rfl))
   | exact hin _ | exact agf (by assumption)
   | (first | refine wp rfl ?_ | refine spt rfl ?_ | refine spf rfl ?_ | (refine spl (fun hc => ?_) fun hc => ?_) <;> (try rw [beq_iff_eq] at hc) <;> try simp only [hc] | (refine gs (fun hb => ?_) fun hb => ?_) <;> try simp only [Bool.not_true, Bool.not_false] at hb | refine cp (h1) ?_ | refine finF hrel ?_ ?_ ?_) <;> try simp only [go_sem, *])
 | false =>
 cases k3 : decide (a > 4096) with
 | true =>
  simp only [Bool.or_true, if_true, hz]
  clear h2 h3 h4 h5 h6 h7 h8 h9
  refine en Tryz.func36 [.cell 6 31, .tmp 7] rfl rfl fun g0 w0 gen hrel hfr hfr' hres => ?_
  repeat' (first
   | (refine ⟨?_, ?_⟩; focus ((repeat' (first | refine And.intro ?_ ?_ | refine Or.inr ?_)); all_goals kernel_rfl))
   | exact hin _ | exact agf (by assumption)
   | (first | refine wp rfl ?_ | refine spt rfl ?_ | refine spf rfl ?_ | (refine spl (fun hc => ?_) fun hc => ?_) <;> (try rw [beq_iff_eq] at hc) <;> try simp only [hc] | (refine gs (fun hb => ?_) fun hb => ?_) <;> try simp only [Bool.not_true, Bool.not_false] at hb | refine cp (h1) ?_ | refine finF hrel ?_ ?_ ?_) <;> try simp only [go_sem, *])
 | false =>
 simp only [Bool.or_false, Bool.false_eq_true, if_false]
 cases k4 : (tmErr s != 0) with
 | true =>
  simp only [if_true, hz]
  clear h3 h4 h5 h6 h7 h8 h9
  refine en Tryz.func36 [.cell 6 31, .tmp 7] rfl rfl fun g0 w0 gen hrel hfr hfr' hres => ?_
  repeat' (first
   | (refine ⟨?_, ?_⟩; focus ((repeat' (first | refine And.intro ?_ ?_ | refine Or.inr ?_)); all_goals kernel_rfl))
   | exact hin _ | exact agf (by assumption)
   | (first | refine wp rfl ?_ | refine spt rfl ?_ | refine spf rfl ?_ | (refine spl (fun hc => ?_) fun hc => ?_) <;> (try rw [beq_iff_eq] at hc) <;> try simp only [hc] | (refine gs (fun hb => ?_) fun hb => ?_) <;> try simp only [Bool.not_true, Bool.not_false] at hb | refine cp (h1) ?_ | refine cp (h2) ?_ | refine finF hrel ?_ ?_ ?_) <;> try simp only [go_sem, *])
 | false =>
 simp only [Bool.false_eq_true, if_false]
 cases k5 : t.least 536870912 with
 | false =>
  rw [k5] at h3
  simp only [Bool.not_false, Bool.true_or, if_true, hz]
  clear h4 h5 h6 h7 h8 h9
  refine en Tryz.func36 [.cell 6 31, .tmp 7] rfl rfl fun g0 w0 gen hrel hfr hfr' hres => ?_
  repeat' (first
   | (refine ⟨?_, ?_⟩; focus ((repeat' (first | refine And.intro ?_ ?_ | refine Or.inr ?_)); all_goals kernel_rfl))
   | exact hin _ | exact agf (by assumption)
   | (first | refine wp rfl ?_ | refine spt rfl ?_ | refine spf rfl ?_ | (refine spl (fun hc => ?_) fun hc => ?_) <;> (try rw [beq_iff_eq] at hc) <;> try simp only [hc] | (refine gs (fun hb => ?_) fun hb => ?_) <;> try simp only [Bool.not_true, Bool.not_false] at hb | refine cp (h1) ?_ | refine cp (h2) ?_ | refine cp (h3) ?_ | refine finF hrel ?_ ?_ ?_) <;> try simp only [go_sem, *])
 | true =>
 rw [k5] at h3
 cases k6 : s.least 536870912 with
 | false =>
  rw [k6] at h4
  simp only [Bool.not_false, Bool.or_true, if_true, hz]
  clear h5 h6 h7 h8 h9
  refine en Tryz.func36 [.cell 6 31, .tmp 7] rfl rfl fun g0 w0 gen hrel hfr hfr' hres => ?_
  repeat' (first
   | (refine ⟨?_, ?_⟩; focus ((repeat' (first | refine And.intro ?_ ?_ | refine Or.inr ?_)); all_goals kernel_rfl))
   | exact hin _ | exact agf (by assumption)
   | (first | refine wp rfl ?_ | refine spt rfl ?_ | refine spf rfl ?_ | (refine spl (fun hc => ?_) fun hc => ?_) <;> (try rw [beq_iff_eq] at hc) <;> try simp only [hc] | (refine gs (fun hb => ?_) fun hb => ?_) <;> try simp only [Bool.not_true, Bool.not_false] at hb | refine cp (h1) ?_ | refine cp (h2) ?_ | refine cp (h3) ?_ | refine cp (h4) ?_ | refine finF hrel ?_ ?_ ?_) <;> try simp only [go_sem, *])
 | true =>
 rw [k6] at h4
 simp only [Bool.not_true, Bool.or_false, Bool.false_eq_true, if_false]
 have w1 : IntKind.i64.wrap (s.szW - 1) = subW s.szW 1 := rfl
 have w2 : IntKind.i64.wrap (t.times a * subW s.szW 1) = mulW (t.times a) (subW s.szW 1) := rfl
 have w3 : IntKind.i64.wrap (t.szW + mulW (t.times a) (subW s.szW 1)) = addW t.szW (mulW (t.times a) (subW s.szW 1)) := rfl
 cases k7 : decide (addW t.szW (mulW (t.times a) (subW s.szW 1)) > 4096) with
 | true =>
  simp only [if_true, hz]
  clear h8 h9
  refine en Tryz.func36 [.cell 6 31, .tmp 7] rfl rfl fun g0 w0 gen hrel hfr hfr' hres => ?_
  repeat' (first
   | (refine ⟨?_, ?_⟩; focus ((repeat' (first | refine And.intro ?_ ?_ | refine Or.inr ?_)); all_goals kernel_rfl))
   | exact hin _ | exact agf (by assumption)
   | (first | refine wp rfl ?_ | refine spt rfl ?_ | refine spf rfl ?_ | (refine spl (fun hc => ?_) fun hc => ?_) <;> (try rw [beq_iff_eq] at hc) <;> try simp only [hc] | (refine gs (fun hb => ?_) fun hb => ?_) <;> try simp only [Bool.not_true, Bool.not_false] at hb | refine cp (h1) ?_ | refine cp (h2) ?_ | refine cp (h3) ?_ | refine cp (h4) ?_ | refine cp (h5) ?_ | refine cp (h6) ?_ | refine cp (h7) ?_ | refine finF hrel ?_ ?_ ?_) <;> try simp only [go_sem, *])
 | false =>
  simp only [Bool.false_eq_true, if_false]
  refine en Tryz.func36 [.cell 6 31, .tmp 7] rfl rfl fun g0 w0 gen hrel hfr hfr' hres => ?_
  repeat' (first
   | (refine ⟨?_, ?_⟩; focus ((repeat' (first | refine And.intro ?_ ?_ | refine Or.inr ?_)); all_goals kernel_rfl))
   | exact hin _ | exact agf (by assumption)
   | (first | refine wp rfl ?_ | refine spt rfl ?_ | refine spf rfl ?_ | (refine spl (fun hc => ?_) fun hc => ?_) <;> (try rw [beq_iff_eq] at hc) <;> try simp only [hc] | (refine gs (fun hb => ?_) fun hb => ?_) <;> try simp only [Bool.not_true, Bool.not_false] at hb | refine cp (h1) ?_ | refine cp (h2) ?_ | refine cp (h3) ?_ | refine cp (h4) ?_ | refine cp (h5) ?_ | refine cp (h6) ?_ | refine cp (h7) ?_ | refine cp (h8) ?_ | refine cp (h9) ?_ | refine finF hrel ?_ ?_ ?_) <;> try simp only [go_sem, *])
theorem tmPut_W {t s : Tm} {a : Int} (ht : TmW t) (hs : TmW s) : TmW (tmPut t a s).1 := by
 unfold tmPut
 repeat' split
 all_goals first | exact tmInn_W hs t 0 ht | exact zeroT_W | exact tm0_W0
theorem fmPut_W {t : Fm} {s : Tm} {a : Int} (ht : FmW t) (hs : TmW s) : FmW (fmPut t a s).1 := by
 unfold fmPut
 repeat' split
 all_goals first | exact fmInn_W hs t 0 ht | exact zeroF_W'
end Go.Proofs.YtpnjamplciaopaaGreatDoor
