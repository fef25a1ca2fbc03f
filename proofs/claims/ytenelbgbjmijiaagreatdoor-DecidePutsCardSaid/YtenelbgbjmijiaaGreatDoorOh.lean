/-
 Walks: putting a term into a formula, with its limits; the parts of a bounded quantifier.
-/
import Derived.Test.YtenelbgbjmijiaaGreatDoorOg
import Derived.Test.YtenelbgbjmijiaaGreatDoorGr
import Derived.Test.YtenelbgbjmijiaaGreatDoorGf
import Derived.Test.YtenelbgbjmijiaaGreatDoorMa
import Derived.Test.YtenelbgbjmijiaaGreatDoorMg
import Derived.Test.YtenelbgbjmijiaaGreatDoorMc
import Derived.Test.YtenelbgbjmijiaaGreatDoorAbsD
import Derived.Test.YtenelbgbjmijiaaGreatDoorVc
import Derived.Test.YtenelbgbjmijiaaGreatDoorGy
import Derived.Test.YtenelbgbjmijiaaGreatDoorAbsDb
set_option linter.unusedSimpArgs false
set_option linter.unusedVariables false
set_option maxRecDepth 20000
set_option maxHeartbeats 4000000
namespace Go.Proofs.YtenelbgbjmijiaaGreatDoor
open Go GoAbs Go.Proofs
theorem c_formulaSize (f : Fm) (hf : FmW f) (gf : FmG true f) (zf : fmSz f ≤ 4096) : Pure Tryz.prog env 158 [.agg f.cells] (.tup [.int .i64 (fmSz f), .int .i64 0]) := by
 intro h
 have hc := c_CheckFormula f hf
 rw [gf.nodes_val (by omega), chk, if_neg (by omega)] at hc
 unfold two at hc
 clear gf zf hf
 generalize fmSz f = n at *
 refine en Tryz.func158 [.tmp 2, .tmp 3] rfl rfl fun g0 w0 gen hrel hfr hfr' hres => ?_
 repeat' (first
  |exact hin _|exact agf (by assumption)
  | (first|refine wp rfl ?_|refine cp hc ?_|refine finF hrel ?_ ?_ ?_)<;>try simp only [go_sem, *])
theorem c_termsSize (t : Tm) (ht : TmW t) (gt : TmG t) (zt : tmSz t ≤ 4096) : Pure Tryz.prog env 160 [.agg t.cells] (.tup [.int .i64 (tmSz t), .int .i64 0]) := by
 intro h
 have hc := c_CheckTerm t ht
 rw [gt.nodes_val (by omega), chk, if_neg (by omega)] at hc
 unfold two at hc
 clear gt zt ht
 generalize tmSz t = n at *
 refine en Tryz.func160 [.tmp 2, .tmp 3] rfl rfl fun g0 w0 gen hrel hfr hfr' hres => ?_
 repeat' (first
  |exact hin _|exact agf (by assumption)
  | (first|refine wp rfl ?_|refine cp hc ?_|refine finF hrel ?_ ?_ ?_)<;>try simp only [go_sem, *])
theorem c_formulaPut (f : Fm) (hf : FmW f) (gf : FmG true f) (zf : fmSz f ≤ 4096) (lf : f.least 536870912 = true) (s : Tm) (hs : TmW s) (gs : TmG s) (zs : tmSz s ≤ 4096) (ls : s.least 536870912 = true) :
  Pure Tryz.prog env 114 [.agg f.cells, .int .i64 0, .agg s.cells] (fmErrV (putR f s)) := by
 intro h
 have h1 := c_formulaSize f hf gf zf
 have h2 := c_fwithin 0
 rw [show (decide ((0 : Int) ≥ 0) && decide ((0 : Int) ≤ 4096)) = true from rfl] at h2
 have h3 := c_termsSize s hs gs zs
 have h4 := c_NearFormula f hf lf
 have h5 := c_Near s hs
 rw [near_ok ls] at h5
 have h6 := c_CountFormula f hf 0
 have so := sm_occ gf (by omega) lf 0 0 (by omega) (by omega) (by omega)
 rw [show ((0 : Nat) : Int) = 0 from rfl, Nat.zero_add] at so
 rw [so] at h6
 have h7 := c_treePutFormula f hf 0 s hs
 rw [rv_put gs (by omega) ls gf (by omega) lf 0 (by omega) (by omega)] at h7
 have hsp := tmSz_pos s
 have ho := fmOcc_le f 0
 have hm : fmOcc f 0 * (tmSz s - 1) ≤ 4096 * 4096 := Nat.mul_le_mul (by omega) (by omega)
 have w1 : IntKind.i64.wrap ((tmSz s : Int) - 1) = ((tmSz s - 1 : Nat) : Int) := wrap_eq (by omega) (by omega) (by omega)
 have w2 : IntKind.i64.wrap ((fmOcc f 0 : Int) * ((tmSz s - 1 : Nat) : Int)) = ((fmOcc f 0 * (tmSz s - 1) : Nat) : Int) := wrap_eq (by push_cast; rfl) (by omega) (by omega)
 have w3 : IntKind.i64.wrap ((fmSz f : Int) + ((fmOcc f 0 * (tmSz s - 1) : Nat) : Int)) = ((fmSz f + fmOcc f 0 * (tmSz s - 1) : Nat) : Int) := wrap_eq (by push_cast; rfl) (by omega) (by omega)
 have n0 : ((0 : Int) != 0) = false := rfl
 unfold putR
 by_cases hle : fmSz f + fmOcc f 0 * (tmSz s - 1) ≤ 4096
 ·have hd : decide (((fmSz f + fmOcc f 0 * (tmSz s - 1) : Nat) : Int) > 4096) = false := by simp only [decide_eq_false_iff_not]; omega
  rw [if_pos hle]
  clear hle hm ho hsp zs zf gf gs lf ls hf hs so
  generalize fmSz f + fmOcc f 0 * (tmSz s - 1) = a3 at *
  generalize fmOcc f 0 * (tmSz s - 1) = a2 at *
  generalize tmSz s - 1 = a1 at *
  generalize fmInn s 0 f 0 = v at *
  refine en Tryz.func114 [.cell 6 29, .tmp 7] rfl rfl fun g0 w0 gen hrel hfr hfr' hres => ?_
  repeat' (first
   |exact hin _|exact agf (by assumption)
   | (first|refine wp rfl ?_|refine spt rfl ?_|refine spf rfl ?_|(refine spl (fun hc => ?_) fun hc => ?_) <;> (try rw [beq_iff_eq] at hc) <;> try simp only [hc]|(refine gs (fun hb => ?_) fun hb => ?_) <;> try simp only [Bool.not_true, Bool.not_false] at hb|refine cp h1 ?_|refine cp h2 ?_|refine cp h3 ?_|refine cp h4 ?_|refine cp h5 ?_|refine cp h6 ?_|refine cp h7 ?_|refine finF hrel ?_ ?_ ?_)<;>try simp only [go_sem, *])
 ·have hd : decide (((fmSz f + fmOcc f 0 * (tmSz s - 1) : Nat) : Int) > 4096) = true := by simp only [decide_eq_true_eq]; omega
  rw [if_neg hle]
  have zc : zeroF.cells = [.int .i64 0, .int .i64 0, .sl .any [], .sl .any [], .sl .any []] := by simp [zeroF, Fm.mk_cells, Ty.mk_kind, Ty.mk_args]
  clear hle hm ho hsp zs zf gf gs lf ls hf hs so
  generalize fmSz f + fmOcc f 0 * (tmSz s - 1) = a3 at *
  generalize fmOcc f 0 * (tmSz s - 1) = a2 at *
  generalize tmSz s - 1 = a1 at *
  generalize fmInn s 0 f 0 = v at *
  refine en Tryz.func114 [.cell 6 29, .tmp 7] rfl rfl fun g0 w0 gen hrel hfr hfr' hres => ?_
  repeat' (first
   |exact hin _|exact agf (by assumption)
   | (first|refine wp rfl ?_|refine spt rfl ?_|refine spf rfl ?_|(refine spl (fun hc => ?_) fun hc => ?_) <;> (try rw [beq_iff_eq] at hc) <;> try simp only [hc]|(refine gs (fun hb => ?_) fun hb => ?_) <;> try simp only [Bool.not_true, Bool.not_false] at hb|refine cp h1 ?_|refine cp h2 ?_|refine cp h3 ?_|refine cp h4 ?_|refine cp h5 ?_|refine cp h6 ?_|refine cp h7 ?_|refine finF hrel ?_ ?_ ?_)<;>try simp only [go_sem, *])
theorem c_clsBound2 (all : Bool) (q : Tm) (wq : TmW q) (hc : q.count 0 = 0) (f : Fm) (hf : FmW f) (hb : FmW (bndF all q f)) (he : fmErr (bndF all q f) = 0) :
  Pure Tryz.prog env 27 [.agg (bndF all q f).cells] (.tup [.bool all, .agg (tPut q 0 zeroT).cells, .agg f.cells, .bool true]) := by
 intro h
 have h1 := c_fmCheck _ hb
 rw [he] at h1
 have he' : (fmErr (bndF all q f) != 0) = false := by rw [he]; rfl
 have h2 := c_bound _ hb (Fm.ok_good he') (by cases all <;> simp [bndF, fmQ, Fm.kind])
 have e1 : bndTerm (bndF all q f) = q := rfl
 have e2 : bndBody (bndF all q f) = f := rfl
 have e3 : ((bndF all q f).kind == 4) = all := by cases all <;> rfl
 unfold boundV at h2
 rw [if_pos (bndF_bnd hc), e1, e2, e3] at h2
 have h3 := c_tPut q wq 0 zeroT zeroT_W
 rw [zeroT_cells] at h3
 have h4 := c_OwnFormula f hf
 have n0 : ((0 : Int) != 0) = false := rfl
 clear he he' e1 e2 e3 hc hb wq hf
 generalize bndF all q f = z at *
 generalize tPut q 0 zeroT = t at *
 refine en Tryz.func27 [.tmp 2, .cell 3 31, .cell 4 29, .tmp 5] rfl rfl fun g0 w0 gen hrel hfr hfr' hres => ?_
 repeat' (first
  |(refine ⟨?_,?_⟩; focus ((repeat' (first|refine ⟨?_,?_⟩|refine .inr ?_)); all_goals kernel_rfl))
  |exact hin _|exact agf (by assumption)
  | (first|refine wp rfl ?_|refine spt rfl ?_|refine spf rfl ?_|(refine spl (fun hc => ?_) fun hc => ?_) <;> (try rw [beq_iff_eq] at hc) <;> try simp only [hc]|refine cp h1 ?_|refine cp h2 ?_|refine cp h3 ?_|refine cp h4 ?_|refine finF hrel ?_ ?_ ?_)<;>try simp only [go_sem, *])
end Go.Proofs.YtenelbgbjmijiaaGreatDoor
