/-
 Walks: the value of a closed number.
-/
import Derived.Test.YtenelbgbjmijiaaGreatDoorNi
import Derived.Test.YtenelbgbjmijiaaGreatDoorOd
import Derived.Test.YtenelbgbjmijiaaGreatDoorOe
set_option linter.unusedSimpArgs false
set_option linter.unusedVariables false
set_option maxRecDepth 20000
set_option maxHeartbeats 4000000
namespace Go.Proofs.YtenelbgbjmijiaaGreatDoor
open Go GoAbs Go.Proofs
def numVal (n : Nat) : List V := [.int .i64 1, .int .i64 n, .sl .any [], .sl .any []]
def noVal : List V := [.int .i64 0, .int .i64 0, .sl .any [], .sl .any []]
theorem c_plainNum (n : Nat) : Pure Tryz.prog env 271 [intV n] (.agg (numVal n)) := by
 intro h
 unfold intV numVal
 refine en Tryz.func271 [.cell 2 80] rfl rfl fun g0 w0 gen hrel hfr hfr' hres => ?_
 repeat' (first
  |(refine ⟨?_,?_⟩; focus ((repeat' (first|refine ⟨?_,?_⟩|refine .inr ?_)); all_goals kernel_rfl))
  |exact hin _|exact agf (by assumption)
  | (first|refine wp rfl ?_|refine spt rfl ?_|refine spf rfl ?_|(refine spl (fun hc => ?_) fun hc => ?_) <;> (try rw [beq_iff_eq] at hc) <;> try simp only [hc]|refine finF hrel ?_ ?_ ?_)<;>try simp only [go_sem, *])
theorem ev_num {most f u' : Nat} {t : Tm} {r : Res} {o : Bool} (hm : most ≤ 65536) (h : ev most f 0 t [] = some (r, u', o)) (ht : TmW t) (hty : HasTy TyG [] t tNat) (d : GoAbs.Id) :
  EvT2 d most 0 u' o t .nilp (intV r.num) ∧ (o = false → r = numR r.num) := by
 obtain ⟨v, h1, h2⟩ := ev_C2 hm f d 0 0 t [] .nilp [] tNat r u' o h (Nat.le_refl _) (by omega) ht (by simp) (by simp) hty .nil
 cases o with
 | true => exact ⟨h1, fun e => by cases e⟩
 | false =>
  have := h2 rfl
  cases this with
  | num => exact ⟨h1, fun _ => rfl⟩
def evalV (x : Nat × Nat × Bool) : V := if x.2.2 then .tup [.agg noVal, .int .i64 0, .int .i64 5] else .tup [.agg (numVal x.1), .int .i64 x.2.1, .int .i64 0]
theorem c_machCall {most f u' : Nat} {t : Tm} {r : Res} {o : Bool} (hm : most ≤ 65536) (hev : ev most f 0 t [] = some (r, u', o)) (ht : TmW t) (hty : HasTy TyG [] t tNat) (he : tmErr t = 0) (hb : tmSz t ≤ 1000000) :
  Pure Tryz.prog env 264 [.agg t.cells, .sl .any [], .int .i64 most] (evalV (r.num, u', o)) := by
 intro h
 have h1 := c_termsTypeOf t tNat hty ht he hb
 have h2 := c_Data
 have hT := fun d => (ev_num hm hev ht hty d).1
 have h4 := c_plainNum r.num
 have h3 : ∀ (d : GoAbs.Id) (v : V), IsI v → Turns Tryz.prog env 270 [.ptr d 0, v, .sl .any []] d (mb u' most) (evR false v) (mb u' most) := fun d v hv => c_callS' (l := []) .nil (by simp) (fun _ => hv) hv
 have h5 : ∀ d, Turns Tryz.prog env 270 [.ptr d 0, intV r.num, .sl .any []] d (mb u' most) (evR false (intV r.num)) (mb u' most) := fun d => h3 d _ (intI _)
 have ec : tNat.cells = [.int .i64 1, .sl .any []] := by rw [ty_cells]; rfl
 rw [ec] at h1 h2
 have d1 : decide ((most : Int) < 0) = false := by simp
 have d2 : decide ((most : Int) > 65536) = false := by simp; omega
 have n0 : ((0 : Int) != 0) = false := rfl
 clear hm hev ht hty he hb h3 ec
 unfold EvT2 at hT
 unfold evalV
 unfold evR mb at *
 unfold outV at *
 simp only [show ((0 : Nat) : Int) = 0 from rfl] at hT
 simp only [Bool.false_eq_true, if_false, Bool.not_false] at h5
 cases o with
 | true =>
  simp only [if_true, Bool.not_true] at hT ⊢
  unfold noVal intV at *
  refine en Tryz.func264 [.cell 6 80, .tmp 7, .tmp 8] rfl rfl fun g0 w0 gen hrel hfr hfr' hres => ?_
  repeat' (first
   |(refine ⟨?_,?_⟩; focus ((repeat' (first|refine ⟨?_,?_⟩|refine .inr ?_)); all_goals kernel_rfl))
   | (first|refine wp rfl ?_|refine spt rfl ?_|refine spf rfl ?_|(refine spl (fun hc => ?_) fun hc => ?_) <;> (try rw [beq_iff_eq] at hc) <;> try simp only [hc]|(refine gs (fun hb => ?_) fun hb => ?_) <;> try simp only [Bool.not_true, Bool.not_false] at hb|refine cp h1 ?_)<;>try simp only [go_sem, *])
  refine AR_range [2, 3, 6, 9, 30] [⟨gen, 0, 0⟩, ⟨gen, 0, 1⟩] (fun i σ => Agree h σ.h ∧ σ.h ⟨gen, 1, 5⟩ = some (.box [.int .i64 1, .sl .any []]) ∧ σ.tm 11 = .sl .full []) (([] : List Int)).length (by first | omega | (simp only [go_sem, *] <;> omega)) ⟨rfl, rfl, rfl⟩ rfl (by simp only [go_sem, *]) (by simp only [go_sem, *]) ?_ (by intro i σ t v ht hK; simp only [List.mem_cons, List.not_mem_nil, or_false] at ht; rcases ht with rfl | rfl | rfl <;> exact hK) ?_ ?_
  ·simp only [go_sem, *]
   exact (by repeat (first|exact Agree.refl _|assumption|refine Agree.new ?_ (hgf0 _ _)|refine Agree.new ?_ (hfr' _ _)))
  ·
   intro i σ gr0 hgl_gr0 hgn hlt jI jN jS ⟨jA, jb, jt⟩
   obtain ⟨jT, jB⟩ := jS
   simp only [go_sem] at jT jB
   have hgf := fresh_of hgn
   have hgf0 := fun r i => agree_fresh jA (hgf r i)
   have eg_gen_gr0 := gen_lt (show gen < gr0 by omega)
   have eh_gen_gr0 := gen_lt' (show gen < gr0 by omega)
   obtain ⟨x, hx⟩ : ∃ x, (([] : List Int))[i]? = some x := ⟨_, List.getElem?_eq_getElem hlt⟩
   have hxm := List.mem_of_getElem? hx
   have hm := min_lt hlt
   clear hgn
   exact absurd hlt (by simp)
  ·
   intro σ ga0 hgl_ga0 hgn jS ⟨jA, jb, jt⟩
   obtain ⟨jT, jB⟩ := jS
   simp only [go_sem] at jT jB
   have hgf := fresh_of hgn
   have hgf0 := fun r i => agree_fresh jA (hgf r i)
   have eg_gen_ga0 := gen_lt (show gen < ga0 by omega)
   have eh_gen_ga0 := gen_lt' (show gen < ga0 by omega)
   clear hgn
   repeat' (first
    |(refine ⟨?_,?_⟩; focus ((repeat' (first|refine ⟨?_,?_⟩|refine .inr ?_)); all_goals kernel_rfl))
    |exact hin _|exact agf (by assumption)
    | (first|refine wp rfl ?_|refine spt rfl ?_|refine spf rfl ?_|(refine spl (fun hc => ?_) fun hc => ?_) <;> (try rw [beq_iff_eq] at hc) <;> try simp only [hc]|(refine gs (fun hb => ?_) fun hb => ?_) <;> try simp only [Bool.not_true, Bool.not_false] at hb|refine cp h2 ?_|(refine ct (hT _) ?_ ?_; focus ((simp only [go_sem, *] <;> rfl); done))|refine finF hrel ?_ ?_ ?_)<;>try simp only [go_sem, *])
 | false =>
  simp only [Bool.false_eq_true, if_false, Bool.not_false] at hT ⊢
  unfold numVal intV at *
  refine en Tryz.func264 [.cell 6 80, .tmp 7, .tmp 8] rfl rfl fun g0 w0 gen hrel hfr hfr' hres => ?_
  repeat' (first
   |(refine ⟨?_,?_⟩; focus ((repeat' (first|refine ⟨?_,?_⟩|refine .inr ?_)); all_goals kernel_rfl))
   | (first|refine wp rfl ?_|refine spt rfl ?_|refine spf rfl ?_|(refine spl (fun hc => ?_) fun hc => ?_) <;> (try rw [beq_iff_eq] at hc) <;> try simp only [hc]|(refine gs (fun hb => ?_) fun hb => ?_) <;> try simp only [Bool.not_true, Bool.not_false] at hb|refine cp h1 ?_)<;>try simp only [go_sem, *])
  refine AR_range [2, 3, 6, 9, 30] [⟨gen, 0, 0⟩, ⟨gen, 0, 1⟩] (fun i σ => Agree h σ.h ∧ σ.h ⟨gen, 1, 5⟩ = some (.box [.int .i64 1, .sl .any []]) ∧ σ.tm 11 = .sl .full []) (([] : List Int)).length (by first | omega | (simp only [go_sem, *] <;> omega)) ⟨rfl, rfl, rfl⟩ rfl (by simp only [go_sem, *]) (by simp only [go_sem, *]) ?_ (by intro i σ t v ht hK; simp only [List.mem_cons, List.not_mem_nil, or_false] at ht; rcases ht with rfl | rfl | rfl <;> exact hK) ?_ ?_
  ·simp only [go_sem, *]
   exact (by repeat (first|exact Agree.refl _|assumption|refine Agree.new ?_ (hgf0 _ _)|refine Agree.new ?_ (hfr' _ _)))
  ·
   intro i σ gr0 hgl_gr0 hgn hlt jI jN jS ⟨jA, jb, jt⟩
   obtain ⟨jT, jB⟩ := jS
   simp only [go_sem] at jT jB
   have hgf := fresh_of hgn
   have hgf0 := fun r i => agree_fresh jA (hgf r i)
   have eg_gen_gr0 := gen_lt (show gen < gr0 by omega)
   have eh_gen_gr0 := gen_lt' (show gen < gr0 by omega)
   obtain ⟨x, hx⟩ : ∃ x, (([] : List Int))[i]? = some x := ⟨_, List.getElem?_eq_getElem hlt⟩
   have hxm := List.mem_of_getElem? hx
   have hm := min_lt hlt
   clear hgn
   exact absurd hlt (by simp)
  ·
   intro σ ga0 hgl_ga0 hgn jS ⟨jA, jb, jt⟩
   obtain ⟨jT, jB⟩ := jS
   simp only [go_sem] at jT jB
   have hgf := fresh_of hgn
   have hgf0 := fun r i => agree_fresh jA (hgf r i)
   have eg_gen_ga0 := gen_lt (show gen < ga0 by omega)
   have eh_gen_ga0 := gen_lt' (show gen < ga0 by omega)
   clear hgn
   repeat' (first
    |(refine ⟨?_,?_⟩; focus ((repeat' (first|refine ⟨?_,?_⟩|refine .inr ?_)); all_goals kernel_rfl))
    |exact hin _|exact agf (by assumption)
    | (first|refine wp rfl ?_|refine spt rfl ?_|refine spf rfl ?_|(refine spl (fun hc => ?_) fun hc => ?_) <;> (try rw [beq_iff_eq] at hc) <;> try simp only [hc]|(refine gs (fun hb => ?_) fun hb => ?_) <;> try simp only [Bool.not_true, Bool.not_false] at hb|refine cp h2 ?_|(refine ct (hT _) ?_ ?_; focus ((simp only [go_sem, *] <;> rfl); done))|(refine ct (h5 _) ?_ ?_; focus ((simp only [go_sem, *] <;> rfl); done))|refine cp h4 ?_|refine finF hrel ?_ ?_ ?_)<;>try simp only [go_sem, *])
theorem c_machEval {most f u' : Nat} {t : Tm} {r : Res} {o : Bool} (hm : most ≤ 65536) (hev : ev most f 0 t [] = some (r, u', o)) (ht : TmW t) (hty : HasTy TyG [] t tNat) (he : tmErr t = 0) (hb : tmSz t ≤ 1000000) :
  Pure Tryz.prog env 263 [.agg t.cells, .int .i64 most] (evalV (r.num, u', o)) := by
 intro h
 have h1 := c_machCall hm hev ht hty he hb
 clear hm hev ht hty he hb
 unfold evalV numVal noVal at *
 cases o with
 | true =>
  simp only [if_true] at h1 ⊢
  refine en Tryz.func263 [.cell 4 80, .tmp 5, .tmp 6] rfl rfl fun g0 w0 gen hrel hfr hfr' hres => ?_
  repeat' (first
   |exact hin _|exact agf (by assumption)
   | (first|refine wp rfl ?_|refine cp h1 ?_|refine finF hrel ?_ ?_ ?_)<;>try simp only [go_sem, *])
 | false =>
  simp only [Bool.false_eq_true, if_false] at h1 ⊢
  refine en Tryz.func263 [.cell 4 80, .tmp 5, .tmp 6] rfl rfl fun g0 w0 gen hrel hfr hfr' hres => ?_
  repeat' (first
   |exact hin _|exact agf (by assumption)
   | (first|refine wp rfl ?_|refine cp h1 ?_|refine finF hrel ?_ ?_ ?_)<;>try simp only [go_sem, *])
end Go.Proofs.YtenelbgbjmijiaaGreatDoor
