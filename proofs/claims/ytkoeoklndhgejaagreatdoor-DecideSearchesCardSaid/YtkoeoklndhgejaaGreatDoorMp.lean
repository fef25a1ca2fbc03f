/-
 Walks: several parts in one text.
-/
import Derived.Test.YtkoeoklndhgejaaGreatDoorGq
import Derived.Test.YtkoeoklndhgejaaGreatDoorVc
import Derived.Test.YtkoeoklndhgejaaGreatDoorMo
set_option linter.unusedSimpArgs false
set_option linter.unusedVariables false
set_option maxRecDepth 20000
set_option maxHeartbeats 4000000
namespace Go.Proofs.YtkoeoklndhgejaaGreatDoor
open Go GoAbs Go.Proofs
theorem c_TypeOf0 (t : Tm) (s : Ty) (hT : HasTy TyG [] t s) (hG : TmG t) (hz : tmSz t ≤ 4096) (hw : TmW t) :
  Pure Tryz.prog env 237 [.sl .any [], .agg t.cells] (.tup [.agg s.cells, .int .i64 0]) := by
 have h2 : Pure Tryz.prog env 187 [.sl .any [], .agg t.cells] (.tup [.agg s.cells, .int .i64 0]) := by
  intro h
  have h1 := c_tmCheck t hw
  rw [hG.err0 hz] at h1
  have h2 := c_infer hT (by simp) hw (by simp; omega)
  have n0 : ((0 : Int) != 0) = false := rfl
  simp only [List.map_nil] at h2
  clear hT hG hz hw
  exact ek_ Tryz.func187 [.cell 4 25, .tmp 5]
 intro h
 have h1 : Pure Tryz.prog env 95 [.sl .any []] (.int .i64 0) := by
  intro h
  have d1 : decide (((0 : Nat) : Int) > 16) = false := rfl
  refine en_ Tryz.func95 [.tmp 2] fun g0 w0 gen hrel hfr hfr' hres => ?_
  refine wq_ ?_
  refine ar_ [9] [] (fun i σ => Agree h σ.h ∧ True) (([] : List Ty)).length ?_ ?_ ?_
  ·simp only [go_sem, *]
   first|exact ag_|exact ⟨ag_, trivial⟩
  ·
   intro i σ gr0 hgl_gr0 hgn hlt jI jN jS ⟨jA, _⟩
   obtain ⟨jT, jB⟩ := jS
   simp only [go_sem] at jT jB
   obtain ⟨hgf, hgf0, eg_gen_gr0, eh_gen_gr0⟩ := rnd hgn hgl_gr0 jA
   obtain ⟨x, hx, hxm, hm⟩ := rnx hlt
   clear hgn
   simp at hlt
  ·
   intro σ ga0 hgl_ga0 hgn jS ⟨jA, _⟩
   obtain ⟨jT, jB⟩ := jS
   simp only [go_sem] at jT jB
   obtain ⟨hgf, hgf0, eg_gen_ga0, eh_gen_ga0⟩ := rnd hgn hgl_ga0 jA
   clear hgn
   exact wk_
 have n0 : ((0 : Int) != 0) = false := rfl
 clear hT hG hz hw
 exact ek_ Tryz.func237 [.cell 4 25, .tmp 5]
theorem c_ev {d : GoAbs.Id} {most : Nat} (hm : most ≤ 65536) : ∀ f, EvC d most (ev most f)
 | 0 => fun c u t e r u' o h => by simp [ev] at h
 | f + 1 => by
  intro c u t e r u' o h hc hu ht hel he
  rw [ev_succ] at h
  by_cases hne : u = most
  ·unfold evStep at h
   rw [if_pos hne] at h
   simp only [Option.some.injEq, Prod.mk.injEq] at h
   obtain ⟨rfl, rfl, rfl⟩ := h
   subst hne
   exact c_mLim
  cases k1 : (t.kind == 1) with
  | true =>
   unfold evStep at h
   rw [if_neg hne, if_pos k1] at h
   by_cases h0 : 0 ≤ (e.length : Int) - 1 - t.index
   ·rw [if_pos h0] at h
    cases hx : e[((e.length : Int) - 1 - t.index).toNat]? with
    | none => rw [hx] at h; cases h
    | some x =>
     rw [hx] at h
     simp only [Option.map_some, Option.some.injEq, Prod.mk.injEq] at h
     obtain ⟨rfl, rfl, rfl⟩ := h
     exact c_mVar hne (by omega) (by omega) (by simpa using k1) h0 hx
   ·rw [if_neg h0] at h; cases h
  | false =>
  cases k2 : (t.kind == 2) with
  | true =>
   unfold evStep at h
   rw [if_neg hne, k1, if_neg (by simp), if_pos k2] at h
   split at h
   ·rename_i b hb
    simp only [Option.some.injEq, Prod.mk.injEq] at h
    obtain ⟨rfl, rfl, rfl⟩ := h
    exact c_mLam hne (by omega) (by simpa using k2) hb
   ·cases h
  | false =>
  rw [evStep_args hne k1 k2] at h
  exact c_mArgs (c_ev hm f) (ev_W (by omega) f) hm h hne hc hu ht hel he k1 k2
theorem c_DataNat : Pure Tryz.prog env 238 [.agg tNat.cells] (.tup [.bool true, .int .i64 0]) := by
 have h1 := c_refTyCheck tNat tNat_W
 rw [TyG.nat.err] at h1
 have hc : tNat.cells = [.int .i64 1, .sl .any []] := by simp [tNat, Ty.mk_cells]
 have h2 : Pure Tryz.prog env 249 [.agg tNat.cells] (.int .i64 0) := by
  rw [hc]
  intro h
  exact ek_ Tryz.func249 [.tmp 2]
 rw [hc] at h1 h2 ⊢
 have n0 : ((0 : Int) != 0) = false := rfl
 intro h
 exact ek_ Tryz.func238 [.tmp 2, .tmp 3]
def valN (n : Nat) : List V := [.int .i64 1, .int .i64 n, .sl .any [], .sl .any []]
@[go_sem] theorem valN_in {S : GoAbs.Id → Prop} (n : Nat) : InL S (valN n) = True := by simp [valN, InL, InV, capIn, InLL]
theorem c_plainNat (r : Res) : Pure Tryz.prog env 242 [.agg r.cells, .agg tNat.cells] (.agg (valN r.num)) := by
 have hc : tNat.cells = [.int .i64 1, .sl .any []] := by simp [tNat, Ty.mk_cells]
 rw [hc]
 unfold valN
 intro h
 exact ek_ Tryz.func242 [.cell 4 49]
def evalV (r : Res) (u : Nat) (o : Bool) : V :=
 if o then .tup [.agg [.int .i64 0, .int .i64 0, .sl .any [], .sl .any []], .int .i64 0, .int .i64 5] else .tup [.agg (valN r.num), .int .i64 u, .int .i64 0]
theorem c_Call0 {w : Nat} (hw : w ≤ 65536) {t : Tm} {r : Res} {u : Nat} {o : Bool} (hT : HasTy TyG [] t tNat) (hG : TmG t) (hz : tmSz t ≤ 4096) (ht : TmW t) (h0 : ev w (w + 1) 0 t [] = some (r, u, o)) :
  Pure Tryz.prog env 224 [.agg t.cells, .sl .any [], .int .i64 w] (evalV r u o) := by
 have h1 := c_TypeOf0 t tNat hT hG hz ht
 have h2 := c_DataNat
 have h3 := c_plainNat r
 have hE : ∀ d, Turns Tryz.prog env 239 [.ptr d 0, .agg t.cells, .sl .any []] d (.box (mc 0 w false)) (.agg r.cells) (.box (mc u w o)) :=
  fun d => c_ev (d := d) hw _ 0 0 t [] r u o h0 (by omega) (by omega) ht (by simp) (by simp)
 have hc : tNat.cells = [.int .i64 1, .sl .any []] := by simp [tNat, Ty.mk_cells]
 have n0 : ((0 : Int) != 0) = false := rfl
 have d1 : decide ((w : Int) < 0) = false := by simp
 have d2 : decide ((w : Int) > 65536) = false := by simp; omega
 clear hT hG hz ht h0 hw
 rw [hc] at h1 h2 h3
 clear hc
 intro h
 cases o with
 | true =>
  unfold evalV
  simp only [if_true]
  clear h3
  refine en_ Tryz.func224 [.cell 6 49, .tmp 7, .tmp 8] fun g0 w0 gen hrel hfr hfr' hres => ?_
  refine wq_ ?_
  refine ar_ [1, 2, 3, 6, 9, 30] [⟨gen, 0, 0⟩, ⟨gen, 0, 1⟩] (fun i σ => Agree h σ.h ∧ σ.h ⟨gen, 1, 5⟩ = some (.box [.int .i64 1, .sl .any []])) (([] : List Ty)).length ?_ ?_ ?_
  ·simp only [go_sem, *]
   first|exact ag_|exact ⟨ag_, trivial⟩
  ·
   intro i σ gr0 hgl_gr0 hgn hlt jI jN jS ⟨jA, _⟩
   obtain ⟨jT, jB⟩ := jS
   simp only [go_sem] at jT jB
   obtain ⟨hgf, hgf0, eg_gen_gr0, eh_gen_gr0⟩ := rnd hgn hgl_gr0 jA
   obtain ⟨x, hx, hxm, hm⟩ := rnx hlt
   clear hgn
   simp at hlt
  ·
   intro σ ga0 hgl_ga0 hgn jS ⟨jA, jt⟩
   obtain ⟨jT, jB⟩ := jS
   simp only [go_sem] at jT jB
   obtain ⟨hgf, hgf0, eg_gen_ga0, eh_gen_ga0⟩ := rnd hgn hgl_ga0 jA
   clear hgn
   repeat' (first
    |(refine ⟨?_,?_⟩; focus ((repeat' (first|refine ⟨?_,?_⟩|refine .inr ?_)); all_goals kernel_rfl))
    |exact hin _|exact agf (by assumption)
    | (first|refine wp rfl ?_|refine spt rfl ?_|refine spf rfl ?_|(refine spl (fun hc => ?_) fun hc => ?_) <;> (try rw [beq_iff_eq] at hc) <;> try simp only [hc]|(refine gs (fun hb => ?_) fun hb => ?_) <;> try simp only [Bool.not_true, Bool.not_false] at hb|refine cp h2 ?_|(refine ct (hE _) ?_ ?_; focus ((simp only [go_sem, *] <;> rfl); done))|refine finF hrel ?_ ?_ ?_)<;>try simp only [go_sem, *])
   refine ar_ [6, 7, 8, 9, 17, 18, 84] [⟨gen, 0, 1⟩, ⟨gen, 1, 5⟩] (fun i σ => Agree h σ.h ∧ σ.h ⟨ga0, 19, 2⟩ = some (.box (mc u w true)) ∧ σ.h ⟨ga0, 20, 3⟩ = some (.box r.cells)) (([] : List Ty)).length ?_ ?_ ?_
   ·simp only [go_sem, *]
    first|exact ag_|exact ⟨ag_, trivial⟩
   ·
    intro i σ gr1 hgl_gr1 hgn hlt jI jN jS ⟨jA, _⟩
    obtain ⟨jT, jB⟩ := jS
    simp only [go_sem] at jT jB
    have hgf := fresh_of hgn
    have hgf0 := fun r i => agree_fresh jA (hgf r i)
    have eg_gen_gr1 := gen_lt (show gen < gr1 by omega)
    have eh_gen_gr1 := gen_lt' (show gen < gr1 by omega)
    have eg_ga0_gr1 := gen_lt (show ga0 < gr1 by omega)
    have eh_ga0_gr1 := gen_lt' (show ga0 < gr1 by omega)
    obtain ⟨x, hx, hxm, hm⟩ := rnx hlt
    clear hgn
    simp at hlt
   ·
    intro σ ga1 hgl_ga1 hgn jS ⟨jA, js, jr⟩
    obtain ⟨jT, jB⟩ := jS
    simp only [go_sem] at jT jB
    have hgf := fresh_of hgn
    have hgf0 := fun r i => agree_fresh jA (hgf r i)
    have eg_gen_ga1 := gen_lt (show gen < ga1 by omega)
    have eh_gen_ga1 := gen_lt' (show gen < ga1 by omega)
    have eg_ga0_ga1 := gen_lt (show ga0 < ga1 by omega)
    have eh_ga0_ga1 := gen_lt' (show ga0 < ga1 by omega)
    clear hgn
    exact wk_
 | false =>
  unfold evalV valN at *
  simp only [Bool.false_eq_true, if_false]
  refine en_ Tryz.func224 [.cell 6 49, .tmp 7, .tmp 8] fun g0 w0 gen hrel hfr hfr' hres => ?_
  refine wq_ ?_
  refine ar_ [1, 2, 3, 6, 9, 30] [⟨gen, 0, 0⟩, ⟨gen, 0, 1⟩] (fun i σ => Agree h σ.h ∧ σ.h ⟨gen, 1, 5⟩ = some (.box [.int .i64 1, .sl .any []])) (([] : List Ty)).length ?_ ?_ ?_
  ·simp only [go_sem, *]
   first|exact ag_|exact ⟨ag_, trivial⟩
  ·
   intro i σ gr0 hgl_gr0 hgn hlt jI jN jS ⟨jA, _⟩
   obtain ⟨jT, jB⟩ := jS
   simp only [go_sem] at jT jB
   obtain ⟨hgf, hgf0, eg_gen_gr0, eh_gen_gr0⟩ := rnd hgn hgl_gr0 jA
   obtain ⟨x, hx, hxm, hm⟩ := rnx hlt
   clear hgn
   simp at hlt
  ·
   intro σ ga0 hgl_ga0 hgn jS ⟨jA, jt⟩
   obtain ⟨jT, jB⟩ := jS
   simp only [go_sem] at jT jB
   obtain ⟨hgf, hgf0, eg_gen_ga0, eh_gen_ga0⟩ := rnd hgn hgl_ga0 jA
   clear hgn
   repeat' (first
    |(refine ⟨?_,?_⟩; focus ((repeat' (first|refine ⟨?_,?_⟩|refine .inr ?_)); all_goals kernel_rfl))
    |exact hin _|exact agf (by assumption)
    | (first|refine wp rfl ?_|refine spt rfl ?_|refine spf rfl ?_|(refine spl (fun hc => ?_) fun hc => ?_) <;> (try rw [beq_iff_eq] at hc) <;> try simp only [hc]|(refine gs (fun hb => ?_) fun hb => ?_) <;> try simp only [Bool.not_true, Bool.not_false] at hb|refine cp h2 ?_|(refine ct (hE _) ?_ ?_; focus ((simp only [go_sem, *] <;> rfl); done))|refine finF hrel ?_ ?_ ?_)<;>try simp only [go_sem, *])
   refine ar_ [6, 7, 8, 9, 17, 18, 84] [⟨gen, 0, 1⟩, ⟨gen, 1, 5⟩] (fun i σ => Agree h σ.h ∧ σ.h ⟨ga0, 19, 2⟩ = some (.box (mc u w false)) ∧ σ.h ⟨ga0, 20, 3⟩ = some (.box r.cells)) (([] : List Ty)).length ?_ ?_ ?_
   ·simp only [go_sem, *]
    first|exact ag_|exact ⟨ag_, trivial⟩
   ·
    intro i σ gr1 hgl_gr1 hgn hlt jI jN jS ⟨jA, _⟩
    obtain ⟨jT, jB⟩ := jS
    simp only [go_sem] at jT jB
    have hgf := fresh_of hgn
    have hgf0 := fun r i => agree_fresh jA (hgf r i)
    have eg_gen_gr1 := gen_lt (show gen < gr1 by omega)
    have eh_gen_gr1 := gen_lt' (show gen < gr1 by omega)
    have eg_ga0_gr1 := gen_lt (show ga0 < gr1 by omega)
    have eh_ga0_gr1 := gen_lt' (show ga0 < gr1 by omega)
    obtain ⟨x, hx, hxm, hm⟩ := rnx hlt
    clear hgn
    simp at hlt
   ·
    intro σ ga1 hgl_ga1 hgn jS ⟨jA, js, jr⟩
    obtain ⟨jT, jB⟩ := jS
    simp only [go_sem] at jT jB
    have hgf := fresh_of hgn
    have hgf0 := fun r i => agree_fresh jA (hgf r i)
    have eg_gen_ga1 := gen_lt (show gen < ga1 by omega)
    have eh_gen_ga1 := gen_lt' (show gen < ga1 by omega)
    have eg_ga0_ga1 := gen_lt (show ga0 < ga1 by omega)
    have eh_ga0_ga1 := gen_lt' (show ga0 < ga1 by omega)
    clear hgn
    exact wk_
theorem c_Eval0 {w : Nat} (hw : w ≤ 65536) {t : Tm} {r : Res} {u : Nat} {o : Bool} (hT : HasTy TyG [] t tNat) (hG : TmG t) (hz : tmSz t ≤ 4096) (ht : TmW t) (h0 : ev w (w + 1) 0 t [] = some (r, u, o)) :
  Pure Tryz.prog env 205 [.agg t.cells, .int .i64 w] (evalV r u o) := by
 have h1 := c_Call0 hw hT hG hz ht h0
 clear hT hG hz ht h0 hw
 intro h
 cases o with
 | true =>
  unfold evalV at *
  simp only [if_true] at *
  exact ek_ Tryz.func205 [.cell 4 49, .tmp 5, .tmp 6]
 | false =>
  unfold evalV valN at *
  simp only [Bool.false_eq_true, if_false] at *
  exact ek_ Tryz.func205 [.cell 4 49, .tmp 5, .tmp 6]
end Go.Proofs.YtkoeoklndhgejaaGreatDoor
