/-
 Walks: several parts in one text.
-/
import Derived.Test.YtmbpmbofehmdaaaGreatDoorMa
import Derived.Test.YtmbpmbofehmdaaaGreatDoorMc
set_option linter.unusedSimpArgs false
set_option linter.unusedVariables false
set_option maxRecDepth 20000
set_option maxHeartbeats 4000000
namespace Go.Proofs.YtmbpmbofehmdaaaGreatDoor
open Go GoAbs Go.Proofs
theorem c_longer (g l : List Ty) (hg : g.length ≤ 1000) (hl : l.length ≤ 1000) :
  Pure Tryz.prog env 43 [.sl .any (g.map Ty.cells), .sl .any (l.map Ty.cells)] (.sl .any ((g ++ l).map Ty.cells)) := by
 intro h
 have b1 : g.length * 32 ≤ 140737488355328 := by omega
 have b2 : g.length ≤ 140737488355328 := by omega
 have b3 : (g.length + l.length) * 32 ≤ 140737488355328 := by omega
 have b4 : g.length + l.length ≤ 140737488355328 := by omega
 have z : 0 + g.length = g.length := by omega
 refine en_ Tryz.func43 [.tmp 4] fun g0 w0 gen hrel hfr hfr' hres => ?_
 first|refine wq_ ?_|exact wk_
 all_goals (rw [← List.map_append, weakLL_Ty])
def TermIH (l : List Int) (m : Nat) : Prop :=
 ∀ (z : Int) (g : List Ty) (t : Ty) (a : Nat), 43 * z.toNat + tyH t < m → (∀ y ∈ g, TyF y ∧ tyH y ≤ 40) → TyF t → tyH t ≤ 40 → g.length + 43 * z.toNat + tyH t ≤ 900 → (tyH t : Int) ≤ z + 1000 →
  ∃ t' a', MkTm z.toNat g t t' ∧ TmW t' ∧ ∀ d, Turns Tryz.prog env 32 [.ptr d 0, .sl .any (g.map Ty.cells), .agg t.cells, .int .i64 z] d (.box (deckC l a)) (.agg t'.cells) (.box (deckC l a'))
theorem ihT {l : List Int} {m : Nat} (ih : TermIH l m) (z : Int) (g : List Ty) (t : Ty) (a : Nat) (h1 : 43 * z.toNat + tyH t < m := by first | omega | (simp only [tyH_nat, tyH_list, tyH_unit, tyH_pair, tyH_fun] at *; omega)) (h2 : ∀ y ∈ g, TyF y ∧ tyH y ≤ 40 := by first|exact hg | (intro y hy; rcases List.mem_append.1 hy with hy | hy; exact hg y hy; simp at hy; rcases hy with rfl | rfl | rfl <;> exact ⟨by first|assumption|exact .nat|exact .list, by first|assumption | omega | (simp only [tyH_nat, tyH_list, tyH_unit, tyH_pair, tyH_fun] at *; omega)⟩) | (intro y hy; rcases List.mem_append.1 hy with hy | hy; exact hg y hy; simp at hy; rcases hy with rfl | rfl <;> exact ⟨by first|assumption|exact .nat|exact .list, by first|assumption | omega | (simp only [tyH_nat, tyH_list, tyH_unit, tyH_pair, tyH_fun] at *; omega)⟩) | (intro y hy; rcases List.mem_append.1 hy with hy | hy; exact hg y hy; simp at hy; subst hy; exact ⟨by first|assumption|exact .nat, by first|assumption | omega | (simp only [tyH_nat, tyH_list, tyH_unit, tyH_pair, tyH_fun] at *; omega)⟩)) (h3 : TyF t := by first|assumption|exact .nat|exact .list|exact .unit) (h4 : tyH t ≤ 40 := by first|assumption | omega | (simp only [tyH_nat, tyH_list, tyH_unit, tyH_pair, tyH_fun] at *; omega))
  (h5 : g.length + 43 * z.toNat + tyH t ≤ 900 := by first | omega | (simp only [List.length_append, List.length_cons, List.length_nil, tyH_nat, tyH_list, tyH_unit, tyH_pair, tyH_fun] at *; omega)) (h6 : (tyH t : Int) ≤ z + 1000 := by first | omega | (simp only [tyH_nat, tyH_list, tyH_unit, tyH_pair, tyH_fun] at *; omega)) :
  ∃ t' a', MkTm z.toNat g t t' ∧ TmW t' ∧ ∀ d, Turns Tryz.prog env 32 [.ptr d 0, .sl .any (g.map Ty.cells), .agg t.cells, .int .i64 z] d (.box (deckC l a)) (.agg t'.cells) (.box (deckC l a')) := ih z g t a h1 h2 h3 h4 h5 h6
structure TermSt (l : List Int) (g : List Ty) (t : Ty) (z : Int) (a : Nat) (d : GoAbs.Id) (h : H) (gen0 : Nat) (σ : St) : Prop where
 j0 : σ.tm 0 = .ptr d 0
 j1 : σ.tm 1 = .sl .any (g.map Ty.cells)
 j3 : σ.tm 3 = .int .i64 z
 j6 : σ.tm 6 = .ptr ⟨gen0, 0, 0⟩ 0
 j8 : σ.tm 8 = .ptr ⟨gen0, 0, 1⟩ 0
 b6 : σ.h ⟨gen0, 0, 0⟩ = some (.box t.cells)
 b8 : σ.h ⟨gen0, 0, 1⟩ = some (.box [.int .i64 0, .int .i64 0, .int .i64 0, .sl .full [], .sl .full []])
 bd : σ.h d = some (.box (deckC l a))
 ag : AgreeBut d h σ.h
def Term3 (l : List Int) (g : List Ty) (t : Ty) (z : Int) (a : Nat) (t' : Tm) (a' : Nat) : Prop :=
 ∀ (d : GoAbs.Id) (h : H) (o : GoAbs.Obj) (g0 : G) (w0 : World) (gen0 gen : Nat) (σ : St), h d = some o → Rel env g0 w0 h → (∀ id, h id ≠ none → id.gen < gen0) → TermSt l g t z a d h gen0 σ →
  AR ⟨Tryz.prog, env, Tryz.f32.ntmps, Tryz.f32, g0, w0, h, .agg t'.cells, hset h d (.box (deckC l a'))⟩ gen
   [.code (subC [true, true, true, true] (bodyOf Tryz.f32))] .normal σ
theorem term3 (l : List Int) (hl : l.length ≤ 1000) (m : Nat) (ih : TermIH l m) (z : Int) (g : List Ty) (t : Ty) (a : Nat) (hm : 43 * z.toNat + tyH t = m)
  (hg : ∀ y ∈ g, TyF y ∧ tyH y ≤ 40) (ht : TyF t) (hth : tyH t ≤ 40) (hb : g.length + 43 * z.toNat + tyH t ≤ 900) (hz : (tyH t : Int) ≤ z + 1000) :
  ∃ t' a', MkTm z.toNat g t t' ∧ Term3 l g t z a t' a' := by
 have hw : IntKind.i64.wrap (z - 1) = z - 1 := wrap_eq rfl (by omega) (by omega)
 have hgl : g.length ≤ 1000 := by omega
 cases ht with
 | unit =>
  have hkn : tUnit.kind = 5 := rfl
  have h1 := c_N 13 [] (by simp) (by simp)
  simp only [List.map_nil] at h1
  refine ⟨_, a, .unit, fun d h o g0 w0 gen0 gen σ hd hrel hfr ⟨j0, j1, j3, j6, j8, b6, b8, bd, ag⟩ => ?_⟩
  refine AR_gen2 (fun gn hgn0 hgn => ?_)
  have hgf := fresh_of hgn
  have hres : Tryz.f32.results.toList = [.cell 8 31] := rfl
  have hfr0 := fresh_of hfr
  have f1 := fresh_ne hfr hd
  have f2 := fresh_ne' hfr hd
  have f3 := fresh_ne hgn bd
  have f4 := fresh_ne' hgn bd
  have e1 := gen_ne hgn b6
  have e2 := gen_ne' hgn b6
  have hfr' := agreeBut_fresh' hd ag hgf (fun r i e => by rw [e] at bd; rw [hgf] at bd; cases bd)
  clear hgn hgn0
  conv => arg 3; simp only [subC, bodyOf, Tryz.f32, Option.getD_some]
  exact wkT_
 | nat =>
  have hkn : tNat.kind = 1 := rfl
  rcases Int.lt_or_le 0 z with hp | hp
  ·have hd0 : decide (z > 0) = true := by simpa using hp
   have hn1 : z.toNat = (z - 1).toNat + 1 := by omega
   have hr := nextD_range (l := l) (a := a) (n := 5) (by omega) (by omega)
   generalize hq : nextD l a 5 = q at hr
   obtain ⟨c, a1⟩ := q
   have hc1 : (nextD l a 5).1 = c := by rw [hq]
   have hc2 : (nextD l a 5).2 = a1 := by rw [hq]
   simp only at hr
   obtain rfl | rfl | rfl | hge : c = 0 ∨ c = 1 ∨ c = 2 ∨ 3 ≤ c := by omega
   ·
    obtain ⟨x, ax, kx, wx, Tx⟩ := ihT ih (z - 1) g tNat a1
    have hN := c_N 5 [x] (by simp) (by simp [wx])
    simp only [List.map_cons, List.map_nil] at hN
    clear ih hr hq hp hg
    refine ⟨_, ax, by rw [hn1]; exact .succ kx, fun d h o g0 w0 gen0 gen σ hd hrel hfr ⟨j0, j1, j3, j6, j8, b6, b8, bd, ag⟩ => ?_⟩
    refine AR_gen2 (fun gn hgn0 hgn => ?_)
    have hgf := fresh_of hgn
    have hres : Tryz.f32.results.toList = [.cell 8 31] := rfl
    have hfr0 := fresh_of hfr
    have f1 := fresh_ne hfr hd
    have f2 := fresh_ne' hfr hd
    have f3 := fresh_ne hgn bd
    have f4 := fresh_ne' hgn bd
    have e1 := gen_ne hgn b6
    have e2 := gen_ne' hgn b6
    have hfr' := agreeBut_fresh' hd ag hgf (fun r i e => by rw [e] at bd; rw [hgf] at bd; cases bd)
    clear hgn hgn0
    conv => arg 3; simp only [subC, bodyOf, Tryz.f32, Option.getD_some]
    repeat' (first
     |(refine ⟨?_,?_⟩; focus ((repeat' (first|refine ⟨?_,?_⟩|refine .inr ?_)); all_goals kernel_rfl))
     |exact agb (by assumption)
     | (first|refine wp rfl ?_|refine spt rfl ?_|refine spf rfl ?_|(refine spl (fun hc => ?_) fun hc => ?_) <;> (try rw [beq_iff_eq] at hc) <;> try simp only [hc]|(refine gs (fun hb => ?_) fun hb => ?_) <;> try simp only [Bool.not_true, Bool.not_false] at hb|refine cp hN ?_|refine ct (c_Next l hl d _ _) (by simp only [go_sem, *] <;> rfl) ?_|(refine ct (Tx d) ?_ ?_; focus ((simp only [go_sem, *] <;> rfl); done))|refine finT hrel hd ?_ ?_ ?_ ?_ ?_)<;>try simp only [go_sem, *])
   ·
    obtain ⟨x, ax, kx, wx, Tx⟩ := ihT ih (z - 1) g tNat a1
    obtain ⟨y, ay, ky, wy, Ty⟩ := ihT ih (z - 1) g tNat ax
    have hA := c_App plusT [x, y] plusT_W (by simp) (by simp [wx, wy])
    simp only [List.map_cons, List.map_nil, appTm_cons, appTm_nil] at hA
    clear ih hr hq hp hg
    refine ⟨_, ay, by rw [hn1]; exact .plus kx ky, fun d h o g0 w0 gen0 gen σ hd hrel hfr ⟨j0, j1, j3, j6, j8, b6, b8, bd, ag⟩ => ?_⟩
    refine AR_gen2 (fun gn hgn0 hgn => ?_)
    have hgf := fresh_of hgn
    have hres : Tryz.f32.results.toList = [.cell 8 31] := rfl
    have hfr0 := fresh_of hfr
    have f1 := fresh_ne hfr hd
    have f2 := fresh_ne' hfr hd
    have f3 := fresh_ne hgn bd
    have f4 := fresh_ne' hgn bd
    have e1 := gen_ne hgn b6
    have e2 := gen_ne' hgn b6
    have hfr' := agreeBut_fresh' hd ag hgf (fun r i e => by rw [e] at bd; rw [hgf] at bd; cases bd)
    clear hgn hgn0
    conv => arg 3; simp only [subC, bodyOf, Tryz.f32, Option.getD_some]
    repeat' (first
     |(refine ⟨?_,?_⟩; focus ((repeat' (first|refine ⟨?_,?_⟩|refine .inr ?_)); all_goals kernel_rfl))
     |exact agb (by assumption)
     | (first|refine wp rfl ?_|refine spt rfl ?_|refine spf rfl ?_|(refine spl (fun hc => ?_) fun hc => ?_) <;> (try rw [beq_iff_eq] at hc) <;> try simp only [hc]|(refine gs (fun hb => ?_) fun hb => ?_) <;> try simp only [Bool.not_true, Bool.not_false] at hb|refine cp hA ?_|refine cp c_Plus ?_|refine ct (c_Next l hl d _ _) (by simp only [go_sem, *] <;> rfl) ?_|(refine ct (Tx d) ?_ ?_; focus ((simp only [go_sem, *] <;> rfl); done))|(refine ct (Ty d) ?_ ?_; focus ((simp only [go_sem, *] <;> rfl); done))|refine finT hrel hd ?_ ?_ ?_ ?_ ?_)<;>try simp only [go_sem, *])
   ·
    obtain ⟨x, ax, kx, wx, Tx⟩ := ihT ih (z - 1) g tNat a1
    obtain ⟨y, ay, ky, wy, Ty⟩ := ihT ih (z - 1) g tNat ax
    have hA := c_App subT [x, y] subT_W (by simp) (by simp [wx, wy])
    simp only [List.map_cons, List.map_nil, appTm_cons, appTm_nil] at hA
    clear ih hr hq hp hg
    refine ⟨_, ay, by rw [hn1]; exact .sub kx ky, fun d h o g0 w0 gen0 gen σ hd hrel hfr ⟨j0, j1, j3, j6, j8, b6, b8, bd, ag⟩ => ?_⟩
    refine AR_gen2 (fun gn hgn0 hgn => ?_)
    have hgf := fresh_of hgn
    have hres : Tryz.f32.results.toList = [.cell 8 31] := rfl
    have hfr0 := fresh_of hfr
    have f1 := fresh_ne hfr hd
    have f2 := fresh_ne' hfr hd
    have f3 := fresh_ne hgn bd
    have f4 := fresh_ne' hgn bd
    have e1 := gen_ne hgn b6
    have e2 := gen_ne' hgn b6
    have hfr' := agreeBut_fresh' hd ag hgf (fun r i e => by rw [e] at bd; rw [hgf] at bd; cases bd)
    clear hgn hgn0
    conv => arg 3; simp only [subC, bodyOf, Tryz.f32, Option.getD_some]
    repeat' (first
     |(refine ⟨?_,?_⟩; focus ((repeat' (first|refine ⟨?_,?_⟩|refine .inr ?_)); all_goals kernel_rfl))
     |exact agb (by assumption)
     | (first|refine wp rfl ?_|refine spt rfl ?_|refine spf rfl ?_|(refine spl (fun hc => ?_) fun hc => ?_) <;> (try rw [beq_iff_eq] at hc) <;> try simp only [hc]|(refine gs (fun hb => ?_) fun hb => ?_) <;> try simp only [Bool.not_true, Bool.not_false] at hb|refine cp hA ?_|refine cp c_Sub ?_|refine ct (c_Next l hl d _ _) (by simp only [go_sem, *] <;> rfl) ?_|(refine ct (Tx d) ?_ ?_; focus ((simp only [go_sem, *] <;> rfl); done))|(refine ct (Ty d) ?_ ?_; focus ((simp only [go_sem, *] <;> rfl); done))|refine finT hrel hd ?_ ?_ ?_ ?_ ?_)<;>try simp only [go_sem, *])
   ·have q0 : (c == 0) = false := by simp; omega
    have q1 : (c == 1) = false := by simp; omega
    have q2 : (c == 2) = false := by simp; omega
    clear hge hr hq
    have hr3 := nextD_range (l := l) (a := a1) (n := 3) (by omega) (by omega)
    obtain ⟨k, hk⟩ : ∃ k : Nat, (nextD l a1 3).1 = (k : Int) := ⟨(nextD l a1 3).1.toNat, by omega⟩
    have hk3 : k < 3 := by omega
    have hN := c_Num k (by omega)
    clear ih hr3 hg
    refine ⟨_, (nextD l a1 3).2, .num hk3, fun d h o g0 w0 gen0 gen σ hd hrel hfr ⟨j0, j1, j3, j6, j8, b6, b8, bd, ag⟩ => ?_⟩
    refine AR_gen2 (fun gn hgn0 hgn => ?_)
    have hgf := fresh_of hgn
    have hres : Tryz.f32.results.toList = [.cell 8 31] := rfl
    have hfr0 := fresh_of hfr
    have f1 := fresh_ne hfr hd
    have f2 := fresh_ne' hfr hd
    have f3 := fresh_ne hgn bd
    have f4 := fresh_ne' hgn bd
    have e1 := gen_ne hgn b6
    have e2 := gen_ne' hgn b6
    have hfr' := agreeBut_fresh' hd ag hgf (fun r i e => by rw [e] at bd; rw [hgf] at bd; cases bd)
    clear hgn hgn0
    conv => arg 3; simp only [subC, bodyOf, Tryz.f32, Option.getD_some]
    repeat' (first
     |(refine ⟨?_,?_⟩; focus ((repeat' (first|refine ⟨?_,?_⟩|refine .inr ?_)); all_goals kernel_rfl))
     |exact agb (by assumption)
     | (first|refine wp rfl ?_|refine spt rfl ?_|refine spf rfl ?_|(refine spl (fun hc => ?_) fun hc => ?_) <;> (try rw [beq_iff_eq] at hc) <;> try simp only [hc]|(refine gs (fun hb => ?_) fun hb => ?_) <;> try simp only [Bool.not_true, Bool.not_false] at hb|refine cp hN ?_|refine ct (c_Next l hl d _ _) (by simp only [go_sem, *] <;> rfl) ?_|refine finT hrel hd ?_ ?_ ?_ ?_ ?_)<;>try simp only [go_sem, *])
  ·have hd0 : decide (z > 0) = false := by simp; omega
   have hr3 := nextD_range (l := l) (a := a) (n := 3) (by omega) (by omega)
   obtain ⟨k, hk⟩ : ∃ k : Nat, (nextD l a 3).1 = (k : Int) := ⟨(nextD l a 3).1.toNat, by omega⟩
   have hk3 : k < 3 := by omega
   have hN := c_Num k (by omega)
   clear ih hr3 hg
   refine ⟨_, (nextD l a 3).2, .num hk3, fun d h o g0 w0 gen0 gen σ hd hrel hfr ⟨j0, j1, j3, j6, j8, b6, b8, bd, ag⟩ => ?_⟩
   refine AR_gen2 (fun gn hgn0 hgn => ?_)
   have hgf := fresh_of hgn
   have hres : Tryz.f32.results.toList = [.cell 8 31] := rfl
   have hfr0 := fresh_of hfr
   have f1 := fresh_ne hfr hd
   have f2 := fresh_ne' hfr hd
   have f3 := fresh_ne hgn bd
   have f4 := fresh_ne' hgn bd
   have e1 := gen_ne hgn b6
   have e2 := gen_ne' hgn b6
   have hfr' := agreeBut_fresh' hd ag hgf (fun r i e => by rw [e] at bd; rw [hgf] at bd; cases bd)
   clear hgn hgn0
   conv => arg 3; simp only [subC, bodyOf, Tryz.f32, Option.getD_some]
   repeat' (first
    |(refine ⟨?_,?_⟩; focus ((repeat' (first|refine ⟨?_,?_⟩|refine .inr ?_)); all_goals kernel_rfl))
    |exact agb (by assumption)
    | (first|refine wp rfl ?_|refine spt rfl ?_|refine spf rfl ?_|(refine spl (fun hc => ?_) fun hc => ?_) <;> (try rw [beq_iff_eq] at hc) <;> try simp only [hc]|(refine gs (fun hb => ?_) fun hb => ?_) <;> try simp only [Bool.not_true, Bool.not_false] at hb|refine cp hN ?_|refine ct (c_Next l hl d _ _) (by simp only [go_sem, *] <;> rfl) ?_|refine finT hrel hd ?_ ?_ ?_ ?_ ?_)<;>try simp only [go_sem, *])
 | list =>
  have hkn : tList.kind = 2 := rfl
  have hN7 := c_N 7 [] (by simp) (by simp)
  simp only [List.map_nil] at hN7
  rcases Int.lt_or_le 0 z with hp | hp
  ·have hd0 : decide (z > 0) = true := by simpa using hp
   have hn1 : z.toNat = (z - 1).toNat + 1 := by omega
   generalize hq : nextD l a 2 = q
   obtain ⟨c, a1⟩ := q
   have hc1 : (nextD l a 2).1 = c := by rw [hq]
   have hc2 : (nextD l a 2).2 = a1 := by rw [hq]
   cases hc : (c == 0) with
   | true =>
    obtain ⟨x, ax, kx, wx, Tx⟩ := ihT ih (z - 1) g tNat a1
    obtain ⟨y, ay, ky, wy, Ty⟩ := ihT ih (z - 1) g tList ax
    have hN := c_N 8 [x, y] (by simp) (by simp [wx, wy])
    simp only [List.map_cons, List.map_nil] at hN
    clear ih hq hp hg
    refine ⟨_, ay, by rw [hn1]; exact .cons kx ky, fun d h o g0 w0 gen0 gen σ hd hrel hfr ⟨j0, j1, j3, j6, j8, b6, b8, bd, ag⟩ => ?_⟩
    refine AR_gen2 (fun gn hgn0 hgn => ?_)
    have hgf := fresh_of hgn
    have hres : Tryz.f32.results.toList = [.cell 8 31] := rfl
    have hfr0 := fresh_of hfr
    have f1 := fresh_ne hfr hd
    have f2 := fresh_ne' hfr hd
    have f3 := fresh_ne hgn bd
    have f4 := fresh_ne' hgn bd
    have e1 := gen_ne hgn b6
    have e2 := gen_ne' hgn b6
    have hfr' := agreeBut_fresh' hd ag hgf (fun r i e => by rw [e] at bd; rw [hgf] at bd; cases bd)
    clear hgn hgn0
    conv => arg 3; simp only [subC, bodyOf, Tryz.f32, Option.getD_some]
    repeat' (first
     |(refine ⟨?_,?_⟩; focus ((repeat' (first|refine ⟨?_,?_⟩|refine .inr ?_)); all_goals kernel_rfl))
     |exact agb (by assumption)
     | (first|refine wp rfl ?_|refine spt rfl ?_|refine spf rfl ?_|(refine spl (fun hc => ?_) fun hc => ?_) <;> (try rw [beq_iff_eq] at hc) <;> try simp only [hc]|(refine gs (fun hb => ?_) fun hb => ?_) <;> try simp only [Bool.not_true, Bool.not_false] at hb|refine cp hN ?_|refine cp c_refNat ?_|refine ct (c_Next l hl d _ _) (by simp only [go_sem, *] <;> rfl) ?_|(refine ct (Tx d) ?_ ?_; focus ((simp only [go_sem, *] <;> rfl); done))|(refine ct (Ty d) ?_ ?_; focus ((simp only [go_sem, *] <;> rfl); done))|refine finT hrel hd ?_ ?_ ?_ ?_ ?_)<;>try simp only [go_sem, *])
   | false =>
    clear ih hq hp hg
    refine ⟨_, a1, .nil, fun d h o g0 w0 gen0 gen σ hd hrel hfr ⟨j0, j1, j3, j6, j8, b6, b8, bd, ag⟩ => ?_⟩
    refine AR_gen2 (fun gn hgn0 hgn => ?_)
    have hgf := fresh_of hgn
    have hres : Tryz.f32.results.toList = [.cell 8 31] := rfl
    have hfr0 := fresh_of hfr
    have f1 := fresh_ne hfr hd
    have f2 := fresh_ne' hfr hd
    have f3 := fresh_ne hgn bd
    have f4 := fresh_ne' hgn bd
    have e1 := gen_ne hgn b6
    have e2 := gen_ne' hgn b6
    have hfr' := agreeBut_fresh' hd ag hgf (fun r i e => by rw [e] at bd; rw [hgf] at bd; cases bd)
    clear hgn hgn0
    conv => arg 3; simp only [subC, bodyOf, Tryz.f32, Option.getD_some]
    repeat' (first
     |(refine ⟨?_,?_⟩; focus ((repeat' (first|refine ⟨?_,?_⟩|refine .inr ?_)); all_goals kernel_rfl))
     |exact agb (by assumption)
     | (first|refine wp rfl ?_|refine spt rfl ?_|refine spf rfl ?_|(refine spl (fun hc => ?_) fun hc => ?_) <;> (try rw [beq_iff_eq] at hc) <;> try simp only [hc]|(refine gs (fun hb => ?_) fun hb => ?_) <;> try simp only [Bool.not_true, Bool.not_false] at hb|refine cp hN7 ?_|refine ct (c_Next l hl d _ _) (by simp only [go_sem, *] <;> rfl) ?_|refine finT hrel hd ?_ ?_ ?_ ?_ ?_)<;>try simp only [go_sem, *])
  ·have hd0 : decide (z > 0) = false := by simp; omega
   clear ih hg
   refine ⟨_, a, .nil, fun d h o g0 w0 gen0 gen σ hd hrel hfr ⟨j0, j1, j3, j6, j8, b6, b8, bd, ag⟩ => ?_⟩
   refine AR_gen2 (fun gn hgn0 hgn => ?_)
   have hgf := fresh_of hgn
   have hres : Tryz.f32.results.toList = [.cell 8 31] := rfl
   have hfr0 := fresh_of hfr
   have f1 := fresh_ne hfr hd
   have f2 := fresh_ne' hfr hd
   have f3 := fresh_ne hgn bd
   have f4 := fresh_ne' hgn bd
   have e1 := gen_ne hgn b6
   have e2 := gen_ne' hgn b6
   have hfr' := agreeBut_fresh' hd ag hgf (fun r i e => by rw [e] at bd; rw [hgf] at bd; cases bd)
   clear hgn hgn0
   conv => arg 3; simp only [subC, bodyOf, Tryz.f32, Option.getD_some]
   repeat' (first
    |(refine ⟨?_,?_⟩; focus ((repeat' (first|refine ⟨?_,?_⟩|refine .inr ?_)); all_goals kernel_rfl))
    |exact agb (by assumption)
    | (first|refine wp rfl ?_|refine spt rfl ?_|refine spf rfl ?_|(refine spl (fun hc => ?_) fun hc => ?_) <;> (try rw [beq_iff_eq] at hc) <;> try simp only [hc]|(refine gs (fun hb => ?_) fun hb => ?_) <;> try simp only [Bool.not_true, Bool.not_false] at hb|refine cp hN7 ?_|refine ct (c_Next l hl d _ _) (by simp only [go_sem, *] <;> rfl) ?_|refine finT hrel hd ?_ ?_ ?_ ?_ ?_)<;>try simp only [go_sem, *])
 | @pair ta tb hta htb =>
  have hkn : (tPair ta tb).kind = 3 := rfl
  have hka : (tPair ta tb).args = [ta, tb] := rfl
  have hnn : z.toNat - 1 = (z - 1).toNat := by omega
  rw [tyH_pair] at hm hth hb hz
  obtain ⟨x, ax, kx, wx, Tx⟩ := ihT ih (z - 1) g ta a
  obtain ⟨y, ay, ky, wy, Ty⟩ := ihT ih (z - 1) g tb ax
  have hN := c_N 10 [x, y] (by simp) (by simp [wx, wy])
  simp only [List.map_cons, List.map_nil] at hN
  clear ih hg
  refine ⟨_, ay, .pair (by rw [hnn]; exact kx) (by rw [hnn]; exact ky), fun d h o g0 w0 gen0 gen σ hd hrel hfr ⟨j0, j1, j3, j6, j8, b6, b8, bd, ag⟩ => ?_⟩
  refine AR_gen2 (fun gn hgn0 hgn => ?_)
  have hgf := fresh_of hgn
  have hres : Tryz.f32.results.toList = [.cell 8 31] := rfl
  have hfr0 := fresh_of hfr
  have f1 := fresh_ne hfr hd
  have f2 := fresh_ne' hfr hd
  have f3 := fresh_ne hgn bd
  have f4 := fresh_ne' hgn bd
  have e1 := gen_ne hgn b6
  have e2 := gen_ne' hgn b6
  have hfr' := agreeBut_fresh' hd ag hgf (fun r i e => by rw [e] at bd; rw [hgf] at bd; cases bd)
  clear hgn hgn0
  conv => arg 3; simp only [subC, bodyOf, Tryz.f32, Option.getD_some]
  have zq0 := Tx d
  have zq1 := Ty d
  exact wkT_
 | @func ta tb hta htb =>
  have hkn : (tFun ta tb).kind = 4 := rfl
  have hka : (tFun ta tb).args = [ta, tb] := rfl
  have hnn : z.toNat - 1 = (z - 1).toNat := by omega
  rw [tyH_fun] at hm hth hb hz
  obtain ⟨x, ax, kx, wx, Tx⟩ := ihT ih (z - 1) (g ++ [ta]) tb a
  have hN := c_T 2 ta [x] hta.W (by simp) (by simp [wx])
  have hL := c_longer g [ta] (by omega) (by simp)
  simp only [List.map_cons, List.map_nil] at hN hL
  clear ih hg
  refine ⟨_, ax, .lam (by rw [hnn]; exact kx), fun d h o g0 w0 gen0 gen σ hd hrel hfr ⟨j0, j1, j3, j6, j8, b6, b8, bd, ag⟩ => ?_⟩
  refine AR_gen2 (fun gn hgn0 hgn => ?_)
  have hgf := fresh_of hgn
  have hres : Tryz.f32.results.toList = [.cell 8 31] := rfl
  have hfr0 := fresh_of hfr
  have f1 := fresh_ne hfr hd
  have f2 := fresh_ne' hfr hd
  have f3 := fresh_ne hgn bd
  have f4 := fresh_ne' hgn bd
  have e1 := gen_ne hgn b6
  have e2 := gen_ne' hgn b6
  have hfr' := agreeBut_fresh' hd ag hgf (fun r i e => by rw [e] at bd; rw [hgf] at bd; cases bd)
  clear hgn hgn0
  conv => arg 3; simp only [subC, bodyOf, Tryz.f32, Option.getD_some]
  have zq0 := Tx d
  exact wkT_
end Go.Proofs.YtmbpmbofehmdaaaGreatDoor
