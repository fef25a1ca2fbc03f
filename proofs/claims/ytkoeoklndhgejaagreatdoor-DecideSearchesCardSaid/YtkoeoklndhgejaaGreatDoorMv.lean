/-
 Walks: several parts in one text.
-/
import Derived.Test.YtkoeoklndhgejaaGreatDoorMl
import Derived.Test.YtkoeoklndhgejaaGreatDoorMk
import Derived.Test.YtkoeoklndhgejaaGreatDoorAbsDc
import Derived.Test.YtkoeoklndhgejaaGreatDoorKb
import Derived.Test.YtkoeoklndhgejaaGreatDoorMh
import Derived.Test.YtkoeoklndhgejaaGreatDoorMr
import Derived.Test.YtkoeoklndhgejaaGreatDoorAbsDd
set_option linter.unusedSimpArgs false
set_option linter.unusedVariables false
set_option maxRecDepth 20000
set_option maxHeartbeats 4000000
namespace Go.Proofs.YtkoeoklndhgejaaGreatDoor
open Go GoAbs Go.Proofs
theorem c_ctxNumE {g : List Ty} {t : Tm} {s : List V} {e E : Int} (b : Bool) (hc : Pure Tryz.prog env 217 [.sl .any (g.map szC), .agg t.cells] (.tup [.agg s, .int .i64 e])) (hl : s.length = 3) (hw : weakL s = s) (ho : s.all oneV = true)
  (hi : Pure Tryz.prog env 218 [.agg s, .int .i64 1] (.bool b)) (hE : ((e != 0) = true ∧ E = e) ∨ (e = 0 ∧ b = false ∧ E = 7)) :
  Pure Tryz.prog env 162 [.sl .any (g.map szC), .agg t.cells] (.int .i64 E) := by
 have ht : List.take 3 s = s := List.take_of_length_le (by omega)
 have hsp : splice [V.int .i64 0, V.sl .full [], V.int .i64 0] 0 s = s := by
  match s, hl with
  | [x, y, z], _ => rfl
 have h0 : Pure Tryz.prog env 198 [.sl .any (g.map szC), .agg t.cells, .int .i64 1] (.int .i64 E) := by
  intro h
  rcases hE with ⟨he, rfl⟩ | ⟨rfl, rfl, rfl⟩
  ·have he2 : (E == 0) = false := by simpa using he
   clear he
   exact ek_ Tryz.func198 [.tmp 6]
  ·have z0 : ((0 : Int) == 0) = true := rfl
   exact ek_ Tryz.func198 [.tmp 6]
 intro h
 clear hc hi hE
 exact ek_ Tryz.func162 [.tmp 4]
theorem c_ctxT (f : Fm) (g : List Ty) (wf : FmW f) (hk : f.kind = 1) (i0 : Nat) (x0 : Tm) (E : Int) (he : (E != 0) = true) (hx0 : f.terms[i0]? = some x0)
  (ok : ∀ (j : Nat) (x : Tm), j < i0 → f.terms[j]? = some x → Pure Tryz.prog env 162 [.sl .any (g.map szC), .agg x.cells] (.int .i64 0))
  (bad : Pure Tryz.prog env 162 [.sl .any (g.map szC), .agg x0.cells] (.int .i64 E)) :
  Pure Tryz.prog env 114 [.sl .any (g.map szC), .agg f.cells] (.int .i64 E) := by
 intro h
 have hlen := wf.len
 have htlen := wf.tlen
 have hlx : i0 < f.terms.length := (List.getElem?_eq_some_iff.1 hx0).1
 have n0 : ((0 : Int) != 0) = false := rfl
 clear wf
 refine en_ Tryz.func114 [.tmp 4] fun g0 w0 gen hrel hfr hfr' hres => ?_
 refine wq_ ?_
 refine ar_ [0, 42] [] (fun i σ => Agree h σ.h ∧ i ≤ i0) (f.terms).length ?_ ?_ ?_
 ·simp only [go_sem, *]
  exact ⟨ag_, Nat.zero_le _⟩
 ·
  intro i σ gr1 hgl_gr1 hgn hlt jI jN jS ⟨jA, ji⟩
  obtain ⟨jT, jB⟩ := jS
  simp only [go_sem] at jT jB
  obtain ⟨hgf, hgf0, eg_gen_gr1, eh_gen_gr1⟩ := rnd hgn hgl_gr1 jA
  obtain ⟨x, hx, hxm, hm⟩ := rnx hlt
  clear hgn
  rcases Nat.lt_or_ge i i0 with hi | hi
  ·have h1 := ok i x hi hx
   clear ok bad hx0 ji
   refine wq_ ?_
   exact ⟨by repeat (first|exact jA|refine Agree.new ?_ (hgf0 _ _)), hi⟩
  ·obtain rfl : i = i0 := by omega
   rw [hx] at hx0
   cases hx0
   clear ok
   exact wk_
 ·
  intro σ ga1 hgl_ga1 hgn jS ⟨jA, ji⟩
  obtain ⟨jT, jB⟩ := jS
  simp only [go_sem] at jT jB
  obtain ⟨hgf, hgf0, eg_gen_ga1, eh_gen_ga1⟩ := rnd hgn hgl_ga1 jA
  clear hgn
  omega
theorem c_ctxA (f : Fm) (g : List Ty) (wf : FmW f) (hgl : g.length ≤ 10000) (hkind : f.kind = 2 ∨ f.kind = 3 ∨ f.kind = 4 ∨ f.kind = 5 ∨ f.kind = 6 ∨ f.kind = 7) (i0 : Nat) (x0 : Fm) (e : Int) (he : (e != 0) = true) (hx0 : f.args[i0]? = some x0)
  (ok : ∀ (j : Nat) (x : Fm), j < i0 → f.args[j]? = some x → Pure Tryz.prog env 114 [.sl .any ((if quant f.kind then g ++ [f.type] else g).map szC), .agg x.cells] (.int .i64 0))
  (bad : Pure Tryz.prog env 114 [.sl .any ((if quant f.kind then g ++ [f.type] else g).map szC), .agg x0.cells] (.int .i64 e)) :
  Pure Tryz.prog env 114 [.sl .any (g.map szC), .agg f.cells] (.int .i64 e) := by
 intro h
 have hlen := wf.len
 have htlen := wf.tlen
 have hlx : i0 < f.args.length := (List.getElem?_eq_some_iff.1 hx0).1
 have hwith := c_ctxWith g f.type wf.ty (by omega)
 have n0 : ((0 : Int) != 0) = false := rfl
 clear wf hgl
 rcases hkind with hk | hk | hk | hk | hk | hk
 all_goals
  rw [hk] at ok bad
  simp only [quant, Int.reduceBEq, Bool.or_true, Bool.true_or, Bool.or_self, Bool.or_false, Bool.false_or, if_true, if_false, Bool.false_eq_true] at ok bad
  refine en_ Tryz.func114 [.tmp 4] fun g0 w0 gen hrel hfr hfr' hres => ?_
  refine wq_ ?_
  refine ar_ [0, 3, 28] [⟨gen, 0, 0⟩] (fun i σ => Agree h σ.h ∧ i ≤ i0) (f.args).length ?_ ?_ ?_
  ·simp only [go_sem, *]
   exact ⟨ag_, Nat.zero_le _⟩
  ·
   intro i σ gr0 hgl_gr0 hgn hlt jI jN jS ⟨jA, ji⟩
   obtain ⟨jT, jB⟩ := jS
   simp only [go_sem] at jT jB
   obtain ⟨hgf, hgf0, eg_gen_gr0, eh_gen_gr0⟩ := rnd hgn hgl_gr0 jA
   obtain ⟨x, hx, hxm, hm⟩ := rnx hlt
   clear hgn
   rcases Nat.lt_or_ge i i0 with hi | hi
   ·have h1 := ok i x hi hx
    clear ok bad hx0 ji
    refine wq_ ?_
    exact ⟨by repeat (first|exact jA|refine Agree.new ?_ (hgf0 _ _)), hi⟩
   ·obtain rfl : i = i0 := by omega
    rw [hx] at hx0
    cases hx0
    clear ok
    exact wk_
  ·
   intro σ ga0 hgl_ga0 hgn jS ⟨jA, ji⟩
   obtain ⟨jT, jB⟩ := jS
   simp only [go_sem] at jT jB
   obtain ⟨hgf, hgf0, eg_gen_ga0, eh_gen_ga0⟩ := rnd hgn hgl_ga0 jA
   clear hgn
   omega
theorem c_ctxFormulaE {g : List Ty} {f : Fm} {e : Int} (h : FmEr g f e) : FmG true f → fmSz f ≤ 4096 → FmW f → (∀ y ∈ g, TyW y) → g.length + fmSz f ≤ 5000 →
  Pure Tryz.prog env 114 [.sl .any (g.map szC), .agg f.cells] (.int .i64 e) := by
 have er : ∀ {g : List Ty} {t : Tm} {e : Int}, TmEr g t e → TmG t → (∀ y ∈ g, TyW y) → TmW t → g.length + tmSz t ≤ 1000000 → Pure Tryz.prog env 162 [.sl .any (g.map szC), .agg t.cells] (.int .i64 e) :=
  fun h hG hg hW hb => c_ctxNumE _ (c_typeOfE h hG hg hW hb) rfl rfl rfl (c_sIs (.mk 0 []) 1 |> fun h => by
   have : szC (.mk 0 []) = zS := rfl
   rw [this] at h; exact h) (.inl ⟨h.ne, rfl⟩)
 have ty : ∀ {g : List Ty} {t : Tm} {s : Ty}, HasTy TyG g t s → TyG s → s ≠ tNat → (∀ y ∈ g, TyW y) → TmW t → g.length + tmSz t ≤ 1000000 → Pure Tryz.prog env 162 [.sl .any (g.map szC), .agg t.cells] (.int .i64 7) :=
  fun h gs hs hg hW hb => c_ctxNumE _ (c_typeOf h hg hW hb) rfl (weakL_sz _) rfl (c_sIs _ 1) (.inr ⟨rfl, by simpa using gs.notNat hs, rfl⟩)
 induction h with
 | @eq1 g x y e h1 =>
  intro gf zf wf hg hb
  rw [fmSz_eq] at zf hb
  have gx := gf.eqn.1
  exact c_ctxT _ g wf rfl 0 x e h1.ne rfl (fun j _ hj => absurd hj (by omega)) (er h1 gx hg (wf.term (by simp [fmEq, Fm.terms])) (by omega))
 | @eq1T g x y s h1 gs hs =>
  intro gf zf wf hg hb
  rw [fmSz_eq] at zf hb
  exact c_ctxT _ g wf rfl 0 x 7 rfl rfl (fun j _ hj => absurd hj (by omega)) (ty h1 gs hs hg (wf.term (by simp [fmEq, Fm.terms])) (by omega))
 | @eq2 g x y e h1 h2 =>
  intro gf zf wf hg hb
  rw [fmSz_eq] at zf hb
  obtain ⟨gx, gy⟩ := gf.eqn
  refine c_ctxT _ g wf rfl 1 y e h2.ne rfl (fun j z hj hz => ?_) (er h2 gy hg (wf.term (by simp [fmEq, Fm.terms])) (by omega))
  obtain rfl : j = 0 := by omega
  simp [fmEq, Fm.terms] at hz
  subst hz
  exact c_ctxNumber h1 hg (wf.term (by simp [fmEq, Fm.terms])) (by omega)
 | @eq2T g x y s h1 h2 gs hs =>
  intro gf zf wf hg hb
  rw [fmSz_eq] at zf hb
  refine c_ctxT _ g wf rfl 1 y 7 rfl rfl (fun j z hj hz => ?_) (ty h2 gs hs hg (wf.term (by simp [fmEq, Fm.terms])) (by omega))
  obtain rfl : j = 0 := by omega
  simp [fmEq, Fm.terms] at hz
  subst hz
  exact c_ctxNumber h1 hg (wf.term (by simp [fmEq, Fm.terms])) (by omega)
 | @two1 g k a b e hk h1 ih =>
  intro gf zf wf hg hb
  rw [fmSz_two] at zf hb
  obtain ⟨ga, gb⟩ := gf.twoA hk
  have hq : quant (fmTwo k a b).kind = false := by rcases hk with rfl | rfl <;> rfl
  refine c_ctxA _ g wf (by omega) (by rcases hk with rfl | rfl <;> simp [fmTwo, Fm.kind]) 0 a e h1.ne rfl (fun j _ hj => absurd hj (by omega)) ?_
  rw [hq]
  simp only [Bool.false_eq_true, if_false]
  exact ih ga (by omega) (wf.arg (by simp [fmTwo, Fm.args])) hg (by omega)
 | @two2 g k a b e hk h1 h2 ih =>
  intro gf zf wf hg hb
  rw [fmSz_two] at zf hb
  obtain ⟨ga, gb⟩ := gf.twoA hk
  have hq : quant (fmTwo k a b).kind = false := by rcases hk with rfl | rfl <;> rfl
  refine c_ctxA _ g wf (by omega) (by rcases hk with rfl | rfl <;> simp [fmTwo, Fm.kind]) 1 b e h2.ne rfl (fun j z hj hz => ?_) ?_
  ·obtain rfl : j = 0 := by omega
   simp [fmTwo, Fm.args] at hz
   subst hz
   rw [hq]
   simp only [Bool.false_eq_true, if_false]
   exact c_ctxFormula _ a g (Nat.le_refl _) h1 (by omega) (wf.arg (by simp [fmTwo, Fm.args])) hg (by omega)
  ·rw [hq]
   simp only [Bool.false_eq_true, if_false]
   exact ih gb (by omega) (wf.arg (by simp [fmTwo, Fm.args])) hg (by omega)
 | @q g k s a e hk gs h1 ih =>
  intro gf zf wf hg hb
  rw [fmSz_q] at zf hb
  have ga := gf.qA hk
  have hq : quant (fmQ k s a).kind = true := by rcases hk with rfl | rfl | rfl | rfl <;> rfl
  refine c_ctxA _ g wf (by omega) (by rcases hk with rfl | rfl | rfl | rfl <;> simp [fmQ, Fm.kind]) 0 a e h1.ne rfl (fun j _ hj => absurd hj (by omega)) ?_
  rw [hq]
  simp only [if_true]
  exact ih ga (by omega) (wf.arg (by simp [fmQ, Fm.args])) (by intro y hy; rcases List.mem_append.1 hy with hy | hy; exact hg y hy; simp [fmQ, Fm.type] at hy; subst hy; exact gs.1.W) (by simp; omega)
theorem c_typedBoth (g : List Ty) (hg : ∀ y ∈ g, TyG y) (hl : g.length ≤ 16) (f : Fm) (hf : FmX f) : ∃ e : Int, Pure Tryz.prog env 68 [.sl .any (g.map Ty.cells), .agg f.cells] (.int .i64 e) ∧
  Pure Tryz.prog env 46 [.sl .any (g.map Ty.cells), .agg f.cells] (.int .i64 e) ∧ (e = 0 → FmTy TyG g f ∧ FmG true f ∧ fmSz f ≤ 4096) := by
 obtain ⟨wf, hG⟩ := hf
 have gw : ∀ y ∈ g, TyW y := fun y hy => (hg y hy).1.W
 have p1 := c_typesContext2 g hg hl
 have p2 := c_fmCheck f wf
 have r1 := c_refContext g hg hl
 have r2 := c_refFmCheck f wf
 have n0 : ((0 : Int) != 0) = false := rfl
 by_cases he : fmErr f = 0
 ·obtain ⟨gf, zf⟩ := hG he
  rcases fm_total gf g hg with ht | ⟨e, hE⟩
  ·exact ⟨0, c_formulaTyped g hg hl f ht he zf wf, c_fmTyped g hg hl f ht gf zf wf, fun _ => ⟨ht, gf, zf⟩⟩
  ·have p3 := c_ctxFrom g gw (by omega)
   have p4 := c_ctxFormulaE hE gf zf wf gw (by omega)
   have r3 := c_typedE hE gf zf wf gw (by omega)
   rw [he] at p2 r2
   have hne := hE.ne
   refine ⟨e, ?_, ?_, fun e0 => by subst e0; cases hne⟩
   ·clear r1 r2 r3 hG hg hl gw hE
    intro h
    exact ek_ Tryz.func68 [.tmp 4]
   ·have r4 : Pure Tryz.prog env 96 [.sl .any (g.map Ty.cells), .agg f.cells] (.int .i64 e) := by
     clear p1 p2 p3 p4 r1 hG hg hl gw hE
     intro h
     exact ek_ Tryz.func96 [.tmp 4]
    clear p1 p2 p3 p4 r2 r3 hG hg hl gw hE
    intro h
    exact ek_ Tryz.func46 [.tmp 4]
 ·have hne : (fmErr f != 0) = true := by simpa using he
  refine ⟨fmErr f, ?_, ?_, fun e0 => absurd e0 he⟩
  ·clear r1 r2 hG hg hl gw he
   generalize fmErr f = e at *
   intro h
   exact ek_ Tryz.func68 [.tmp 4]
  ·have r4 : Pure Tryz.prog env 96 [.sl .any (g.map Ty.cells), .agg f.cells] (.int .i64 (fmErr f)) := by
    clear p1 p2 r1 hG hg hl gw he
    generalize fmErr f = e at *
    intro h
    exact ek_ Tryz.func96 [.tmp 4]
   clear p1 p2 r2 hG hg hl gw he
   generalize fmErr f = e at *
   intro h
   exact ek_ Tryz.func46 [.tmp 4]
def boundV9 (f : Fm) : V := if isBnd f then .tup [.bool (f.kind == 4), .agg ((bndTerm f).up (-1) 1).cells, .agg (bndBody f).cells, .bool true]
 else .tup [.bool false, .agg zeroT.cells, .agg zeroF.cells, .bool false]
theorem boundV9_no {f : Fm} (h : isBnd f = false) : boundV9 f = .tup [.bool false, .agg zeroT.cells, .agg zeroF.cells, .bool false] := by unfold boundV9; rw [h]; rfl
theorem c_r08bound (f : Fm) (hf : FmW f) (hg : f.good = true) (hk0 : f.kind = 4 ∨ f.kind = 5 ∨ f.kind = 6 ∨ f.kind = 7)
  (hh : ∀ a x u q : Fm × Tm, a.1 ∈ f.args → x.1 ∈ a.1.args → u.2 ∈ x.1.terms → q.2 ∈ u.2.args → q.2.hasV 0 = decide (q.2.count 0 > 0)) : Pure Tryz.prog env 119 [.agg f.cells] (boundV9 f) := by
 intro h
 obtain ⟨a, ha, ga⟩ := Fm.good_q hg hk0
 have wa : FmW a := hf.arg (by rw [ha]; simp)
 have hb4 : ((4 : Int) != 4) = false := rfl
 have hb5 : ((5 : Int) != 5) = false := rfl
 have hb6 : ((6 : Int) != 5) = true := rfl
 have hb7 : ((7 : Int) != 5) = true := rfl
 have hc4 : ((5 : Int) == 4) = false := rfl
 have hc6 : ((6 : Int) == 4) = false := rfl
 have hc7 : ((7 : Int) == 4) = false := rfl
 have hzt := zeroT_cells
 have hzf := zeroF_cells
 obtain hk | hk | hk : f.kind = 4 ∨ f.kind = 5 ∨ (f.kind = 6 ∨ f.kind = 7) := by omega
 rotate_left 2
 ·rw [boundV9_no (bnd_k hk)]
  rcases hk with hk | hk
  all_goals
   clear hk0 ga wa hf hg hh
   exact ek_ Tryz.func119 [.tmp 2, .cell 3 73, .cell 4 29, .tmp 5]
 ·cases k1 : (f.type.kind != 1) with
  | true =>
   rw [boundV9_no (bnd_ty k1)]
   clear hk0 ga wa hf hg hh
   exact ek_ Tryz.func119 [.tmp 2, .cell 3 73, .cell 4 29, .tmp 5]
  | false =>
  cases k2 : (a.kind != 3) with
  | true =>
   rw [boundV9_no (bnd_a4 hk ha k2)]
   clear hk0 ga wa hf hg hh
   exact ek_ Tryz.func119 [.tmp 2, .cell 3 73, .cell 4 29, .tmp 5]
  | false =>
  have hka : a.kind = 3 := by simpa using k2
  obtain ⟨x, y, hx, gx, gy⟩ := Fm.good_two ga (.inr hka)
  have wx : FmW x := wa.arg (by rw [hx]; simp)
  have wy : FmW y := wa.arg (by rw [hx]; simp)
  cases k3 : (x.kind != 1) with
  | true =>
   rw [boundV9_no (bnd_x ha hx k3)]
   clear hk0 ga wa hf hg gx gy wx wy hka hh
   exact ek_ Tryz.func119 [.tmp 2, .cell 3 73, .cell 4 29, .tmp 5]
  | false =>
  have hkx : x.kind = 1 := by simpa using k3
  obtain ⟨u, v, hu, gu, gv⟩ := Fm.good_eqn gx hkx
  have wu : TmW u := wx.term (by rw [hu]; simp)
  cases k4 : (u.kind != 3) with
  | true =>
   rw [boundV9_no (bnd_u ha hx hu k4)]
   clear hk0 ga wa hf hg gx gy wx wy hka hkx wu gu gv hh
   exact ek_ Tryz.func119 [.tmp 2, .cell 3 73, .cell 4 29, .tmp 5]
  | false =>
  have hku : u.kind = 3 := by simpa using k4
  obtain ⟨p, q, hq, gp, gq⟩ := Tm.good_app gu hku
  have wq : TmW q := wu.arg (by rw [hq]; simp)
  have hC := c_r03Has q wq 0
  rw [hh (a, zeroT) (x, zeroT) (zeroF, u) (zeroF, q) (by rw [ha]; simp) (by rw [hx]; simp) (by rw [hu]; simp) (by rw [hq]; simp)] at hC
  have hL := c_less08 (tmVar 0) q (tmVar_W 0) wq
  have hV := c_Var 0
  have hS := c_refFmSame x wx _ (lessF_W (tmVar_W 0) wq)
  have hU := c_tmUp (-1) q wq 1
  have hD := c_tmCopy (q.up (-1) 1) (tm_upW (b := -1) q 1 wq)
  have hE := c_fmCopy y wy
  clear hh
  cases k5 : decide (q.count 0 > 0) with
  | true =>
   rw [boundV9_no (bnd_q ha hx hu hq k5)]
   rw [k5] at hC
   clear hk0 ga wa hf hg gx gy wx wy hka hkx wu gu gv gp gq hku wq hL hV hS hU hD hE
   exact ek_ Tryz.func119 [.tmp 2, .cell 3 73, .cell 4 29, .tmp 5]
  | false =>
  rw [k5] at hC
  cases k6 : Fm.same x (lessF (tmVar 0) q) with
  | false =>
   rw [boundV9_no (bnd_s ha hx hu hq k6)]
   rw [k6] at hS
   clear hk0 ga wa hf hg gx gy wx wy hka hkx wu gu gv gp gq hku wq k6 hU hD hE
   generalize lessF (tmVar 0) q = z at *
   exact ek_ Tryz.func119 [.tmp 2, .cell 3 73, .cell 4 29, .tmp 5]
  | true =>
   obtain ⟨e1, e2, e3⟩ := bnd_yes (.inl ⟨hk, k2⟩) k1 ha hx k3 hu k4 hq k5 k6
   unfold boundV9
   rw [e1, e2, e3]
   rw [k6] at hS
   clear hk0 ga wa hf hg gx gy wx wy hka hkx wu gu gv gp gq hku wq k6 e1 e2 e3
   generalize lessF (tmVar 0) q = z at *
   generalize q.up (-1) 1 = q' at *
   exact ek_ Tryz.func119 [.tmp 2, .cell 3 73, .cell 4 29, .tmp 5]
 ·cases k1 : (f.type.kind != 1) with
  | true =>
   rw [boundV9_no (bnd_ty k1)]
   clear hk0 ga wa hf hg hh
   exact ek_ Tryz.func119 [.tmp 2, .cell 3 73, .cell 4 29, .tmp 5]
  | false =>
  cases k2 : (a.kind != 2) with
  | true =>
   rw [boundV9_no (bnd_a5 hk ha k2)]
   clear hk0 ga wa hf hg hh
   exact ek_ Tryz.func119 [.tmp 2, .cell 3 73, .cell 4 29, .tmp 5]
  | false =>
  have hka : a.kind = 2 := by simpa using k2
  obtain ⟨x, y, hx, gx, gy⟩ := Fm.good_two ga (.inl hka)
  have wx : FmW x := wa.arg (by rw [hx]; simp)
  have wy : FmW y := wa.arg (by rw [hx]; simp)
  cases k3 : (x.kind != 1) with
  | true =>
   rw [boundV9_no (bnd_x ha hx k3)]
   clear hk0 ga wa hf hg gx gy wx wy hka hh
   exact ek_ Tryz.func119 [.tmp 2, .cell 3 73, .cell 4 29, .tmp 5]
  | false =>
  have hkx : x.kind = 1 := by simpa using k3
  obtain ⟨u, v, hu, gu, gv⟩ := Fm.good_eqn gx hkx
  have wu : TmW u := wx.term (by rw [hu]; simp)
  cases k4 : (u.kind != 3) with
  | true =>
   rw [boundV9_no (bnd_u ha hx hu k4)]
   clear hk0 ga wa hf hg gx gy wx wy hka hkx wu gu gv hh
   exact ek_ Tryz.func119 [.tmp 2, .cell 3 73, .cell 4 29, .tmp 5]
  | false =>
  have hku : u.kind = 3 := by simpa using k4
  obtain ⟨p, q, hq, gp, gq⟩ := Tm.good_app gu hku
  have wq : TmW q := wu.arg (by rw [hq]; simp)
  have hC := c_r03Has q wq 0
  rw [hh (a, zeroT) (x, zeroT) (zeroF, u) (zeroF, q) (by rw [ha]; simp) (by rw [hx]; simp) (by rw [hu]; simp) (by rw [hq]; simp)] at hC
  have hL := c_less08 (tmVar 0) q (tmVar_W 0) wq
  have hV := c_Var 0
  have hS := c_refFmSame x wx _ (lessF_W (tmVar_W 0) wq)
  have hU := c_tmUp (-1) q wq 1
  have hD := c_tmCopy (q.up (-1) 1) (tm_upW (b := -1) q 1 wq)
  have hE := c_fmCopy y wy
  clear hh
  cases k5 : decide (q.count 0 > 0) with
  | true =>
   rw [boundV9_no (bnd_q ha hx hu hq k5)]
   rw [k5] at hC
   clear hk0 ga wa hf hg gx gy wx wy hka hkx wu gu gv gp gq hku wq hL hV hS hU hD hE
   exact ek_ Tryz.func119 [.tmp 2, .cell 3 73, .cell 4 29, .tmp 5]
  | false =>
  rw [k5] at hC
  cases k6 : Fm.same x (lessF (tmVar 0) q) with
  | false =>
   rw [boundV9_no (bnd_s ha hx hu hq k6)]
   rw [k6] at hS
   clear hk0 ga wa hf hg gx gy wx wy hka hkx wu gu gv gp gq hku wq k6 hU hD hE
   generalize lessF (tmVar 0) q = z at *
   exact ek_ Tryz.func119 [.tmp 2, .cell 3 73, .cell 4 29, .tmp 5]
  | true =>
   obtain ⟨e1, e2, e3⟩ := bnd_yes (.inr ⟨hk, k2⟩) k1 ha hx k3 hu k4 hq k5 k6
   unfold boundV9
   rw [e1, e2, e3]
   rw [k6] at hS
   clear hk0 ga wa hf hg gx gy wx wy hka hkx wu gu gv gp gq hku wq k6 e1 e2 e3
   generalize lessF (tmVar 0) q = z at *
   generalize q.up (-1) 1 = q' at *
   exact ek_ Tryz.func119 [.tmp 2, .cell 3 73, .cell 4 29, .tmp 5]
theorem c_r08dec : ∀ (n : Nat) {f : Fm}, fmSz f ≤ n → n ≤ 50000 → FmG true f → f.least 536870912 = true → f.good = true → FmW f → Pure Tryz.prog env 70 [.agg f.cells] (.bool f.fl.d) := by
 intro n
 induction n with
 | zero =>
  intro f hn
  obtain ⟨k, t, l, a⟩ := f
  rw [fmSz] at hn
  omega
 | succ n ih =>
  intro f hn hb gf lf hg wf
  cases gf with
  | @eq x y _ _ =>
   rw [Fm.fl_eqn]
   have e : (fmEq x y).cells = [.int .i64 1, .int .i64 0, .sl .any [], .sl .any [x.cells, y.cells], .sl .any []] := by rw [fmEq, Fm.mk_cells]; rfl
   rw [e]
   clear e ih hn hg wf lf
   intro h
   exact ek_ Tryz.func70 [.tmp 2]
  | @two k a b hk ga gb =>
   rw [fmSz_two] at hn
   rw [Fm.fl_two hk]
   obtain ⟨a', b', eab, ja, jb⟩ := Fm.good_two hg hk
   simp only [fmTwo, Fm.args, List.cons.injEq, and_true] at eab
   obtain ⟨rfl, rfl⟩ := eab
   have h1 := ih (by omega) (by omega) ga (least_args lf (by simp [fmTwo, Fm.args])) ja (wf.arg (by simp [fmTwo, Fm.args]))
   have h2 := ih (by omega) (by omega) gb (least_args lf (by simp [fmTwo, Fm.args])) jb (wf.arg (by simp [fmTwo, Fm.args]))
   have e : (fmTwo k a b).cells = [.int .i64 k, .int .i64 0, .sl .any [], .sl .any [], .sl .any [a.cells, b.cells]] := by rw [fmTwo, Fm.mk_cells]; rfl
   rw [e]
   simp only
   generalize a.fl.d = p at *
   generalize b.fl.d = q at *
   clear e ih hn hg wf lf ga gb ja jb
   intro h
   cases p with
   | true =>
    rw [Bool.true_and]
    rcases hk with rfl | rfl
    ·
     exact ek_ Tryz.func70 [.tmp 2]
    ·
     exact ek_ Tryz.func70 [.tmp 2]
   | false =>
    rw [Bool.false_and]
    rcases hk with rfl | rfl
    ·
     exact ek_ Tryz.func70 [.tmp 2]
    ·
     exact ek_ Tryz.func70 [.tmp 2]
  | @q k s a hk hs ga =>
   have gf : FmG true (fmQ k s a) := .q hk hs ga
   have hk' : k = 4 ∨ k = 5 ∨ k = 6 ∨ k = 7 := by rcases hk with h | h | ⟨_, h | h⟩ <;> simp [h]
   have h1 := c_r08bound (fmQ k s a) wf hg hk' (gf.hasQ lf (by omega))
   have h4 : 4 ≤ (fmQ k s a).kind := by
    have : (fmQ k s a).kind = k := rfl
    omega
   have hkk : (fmQ k s a).kind = 4 ∨ (fmQ k s a).kind = 5 ∨ (fmQ k s a).kind = 6 ∨ (fmQ k s a).kind = 7 := hk'
   have z1 : ((4 : Int) == 1) = false := rfl
   have z2 : ((5 : Int) == 1) = false := rfl
   have z3 : ((6 : Int) == 1) = false := rfl
   have z4 : ((7 : Int) == 1) = false := rfl
   cases hbn : isBnd (fmQ k s a) with
   | false =>
    rw [boundV9_no hbn] at h1
    rw [Fm.fl_qn h4 rfl hbn]
    have hzt := zeroT_cells
    have hzf := zeroF_cells
    clear ih hn hg wf lf ga gf hk hk' h4 hs hbn
    generalize fmQ k s a = f at *
    intro h
    rcases hkk with hk | hk | hk | hk
    all_goals
     exact ek_ Tryz.func70 [.tmp 2]
   | true =>
    obtain ⟨x, y, hx, hy, jy⟩ := bnd_body (f := fmQ k s a) rfl (by
     obtain ⟨a', ea, ja⟩ := Fm.good_q hg hk'
     simp only [fmQ, Fm.args, List.cons.injEq, and_true] at ea
     subst ea
     exact ja) hbn
    have ha : a ∈ (fmQ k s a).args := by simp [fmQ, Fm.args]
    have hya : y ∈ a.args := by rw [hx]; simp
    have s1 := fmSz_arg ha
    have s2 := fmSz_arg hya
    have h2 := ih (f := y) (by omega) (by omega) (ga.argG hya) (least_args (least_args lf ha) hya) jy ((wf.arg ha).arg hya)
    rw [Fm.fl_qb h4 rfl hbn hx]
    unfold boundV9 at h1
    rw [hbn, hy] at h1
    simp only [if_true] at h1
    simp only
    generalize y.fl.d = p at *
    clear ih hn hg wf lf ga gf hk hk' h4 hs hbn hx hy jy ha hya s1 s2
    generalize bndTerm (fmQ k s a) = tq at *
    generalize tq.up (-1) 1 = tq at *
    generalize fmQ k s a = f at *
    generalize (f.kind == 4) = kb at *
    intro h
    rcases hkk with hk | hk | hk | hk
    all_goals
     exact ek_ Tryz.func70 [.tmp 2]
end Go.Proofs.YtkoeoklndhgejaaGreatDoor
