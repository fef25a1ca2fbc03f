/-
 Walks: redexes (references).
-/
import Derived.Test.YtpnjamplciaopaaGreatDoorGq
import Derived.Test.YtpnjamplciaopaaGreatDoorVe
import Derived.Test.YtpnjamplciaopaaGreatDoorVd
import Derived.Test.YtpnjamplciaopaaGreatDoorAbsDc
set_option linter.unusedSimpArgs false
set_option linter.unusedVariables false
set_option maxRecDepth 20000
set_option maxHeartbeats 4000000
namespace Go.Proofs.YtpnjamplciaopaaGreatDoor
open Go GoAbs Go.Proofs
theorem args_of {t : Tm} (h : TmG t) {n : Int} (ha : arity t.kind = some n) : (t.args.length : Int) = n := by
 cases h with
 | @plain k l a h1 h2 => have : a = n := Option.some.inj (h1.symm.trans ha); rw [← this]; exact h2
 | var => have e : arity 1 = some 0 := rfl; have : (0 : Int) = n := Option.some.inj (e.symm.trans ha); rw [← this]; rfl
 | @typd k t l a h1 h2 => have : a = n := Option.some.inj (h1.symm.trans ha); rw [← this]; exact h2
theorem args1 {t : Tm} (h : TmG t) (ha : arity t.kind = some 1) : ∃ p, t.args = [p] := lst1 (by have := args_of h ha; omega)
theorem args2 {t : Tm} (h : TmG t) (ha : arity t.kind = some 2) : ∃ p q, t.args = [p, q] := lst2 (by have := args_of h ha; omega)
theorem args3 {t : Tm} (h : TmG t) (ha : arity t.kind = some 3) : ∃ p q r, t.args = [p, q, r] := lst3 (by have := args_of h ha; omega)
theorem c_Root (t : Tm) (hG : TmG t) : Pure Tryz.prog env 160 [.agg t.cells] (.bool t.root) := by
 intro h
 unfold Tm.root
 by_cases k3 : t.kind = 3
 ·obtain ⟨p, q, e⟩ := args2 hG (by rw [k3]; rfl)
  have e0 : ta t 0 = p := ta_at (by rw [e]; rfl)
  rw [k3, e0]
  clear hG
  simp only [beq_self_eq_true, if_true]
  refine en Tryz.func160 [.tmp 2] rfl rfl fun g0 w0 gen hrel hfr hfr' hres => ?_
  repeat' (first
   | exact hin _ | exact agf (by assumption)
   | (first | refine wp rfl ?_ | refine spt rfl ?_ | refine spf rfl ?_ | (refine spl (fun hc => ?_) fun hc => ?_) <;> (try rw [beq_iff_eq] at hc) <;> try simp only [hc] | (refine gs (fun hb => ?_) fun hb => ?_) <;> try simp only [Bool.not_true, Bool.not_false] at hb | refine finF hrel ?_ ?_ ?_) <;> try simp only [go_sem, *])
 by_cases k6 : t.kind = 6
 ·obtain ⟨p, q, r, e⟩ := args3 hG (by rw [k6]; rfl)
  have e0 : ta t 2 = r := ta_at (by rw [e]; rfl)
  have c3 : ((6 : Int) == 3) = false := rfl
  rw [k6, e0, c3]
  clear hG
  simp only [beq_self_eq_true, if_true, Bool.false_eq_true, if_false]
  cases h4 : (r.kind == 4)
  all_goals
   cases h5 : (r.kind == 5)
   all_goals
    simp only [Bool.or_self, Bool.or_true, Bool.true_or]
    refine en Tryz.func160 [.tmp 2] rfl rfl fun g0 w0 gen hrel hfr hfr' hres => ?_
    repeat' (first
     | exact hin _ | exact agf (by assumption)
     | (first | refine wp rfl ?_ | refine spt rfl ?_ | refine spf rfl ?_ | (refine spl (fun hc => ?_) fun hc => ?_) <;> (try rw [beq_iff_eq] at hc) <;> try simp only [hc] | (refine gs (fun hb => ?_) fun hb => ?_) <;> try simp only [Bool.not_true, Bool.not_false] at hb | refine finF hrel ?_ ?_ ?_) <;> try simp only [go_sem, *])
 by_cases k9 : t.kind = 9
 ·obtain ⟨p, q, r, e⟩ := args3 hG (by rw [k9]; rfl)
  have e0 : ta t 2 = r := ta_at (by rw [e]; rfl)
  have c3 : ((9 : Int) == 3) = false := rfl
  have c6 : ((9 : Int) == 6) = false := rfl
  rw [k9, e0, c3, c6]
  clear hG
  simp only [beq_self_eq_true, if_true, Bool.false_eq_true, if_false]
  cases h4 : (r.kind == 7)
  all_goals
   cases h5 : (r.kind == 8)
   all_goals
    simp only [Bool.or_self, Bool.or_true, Bool.true_or]
    refine en Tryz.func160 [.tmp 2] rfl rfl fun g0 w0 gen hrel hfr hfr' hres => ?_
    repeat' (first
     | exact hin _ | exact agf (by assumption)
     | (first | refine wp rfl ?_ | refine spt rfl ?_ | refine spf rfl ?_ | (refine spl (fun hc => ?_) fun hc => ?_) <;> (try rw [beq_iff_eq] at hc) <;> try simp only [hc] | (refine gs (fun hb => ?_) fun hb => ?_) <;> try simp only [Bool.not_true, Bool.not_false] at hb | refine finF hrel ?_ ?_ ?_) <;> try simp only [go_sem, *])
 by_cases k11 : t.kind = 11
 ·obtain ⟨p, e⟩ := args1 hG (by rw [k11]; rfl)
  have e0 : ta t 0 = p := ta_at (by rw [e]; rfl)
  rw [k11, e0]
  clear hG
  simp only [Int.reduceBEq, Bool.true_or, if_true, Bool.false_eq_true, if_false]
  refine en Tryz.func160 [.tmp 2] rfl rfl fun g0 w0 gen hrel hfr hfr' hres => ?_
  repeat' (first
   | exact hin _ | exact agf (by assumption)
   | (first | refine wp rfl ?_ | refine spt rfl ?_ | refine spf rfl ?_ | (refine spl (fun hc => ?_) fun hc => ?_) <;> (try rw [beq_iff_eq] at hc) <;> try simp only [hc] | (refine gs (fun hb => ?_) fun hb => ?_) <;> try simp only [Bool.not_true, Bool.not_false] at hb | refine finF hrel ?_ ?_ ?_) <;> try simp only [go_sem, *])
 by_cases k12 : t.kind = 12
 ·obtain ⟨p, e⟩ := args1 hG (by rw [k12]; rfl)
  have e0 : ta t 0 = p := ta_at (by rw [e]; rfl)
  rw [k12, e0]
  clear hG
  simp only [Int.reduceBEq, Bool.or_true, if_true, Bool.false_eq_true, if_false]
  refine en Tryz.func160 [.tmp 2] rfl rfl fun g0 w0 gen hrel hfr hfr' hres => ?_
  repeat' (first
   | exact hin _ | exact agf (by assumption)
   | (first | refine wp rfl ?_ | refine spt rfl ?_ | refine spf rfl ?_ | (refine spl (fun hc => ?_) fun hc => ?_) <;> (try rw [beq_iff_eq] at hc) <;> try simp only [hc] | (refine gs (fun hb => ?_) fun hb => ?_) <;> try simp only [Bool.not_true, Bool.not_false] at hb | refine finF hrel ?_ ?_ ?_) <;> try simp only [go_sem, *])
 have c3 : (t.kind == 3) = false := by simpa using k3
 have c6 : (t.kind == 6) = false := by simpa using k6
 have c9 : (t.kind == 9) = false := by simpa using k9
 have c11 : (t.kind == 11) = false := by simpa using k11
 have c12 : (t.kind == 12) = false := by simpa using k12
 clear k3 k6 k9 k11 k12 hG
 simp only [c3, c6, c9, c11, c12, Bool.or_self, Bool.false_eq_true, if_false]
 refine en Tryz.func160 [.tmp 2] rfl rfl fun g0 w0 gen hrel hfr hfr' hres => ?_
 repeat' (first
  | exact hin _ | exact agf (by assumption)
  | (first | refine wp rfl ?_ | refine spt rfl ?_ | refine spf rfl ?_ | (refine spl (fun hc => ?_) fun hc => ?_) <;> (try rw [beq_iff_eq] at hc) <;> try simp only [hc] | (refine gs (fun hb => ?_) fun hb => ?_) <;> try simp only [Bool.not_true, Bool.not_false] at hb | refine finF hrel ?_ ?_ ?_) <;> try simp only [go_sem, *])
theorem c_reduced {g : List Ty} {t : Tm} {s : Ty} (hT : HasTy TyG g t s) (hr : t.root = true) (hw : TmW t) : Pure Tryz.prog env 162 [.agg t.cells] (.agg t.red.cells) := by
 intro h
 cases hT with
 | var => simp [Tm.root, tmVar, Tm.kind] at hr
 | lam => simp [Tm.root, tmT, Tm.kind] at hr
 | n0 hN => cases hN <;> simp [Tm.root, tmT, Tm.kind] at hr
 | @n1 _ k ty _ a x hN h1 =>
  cases hN with
  | succ => simp [Tm.root, tmT, Tm.kind] at hr
  | fst =>
   have hk : x.kind = 10 := by simpa [Tm.root, tmT, Tm.kind, ta, Tm.args] using hr
   obtain ⟨ty', a', b', y, z, e, rfl, h2, h3⟩ := h1.inv_pair hk
   have e2 : (tmT 11 ty [tmT 10 ty' [y, z]]).red = y := rfl
   have f1 : (tmT 11 ty [tmT 10 ty' [y, z]]).kind = 11 := rfl
   have f2 : (tmT 11 ty [tmT 10 ty' [y, z]]).args = [tmT 10 ty' [y, z]] := rfl
   have f3 : (tmT 10 ty' [y, z]).args = [y, z] := rfl
   rw [e2]
   clear h1 h2 h3 hr hw hk e e2
   generalize tmT 11 ty [tmT 10 ty' [y, z]] = t at *
   generalize tmT 10 ty' [y, z] = u at *
   refine en Tryz.func162 [.cell 2 31] rfl rfl fun g0 w0 gen hrel hfr hfr' hres => ?_
   repeat' (first
    | (refine ⟨?_, ?_⟩; focus ((repeat' (first | refine And.intro ?_ ?_ | refine Or.inr ?_)); all_goals kernel_rfl))
    | exact hin _ | exact agf (by assumption)
    | (first | refine wp rfl ?_ | refine spt rfl ?_ | refine spf rfl ?_ | (refine spl (fun hc => ?_) fun hc => ?_) <;> (try rw [beq_iff_eq] at hc) <;> try simp only [hc] | refine finF hrel ?_ ?_ ?_) <;> try simp only [go_sem, *])
  | snd =>
   have hk : x.kind = 10 := by simpa [Tm.root, tmT, Tm.kind, ta, Tm.args] using hr
   obtain ⟨ty', a', b', y, z, e, rfl, h2, h3⟩ := h1.inv_pair hk
   have e2 : (tmT 12 ty [tmT 10 ty' [y, z]]).red = z := rfl
   have f1 : (tmT 12 ty [tmT 10 ty' [y, z]]).kind = 12 := rfl
   have f2 : (tmT 12 ty [tmT 10 ty' [y, z]]).args = [tmT 10 ty' [y, z]] := rfl
   have f3 : (tmT 10 ty' [y, z]).args = [y, z] := rfl
   rw [e2]
   clear h1 h2 h3 hr hw hk e e2
   generalize tmT 12 ty [tmT 10 ty' [y, z]] = t at *
   generalize tmT 10 ty' [y, z] = u at *
   refine en Tryz.func162 [.cell 2 31] rfl rfl fun g0 w0 gen hrel hfr hfr' hres => ?_
   repeat' (first
    | (refine ⟨?_, ?_⟩; focus ((repeat' (first | refine And.intro ?_ ?_ | refine Or.inr ?_)); all_goals kernel_rfl))
    | exact hin _ | exact agf (by assumption)
    | (first | refine wp rfl ?_ | refine spt rfl ?_ | refine spf rfl ?_ | (refine spl (fun hc => ?_) fun hc => ?_) <;> (try rw [beq_iff_eq] at hc) <;> try simp only [hc] | refine finF hrel ?_ ?_ ?_) <;> try simp only [go_sem, *])
 | @n2 _ k ty _ a b x y hN h1 h2 =>
  cases hN with
  | app =>
   have hk : x.kind = 2 := by simpa [Tm.root, tmT, Tm.kind, ta, Tm.args] using hr
   obtain ⟨a', b', z, e, rfl, h3⟩ := h1.inv_lam hk
   have wy : TmW y := hw.arg (by simp [tmT, Tm.args])
   have wl : TmW (tmT 2 a' [z]) := hw.arg (by simp [tmT, Tm.args])
   have wz : TmW z := wl.arg (by simp [tmT, Tm.args])
   have hI := c_tmIn y wy 0 z wz 0
   have e2 : (tmT 3 ty [tmT 2 a' [z], y]).red = tmInn y 0 z 0 := rfl
   have f1 : (tmT 3 ty [tmT 2 a' [z], y]).kind = 3 := rfl
   have f2 : (tmT 3 ty [tmT 2 a' [z], y]).args = [tmT 2 a' [z], y] := rfl
   have f3 : (tmT 2 a' [z]).args = [z] := rfl
   rw [e2]
   clear h1 h2 h3 hr hw hk e e2 wy wl wz
   generalize tmT 3 ty [tmT 2 a' [z], y] = t at *
   generalize tmT 2 a' [z] = u at *
   generalize tmInn y 0 z 0 = v at *
   refine en Tryz.func162 [.cell 2 31] rfl rfl fun g0 w0 gen hrel hfr hfr' hres => ?_
   repeat' (first
    | (refine ⟨?_, ?_⟩; focus ((repeat' (first | refine And.intro ?_ ?_ | refine Or.inr ?_)); all_goals kernel_rfl))
    | exact hin _ | exact agf (by assumption)
    | (first | refine wp rfl ?_ | refine spt rfl ?_ | refine spf rfl ?_ | (refine spl (fun hc => ?_) fun hc => ?_) <;> (try rw [beq_iff_eq] at hc) <;> try simp only [hc] | refine cp (hI) ?_ | refine finF hrel ?_ ?_ ?_) <;> try simp only [go_sem, *])
  | cons => simp [Tm.root, tmT, Tm.kind] at hr
  | pair => simp [Tm.root, tmT, Tm.kind] at hr
 | @n3 _ k ty _ a b c x y z hN h1 h2 h3 =>
  have wx : TmW x := hw.arg (by simp [tmT, Tm.args])
  have wy : TmW y := hw.arg (by simp [tmT, Tm.args])
  have wz : TmW z := hw.arg (by simp [tmT, Tm.args])
  have wt := hw.ty
  cases hN with
  | recr =>
   have hk : z.kind = 4 ∨ z.kind = 5 := by simpa [Tm.root, tmT, Tm.kind, ta, Tm.args] using hr
   have e2 : (tmT 6 s [x, y, z]).red = if z.kind == 4 then x else tm0 3 [tm0 3 [y, ta z 0], tmT 6 s [x, y, ta z 0]] := rfl
   have f1 : (tmT 6 s [x, y, z]).kind = 6 := rfl
   have f2 : (tmT 6 s [x, y, z]).args = [x, y, z] := rfl
   have f3 : (tmT 6 s [x, y, z]).type = s := rfl
   rw [e2]
   rcases hk with hk | hk
   ·rw [hk]
    simp only [beq_self_eq_true, if_true]
    clear h1 h2 h3 hr hw e2 wx wy wz wt
    generalize tmT 6 s [x, y, z] = t at *
    refine en Tryz.func162 [.cell 2 31] rfl rfl fun g0 w0 gen hrel hfr hfr' hres => ?_
    repeat' (first
     | (refine ⟨?_, ?_⟩; focus ((repeat' (first | refine And.intro ?_ ?_ | refine Or.inr ?_)); all_goals kernel_rfl))
     | exact hin _ | exact agf (by assumption)
     | (first | refine wp rfl ?_ | refine spt rfl ?_ | refine spf rfl ?_ | (refine spl (fun hc => ?_) fun hc => ?_) <;> (try rw [beq_iff_eq] at hc) <;> try simp only [hc] | refine finF hrel ?_ ?_ ?_) <;> try simp only [go_sem, *])
   ·have hk' : (z.kind == 4) = false := by rw [hk]; rfl
    obtain ⟨ty', m, rfl, hm⟩ := h3.inv_succ hk
    have wm : TmW m := wz.arg (by simp [tmT, Tm.args])
    have em : ta (tmT 5 ty' [m]) 0 = m := rfl
    have f4 : (tmT 5 ty' [m]).args = [m] := rfl
    have wA : TmW (tm0 3 [y, m]) := tm0_W2 wy wm
    have wB : TmW (tmT 6 s [x, y, m]) := tmT_W3 wt wx wy wm
    have r1 := c_N 3 [y, m] (by simp) (by simp [wy, wm])
    have r2 := c_T 6 s [x, y, m] wt (by simp) (by simp [wx, wy, wm])
    have r3 := c_N 3 [tm0 3 [y, m], tmT 6 s [x, y, m]] (by simp) (by simp [wA, wB])
    simp only [List.map_cons, List.map_nil] at r1 r2 r3
    rw [hk', em]
    simp only [Bool.false_eq_true, if_false]
    clear h1 h2 h3 hr hw e2 wx wy wz wt wm hm em wA wB hk
    generalize tmT 6 s [x, y, tmT 5 ty' [m]] = t at *
    generalize tmT 5 ty' [m] = u at *
    generalize tm0 3 [tm0 3 [y, m], tmT 6 s [x, y, m]] = v3 at *
    generalize tm0 3 [y, m] = v1 at *
    generalize tmT 6 s [x, y, m] = v2 at *
    refine en Tryz.func162 [.cell 2 31] rfl rfl fun g0 w0 gen hrel hfr hfr' hres => ?_
    repeat' (first
     | (refine ⟨?_, ?_⟩; focus ((repeat' (first | refine And.intro ?_ ?_ | refine Or.inr ?_)); all_goals kernel_rfl))
     | exact hin _ | exact agf (by assumption)
     | (first | refine wp rfl ?_ | refine spt rfl ?_ | refine spf rfl ?_ | (refine spl (fun hc => ?_) fun hc => ?_) <;> (try rw [beq_iff_eq] at hc) <;> try simp only [hc] | refine cp (r1) ?_ | refine cp (r2) ?_ | refine cp (r3) ?_ | refine finF hrel ?_ ?_ ?_) <;> try simp only [go_sem, *])
  | fold =>
   have hk : z.kind = 7 ∨ z.kind = 8 := by simpa [Tm.root, tmT, Tm.kind, ta, Tm.args] using hr
   have e2 : (tmT 9 s [x, y, z]).red = if z.kind == 7 then x else tm0 3 [tm0 3 [tm0 3 [y, ta z 0], ta z 1], tmT 9 s [x, y, ta z 1]] := rfl
   have f1 : (tmT 9 s [x, y, z]).kind = 9 := rfl
   have f2 : (tmT 9 s [x, y, z]).args = [x, y, z] := rfl
   have f3 : (tmT 9 s [x, y, z]).type = s := rfl
   rw [e2]
   rcases hk with hk | hk
   ·rw [hk]
    simp only [beq_self_eq_true, if_true]
    clear h1 h2 h3 hr hw e2 wx wy wz wt
    generalize tmT 9 s [x, y, z] = t at *
    refine en Tryz.func162 [.cell 2 31] rfl rfl fun g0 w0 gen hrel hfr hfr' hres => ?_
    repeat' (first
     | (refine ⟨?_, ?_⟩; focus ((repeat' (first | refine And.intro ?_ ?_ | refine Or.inr ?_)); all_goals kernel_rfl))
     | exact hin _ | exact agf (by assumption)
     | (first | refine wp rfl ?_ | refine spt rfl ?_ | refine spf rfl ?_ | (refine spl (fun hc => ?_) fun hc => ?_) <;> (try rw [beq_iff_eq] at hc) <;> try simp only [hc] | refine finF hrel ?_ ?_ ?_) <;> try simp only [go_sem, *])
   ·have hk' : (z.kind == 7) = false := by rw [hk]; rfl
    obtain ⟨ty', m, n, rfl, hm, hn⟩ := h3.inv_cons hk
    have wm : TmW m := wz.arg (by simp [tmT, Tm.args])
    have wn : TmW n := wz.arg (by simp [tmT, Tm.args])
    have em : ta (tmT 8 ty' [m, n]) 0 = m := rfl
    have en : ta (tmT 8 ty' [m, n]) 1 = n := rfl
    have f4 : (tmT 8 ty' [m, n]).args = [m, n] := rfl
    have wA : TmW (tm0 3 [y, m]) := tm0_W2 wy wm
    have wA2 : TmW (tm0 3 [tm0 3 [y, m], n]) := tm0_W2 wA wn
    have wB : TmW (tmT 9 s [x, y, n]) := tmT_W3 wt wx wy wn
    have r1 := c_N 3 [y, m] (by simp) (by simp [wy, wm])
    have r1' := c_N 3 [tm0 3 [y, m], n] (by simp) (by simp [wA, wn])
    have r2 := c_T 9 s [x, y, n] wt (by simp) (by simp [wx, wy, wn])
    have r3 := c_N 3 [tm0 3 [tm0 3 [y, m], n], tmT 9 s [x, y, n]] (by simp) (by simp [wA2, wB])
    simp only [List.map_cons, List.map_nil] at r1 r1' r2 r3
    rw [hk', em, en]
    simp only [Bool.false_eq_true, if_false]
    clear h1 h2 h3 hr hw e2 wx wy wz wt wm wn hm hn em en wA wA2 wB hk
    generalize tmT 9 s [x, y, tmT 8 ty' [m, n]] = t at *
    generalize tmT 8 ty' [m, n] = u at *
    generalize tm0 3 [tm0 3 [tm0 3 [y, m], n], tmT 9 s [x, y, n]] = v3 at *
    generalize tm0 3 [tm0 3 [y, m], n] = v1' at *
    generalize tm0 3 [y, m] = v1 at *
    generalize tmT 9 s [x, y, n] = v2 at *
    refine en Tryz.func162 [.cell 2 31] rfl rfl fun g0 w0 gen hrel hfr hfr' hres => ?_
    repeat' (first
     | (refine ⟨?_, ?_⟩; focus ((repeat' (first | refine And.intro ?_ ?_ | refine Or.inr ?_)); all_goals kernel_rfl))
     | exact hin _ | exact agf (by assumption)
     | (first | refine wp rfl ?_ | refine spt rfl ?_ | refine spf rfl ?_ | (refine spl (fun hc => ?_) fun hc => ?_) <;> (try rw [beq_iff_eq] at hc) <;> try simp only [hc] | refine cp (r1) ?_ | refine cp (r1') ?_ | refine cp (r2) ?_ | refine cp (r3) ?_ | refine finF hrel ?_ ?_ ?_) <;> try simp only [go_sem, *])
theorem c_growth {g : List Ty} {t : Tm} {s : Ty} (hT : HasTy TyG g t s) (hr : t.root = true) (hw : TmW t) : Pure Tryz.prog env 161 [.agg t.cells] (.int .i64 t.grow) := by
 have hn := c_tmCount t hw
 have aw : ∀ a b : Int, IntKind.i64.wrap (a + b) = addW a b := fun _ _ => rfl
 have sw : ∀ a b : Int, IntKind.i64.wrap (a - b) = subW a b := fun _ _ => rfl
 have mw : ∀ a b : Int, IntKind.i64.wrap (a * b) = mulW a b := fun _ _ => rfl
 intro h
 cases hT with
 | var => simp [Tm.root, tmVar, Tm.kind] at hr
 | lam => simp [Tm.root, tmT, Tm.kind] at hr
 | n0 hN => cases hN <;> simp [Tm.root, tmT, Tm.kind] at hr
 | @n1 _ k ty _ a x hN h1 =>
  cases hN with
  | succ => simp [Tm.root, tmT, Tm.kind] at hr
  | fst =>
   have hk : x.kind = 10 := by simpa [Tm.root, tmT, Tm.kind, ta, Tm.args] using hr
   obtain ⟨ty', a', b', y, z, e, rfl, h2, h3⟩ := h1.inv_pair hk
   have e2 : (tmT 11 ty [tmT 10 ty' [y, z]]).grow = subW y.szW (tmT 11 ty [tmT 10 ty' [y, z]]).szW := rfl
   have wx : TmW (tmT 10 ty' [y, z]) := hw.arg (by simp [tmT, Tm.args])
   have hc := c_tmCount y (wx.arg (by simp [tmT, Tm.args]))
   have f1 : (tmT 11 ty [tmT 10 ty' [y, z]]).kind = 11 := rfl
   have f2 : (tmT 11 ty [tmT 10 ty' [y, z]]).args = [tmT 10 ty' [y, z]] := rfl
   have f3 : (tmT 10 ty' [y, z]).args = [y, z] := rfl
   rw [e2]
   clear h1 h2 h3 hr hw hk e e2 wx
   generalize tmT 11 ty [tmT 10 ty' [y, z]] = t at *
   generalize tmT 10 ty' [y, z] = u at *
   refine en Tryz.func161 [.tmp 2] rfl rfl fun g0 w0 gen hrel hfr hfr' hres => ?_
   repeat' (first
    | (refine ⟨?_, ?_⟩; focus ((repeat' (first | refine And.intro ?_ ?_ | refine Or.inr ?_)); all_goals kernel_rfl))
    | exact hin _ | exact agf (by assumption)
    | (first | refine wp rfl ?_ | refine spt rfl ?_ | refine spf rfl ?_ | (refine spl (fun hc => ?_) fun hc => ?_) <;> (try rw [beq_iff_eq] at hc) <;> try simp only [hc] | refine cp (hn) ?_ | refine cp (hc) ?_ | refine finF hrel ?_ ?_ ?_) <;> try simp only [go_sem, *])
  | snd =>
   have hk : x.kind = 10 := by simpa [Tm.root, tmT, Tm.kind, ta, Tm.args] using hr
   obtain ⟨ty', a', b', y, z, e, rfl, h2, h3⟩ := h1.inv_pair hk
   have e2 : (tmT 12 ty [tmT 10 ty' [y, z]]).grow = subW z.szW (tmT 12 ty [tmT 10 ty' [y, z]]).szW := rfl
   have wx : TmW (tmT 10 ty' [y, z]) := hw.arg (by simp [tmT, Tm.args])
   have hc := c_tmCount z (wx.arg (by simp [tmT, Tm.args]))
   have f1 : (tmT 12 ty [tmT 10 ty' [y, z]]).kind = 12 := rfl
   have f2 : (tmT 12 ty [tmT 10 ty' [y, z]]).args = [tmT 10 ty' [y, z]] := rfl
   have f3 : (tmT 10 ty' [y, z]).args = [y, z] := rfl
   rw [e2]
   clear h1 h2 h3 hr hw hk e e2 wx
   generalize tmT 12 ty [tmT 10 ty' [y, z]] = t at *
   generalize tmT 10 ty' [y, z] = u at *
   refine en Tryz.func161 [.tmp 2] rfl rfl fun g0 w0 gen hrel hfr hfr' hres => ?_
   repeat' (first
    | (refine ⟨?_, ?_⟩; focus ((repeat' (first | refine And.intro ?_ ?_ | refine Or.inr ?_)); all_goals kernel_rfl))
    | exact hin _ | exact agf (by assumption)
    | (first | refine wp rfl ?_ | refine spt rfl ?_ | refine spf rfl ?_ | (refine spl (fun hc => ?_) fun hc => ?_) <;> (try rw [beq_iff_eq] at hc) <;> try simp only [hc] | refine cp (hn) ?_ | refine cp (hc) ?_ | refine finF hrel ?_ ?_ ?_) <;> try simp only [go_sem, *])
 | @n2 _ k ty _ a b x y hN h1 h2 =>
  cases hN with
  | app =>
   have hk : x.kind = 2 := by simpa [Tm.root, tmT, Tm.kind, ta, Tm.args] using hr
   obtain ⟨a', b', z, e, rfl, h3⟩ := h1.inv_lam hk
   have wy : TmW y := hw.arg (by simp [tmT, Tm.args])
   have wl : TmW (tmT 2 a' [z]) := hw.arg (by simp [tmT, Tm.args])
   have wz : TmW z := wl.arg (by simp [tmT, Tm.args])
   have hc := c_tmCount y wy
   have hc2 := c_tmCount z wz
   have hI := c_tmTimes z wz 0
   have e2 : (tmT 3 ty [tmT 2 a' [z], y]).grow = subW (addW z.szW (mulW (z.times 0) (subW y.szW 1))) (tmT 3 ty [tmT 2 a' [z], y]).szW := rfl
   have f1 : (tmT 3 ty [tmT 2 a' [z], y]).kind = 3 := rfl
   have f2 : (tmT 3 ty [tmT 2 a' [z], y]).args = [tmT 2 a' [z], y] := rfl
   have f3 : (tmT 2 a' [z]).args = [z] := rfl
   rw [e2]
   clear h1 h2 h3 hr hw hk e e2 wy wl wz
   generalize tmT 3 ty [tmT 2 a' [z], y] = t at *
   generalize tmT 2 a' [z] = u at *
   refine en Tryz.func161 [.tmp 2] rfl rfl fun g0 w0 gen hrel hfr hfr' hres => ?_
   repeat' (first
    | (refine ⟨?_, ?_⟩; focus ((repeat' (first | refine And.intro ?_ ?_ | refine Or.inr ?_)); all_goals kernel_rfl))
    | exact hin _ | exact agf (by assumption)
    | (first | refine wp rfl ?_ | refine spt rfl ?_ | refine spf rfl ?_ | (refine spl (fun hc => ?_) fun hc => ?_) <;> (try rw [beq_iff_eq] at hc) <;> try simp only [hc] | refine cp (hn) ?_ | refine cp (hc) ?_ | refine cp (hc2) ?_ | refine cp (hI) ?_ | refine finF hrel ?_ ?_ ?_) <;> try simp only [go_sem, *])
  | cons => simp [Tm.root, tmT, Tm.kind] at hr
  | pair => simp [Tm.root, tmT, Tm.kind] at hr
 | @n3 _ k ty _ a b c x y z hN h1 h2 h3 =>
  have wx : TmW x := hw.arg (by simp [tmT, Tm.args])
  have wy : TmW y := hw.arg (by simp [tmT, Tm.args])
  have wz : TmW z := hw.arg (by simp [tmT, Tm.args])
  have wt := hw.ty
  cases hN with
  | recr =>
   have hk : z.kind = 4 ∨ z.kind = 5 := by simpa [Tm.root, tmT, Tm.kind, ta, Tm.args] using hr
   have hx := c_tmCount x wx
   have hy := c_tmCount y wy
   have e2 : (tmT 6 s [x, y, z]).grow = if z.kind == 4 then subW x.szW (tmT 6 s [x, y, z]).szW else
    subW (subW (addW (addW (addW 2 y.szW) (ta z 0).szW) (tmT 6 s [x, y, z]).szW) 1) (tmT 6 s [x, y, z]).szW := rfl
   have f1 : (tmT 6 s [x, y, z]).kind = 6 := rfl
   have f2 : (tmT 6 s [x, y, z]).args = [x, y, z] := rfl
   have f3 : (tmT 6 s [x, y, z]).type = s := rfl
   rw [e2]
   rcases hk with hk | hk
   ·rw [hk]
    simp only [beq_self_eq_true, if_true]
    clear h1 h2 h3 hr hw e2 wx wy wz wt
    generalize tmT 6 s [x, y, z] = t at *
    refine en Tryz.func161 [.tmp 2] rfl rfl fun g0 w0 gen hrel hfr hfr' hres => ?_
    repeat' (first
     | (refine ⟨?_, ?_⟩; focus ((repeat' (first | refine And.intro ?_ ?_ | refine Or.inr ?_)); all_goals kernel_rfl))
     | exact hin _ | exact agf (by assumption)
     | (first | refine wp rfl ?_ | refine spt rfl ?_ | refine spf rfl ?_ | (refine spl (fun hc => ?_) fun hc => ?_) <;> (try rw [beq_iff_eq] at hc) <;> try simp only [hc] | refine cp (hn) ?_ | refine cp (hx) ?_ | refine cp (hy) ?_ | refine finF hrel ?_ ?_ ?_) <;> try simp only [go_sem, *])
   ·have hk' : (z.kind == 4) = false := by rw [hk]; rfl
    obtain ⟨ty', m, rfl, hm⟩ := h3.inv_succ hk
    have wm : TmW m := wz.arg (by simp [tmT, Tm.args])
    have em : ta (tmT 5 ty' [m]) 0 = m := rfl
    have f4 : (tmT 5 ty' [m]).args = [m] := rfl
    have hm' := c_tmCount m wm
    rw [hk', em]
    simp only [Bool.false_eq_true, if_false]
    clear h1 h2 h3 hr hw e2 wx wy wz wt wm hm em hk
    generalize tmT 6 s [x, y, tmT 5 ty' [m]] = t at *
    generalize tmT 5 ty' [m] = u at *
    refine en Tryz.func161 [.tmp 2] rfl rfl fun g0 w0 gen hrel hfr hfr' hres => ?_
    repeat' (first
     | (refine ⟨?_, ?_⟩; focus ((repeat' (first | refine And.intro ?_ ?_ | refine Or.inr ?_)); all_goals kernel_rfl))
     | exact hin _ | exact agf (by assumption)
     | (first | refine wp rfl ?_ | refine spt rfl ?_ | refine spf rfl ?_ | (refine spl (fun hc => ?_) fun hc => ?_) <;> (try rw [beq_iff_eq] at hc) <;> try simp only [hc] | refine cp (hn) ?_ | refine cp (hx) ?_ | refine cp (hy) ?_ | refine cp (hm') ?_ | refine finF hrel ?_ ?_ ?_) <;> try simp only [go_sem, *])
  | fold =>
   have hk : z.kind = 7 ∨ z.kind = 8 := by simpa [Tm.root, tmT, Tm.kind, ta, Tm.args] using hr
   have hx := c_tmCount x wx
   have hy := c_tmCount y wy
   have e2 : (tmT 9 s [x, y, z]).grow = if z.kind == 7 then subW x.szW (tmT 9 s [x, y, z]).szW else
    subW (subW (subW (addW (addW (addW (addW 3 y.szW) (ta z 0).szW) (ta z 1).szW) (tmT 9 s [x, y, z]).szW) 1) (ta z 0).szW) (tmT 9 s [x, y, z]).szW := rfl
   have f1 : (tmT 9 s [x, y, z]).kind = 9 := rfl
   have f2 : (tmT 9 s [x, y, z]).args = [x, y, z] := rfl
   have f3 : (tmT 9 s [x, y, z]).type = s := rfl
   rw [e2]
   rcases hk with hk | hk
   ·rw [hk]
    simp only [beq_self_eq_true, if_true]
    clear h1 h2 h3 hr hw e2 wx wy wz wt
    generalize tmT 9 s [x, y, z] = t at *
    refine en Tryz.func161 [.tmp 2] rfl rfl fun g0 w0 gen hrel hfr hfr' hres => ?_
    repeat' (first
     | (refine ⟨?_, ?_⟩; focus ((repeat' (first | refine And.intro ?_ ?_ | refine Or.inr ?_)); all_goals kernel_rfl))
     | exact hin _ | exact agf (by assumption)
     | (first | refine wp rfl ?_ | refine spt rfl ?_ | refine spf rfl ?_ | (refine spl (fun hc => ?_) fun hc => ?_) <;> (try rw [beq_iff_eq] at hc) <;> try simp only [hc] | refine cp (hn) ?_ | refine cp (hx) ?_ | refine cp (hy) ?_ | refine finF hrel ?_ ?_ ?_) <;> try simp only [go_sem, *])
   ·have hk' : (z.kind == 7) = false := by rw [hk]; rfl
    obtain ⟨ty', m, n, rfl, hm, hn⟩ := h3.inv_cons hk
    have wm : TmW m := wz.arg (by simp [tmT, Tm.args])
    have wn : TmW n := wz.arg (by simp [tmT, Tm.args])
    have em : ta (tmT 8 ty' [m, n]) 0 = m := rfl
    have en : ta (tmT 8 ty' [m, n]) 1 = n := rfl
    have f4 : (tmT 8 ty' [m, n]).args = [m, n] := rfl
    have hm' := c_tmCount m wm
    have hn' := c_tmCount n wn
    rw [hk', em, en]
    simp only [Bool.false_eq_true, if_false]
    clear h1 h2 h3 hr hw e2 wx wy wz wt wm wn hm hn em en hk
    generalize tmT 9 s [x, y, tmT 8 ty' [m, n]] = t at *
    generalize tmT 8 ty' [m, n] = u at *
    refine en Tryz.func161 [.tmp 2] rfl rfl fun g0 w0 gen hrel hfr hfr' hres => ?_
    repeat' (first
     | (refine ⟨?_, ?_⟩; focus ((repeat' (first | refine And.intro ?_ ?_ | refine Or.inr ?_)); all_goals kernel_rfl))
     | exact hin _ | exact agf (by assumption)
     | (first | refine wp rfl ?_ | refine spt rfl ?_ | refine spf rfl ?_ | (refine spl (fun hc => ?_) fun hc => ?_) <;> (try rw [beq_iff_eq] at hc) <;> try simp only [hc] | refine cp (hn) ?_ | refine cp (hx) ?_ | refine cp (hy) ?_ | refine cp (hm') ?_ | refine cp (hn') ?_ | refine finF hrel ?_ ?_ ?_) <;> try simp only [go_sem, *])
end Go.Proofs.YtpnjamplciaopaaGreatDoor
