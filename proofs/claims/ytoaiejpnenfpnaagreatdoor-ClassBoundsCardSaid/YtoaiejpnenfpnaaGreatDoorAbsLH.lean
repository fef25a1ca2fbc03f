/-
  The abstract layer: plain laws.
-/
import Derived.Test.YtoaiejpnenfpnaaGreatDoorAbsLG
set_option linter.unusedSimpArgs false
set_option linter.unusedVariables false
set_option linter.unusedSectionVars false
namespace GoAbs
open Go

def tmLift (t : Tm) (fr b : Int) : Tm × Int :=
  if tmErr t != 0 then (zeroT, tmErr t)
  else if decide (fr < 0) || decide (fr > 4096) || decide (b < 0) || decide (b > 4096) || !t.least 536870912 then (zeroT, 1)
  else (t.up b fr, 0)
@[go_sem] def tmErrV (p : Tm × Int) : V := .tup [.agg p.1.cells, .int .i64 p.2]
def lessR (s t : Tm) : Fm × Int :=
  if tmErr s != 0 then (zeroF, tmErr s) else if tmErr t != 0 then (zeroF, tmErr t)
  else if decide ((ft (lessF s t) 0).szW > 4096) || decide ((lessF s t).szW > 4096) then (zeroF, 4) else (lessF s t, 0)
def bndR (all : Bool) (t : Tm) (f : Fm) : Fm × Int :=
  if (tmLift t 0 1).2 != 0 then (zeroF, (tmLift t 0 1).2) else if fmErr f != 0 then (zeroF, fmErr f)
  else if (lessR (tmVar 0) (tmLift t 0 1).1).2 != 0 then (zeroF, (lessR (tmVar 0) (tmLift t 0 1).1).2)
  else if decide ((bndF all (tmLift t 0 1).1 f).szW > 4096) then (zeroF, 4) else (bndF all (tmLift t 0 1).1 f, 0)

theorem TmG.szW {t : Tm} (h : TmG t) (hs : tmSz t ≤ 1000000) : t.szW = (tmSz t : Int) := Tm.szW_nodes _ _ (h.nodes_val hs)
theorem FmG.szW {u : Bool} {f : Fm} (h : FmG u f) (hs : fmSz f ≤ 1000000) : f.szW = (fmSz f : Int) := Fm.szW_nodes _ _ (h.nodes_val hs)
theorem TmG.err0 {t : Tm} (h : TmG t) (hs : tmSz t ≤ 4096) : tmErr t = 0 := by rw [h.err_val (by omega), if_pos hs]
theorem FmG.err0 {u : Bool} {f : Fm} (h : FmG u f) (hs : fmSz f ≤ 4096) : fmErr f = 0 := by rw [h.err_val (by omega), if_pos hs]
theorem TmG.lift1 {t : Tm} (h : TmG t) (hs : tmSz t ≤ 4096) (hl : t.least 536870912 = true) : tmLift t 0 1 = (t.up 1 0, 0) := by
  unfold tmLift
  rw [h.err0 hs, hl]; rfl
theorem TmG.less {s t : Tm} (h1 : TmG s) (h2 : TmG t) (z1 : tmSz s ≤ 1000) (z2 : tmSz t ≤ 1000) : lessR s t = (lessF s t, 0) := by
  unfold lessR
  rw [h1.err0 (by omega), h2.err0 (by omega)]
  have hl : TmG (ft (lessF s t) 0) := .t2 ar3 rfl (.t2 ar3 rfl subT_G (.t1 ar5 rfl h1)) h2
  have zl : tmSz (ft (lessF s t) 0) = tmSz s + tmSz t + 19 := by
    show tmSz (tm0 3 [tm0 3 [subT, tm0 5 [s]], t]) = _
    rw [tmSz_2, tmSz_2, tmSz_1, tmSz_sub]; omega
  have hF : FmG true (lessF s t) := lessF_G h1 h2
  have zF := lessF_sz (s := s) (t := t)
  rw [hl.szW (by omega), hF.szW (by omega), zl, zF]
  have d1 : decide (((tmSz s + tmSz t + 19 : Nat) : Int) > 4096) = false := by simp; omega
  have d2 : decide (((tmSz s + tmSz t + 21 : Nat) : Int) > 4096) = false := by simp; omega
  rw [d1, d2]; rfl
theorem bndR_small {all : Bool} {t : Tm} {f : Fm} (h : TmG t) (hs : tmSz t ≤ 1000) (hl : t.least 536870912 = true) (hf : FmG true f) (zf : fmSz f ≤ 3000) :
    bndR all t f = (bndF all (t.up 1 0) f, 0) := by
  have hu := TmG.up (b := 1) (by omega) (by omega) _ h (Nat.le_refl _) hl 0
  have zu := tmSz_up (b := 1) t 0
  unfold bndR
  rw [h.lift1 (by omega) hl]
  simp only
  rw [hf.err0 (by omega), v0_G.less hu (by rw [tmSz_v]; omega) (by omega), (bndF_G (all := all) hu hf).szW (by rw [bndF_sz]; omega), bndF_sz]
  have d1 : decide (((tmSz (t.up 1 0) + fmSz f + 24 : Nat) : Int) > 4096) = false := by simp; omega
  rw [d1]; rfl

/-- Types in front of a formula. -/
def allF (l : List Ty) (f : Fm) : Fm := l.foldr (fun t f => fmQ 4 t f) f
theorem allF_step {l : List Ty} {f : Fm} {j : Nat} {x : Ty} (h : l[j]? = some x) : fmQ 4 x (allF (l.drop (j + 1)) f) = allF (l.drop j) f := by
  rw [drop_get h]; rfl
theorem allF_W {l : List Ty} {f : Fm} (hl : ∀ t ∈ l, TyW t) (hf : FmW f) : FmW (allF l f) := by
  induction l with
  | nil => exact hf
  | cons t l ih => exact fmQ_W (hl t (by simp)) (ih (fun x hx => hl x (by simp [hx])))
theorem allF_G {u : Bool} {l : List Ty} {f : Fm} (hl : ∀ t ∈ l, TyG t) (hf : FmG u f) : FmG u (allF l f) := by
  induction l with
  | nil => exact hf
  | cons t l ih => exact .q (.inl rfl) (hl t (by simp)) (ih (fun x hx => hl x (by simp [hx])))
theorem allF_sz {l : List Ty} {f : Fm} : fmSz (allF l f) = fmSz f + l.length := by
  induction l with
  | nil => rfl
  | cons t l ih => show fmSz (fmQ 4 t (allF l f)) = _; rw [fmSz_q, ih, List.length_cons]; omega
theorem allF_univ {l : List Ty} {f : Fm} (hf : (f.kind == 4) = false) : (allF l f).univ = (l, f) := by
  induction l with
  | nil => exact Fm.univ_n hf
  | cons t l ih =>
    show (fmQ 4 t (allF l f)).univ = _
    rw [Fm.univ_4 (f := fmQ 4 t (allF l f)) (a := allF l f) rfl rfl, ih]; rfl

theorem law_tasks {l : List Ty} {s : Ty} {b : Fm} (hl : ∀ t ∈ l, TyG t) (hn : l.length ≤ 3) (hs : TyG s) (hb : FmG true b) (zb : fmSz b ≤ 1500) (hd : b.fl.d = true) :
    (allF l (fmQ 5 s b)).task = ((l, s), (b, true)) ∧ (allF l (fmQ 5 s b)).univ = (l, fmQ 5 s b) ∧ fmErr (allF l (fmQ 5 s b)) = 0 ∧
    (fmTwo 2 (allF l (fmQ 5 s b)) (allF l (fmQ 5 s b))).task = (([], tZero), (zeroF, false)) := by
  have gq : FmG true (fmQ 5 s b) := .q (.inr (.inl rfl)) hs hb
  have g := allF_G hl gq
  have z : fmSz (allF l (fmQ 5 s b)) = fmSz b + 1 + l.length := by rw [allF_sz, fmSz_q]
  have e := g.err_val (by omega)
  rw [if_pos (by omega)] at e
  have hu : (allF l (fmQ 5 s b)).univ = (l, fmQ 5 s b) := allF_univ rfl
  have gt : FmG true (fmTwo 2 (allF l (fmQ 5 s b)) (allF l (fmQ 5 s b))) := .two (.inl rfl) g g
  have e2 := gt.err_val (by rw [fmSz_two]; omega)
  rw [if_pos (by rw [fmSz_two]; omega)] at e2
  refine ⟨?_, hu, e, ?_⟩
  · unfold Fm.task
    rw [e, hu]
    have e1 : fa (fmQ 5 s b) 0 = b := rfl
    simp only [e1, hd]
    rfl
  · unfold Fm.task
    rw [e2, Fm.univ_n (f := fmTwo 2 (allF l (fmQ 5 s b)) (allF l (fmQ 5 s b))) rfl]
    rfl
end GoAbs
