/-
 The abstract layer: plain laws, further ones.
-/
import Derived.Test.YtkoeoklndhgejaaGreatDoorAbsDb
import Derived.Test.YtkoeoklndhgejaaGreatDoorAbsB
import Derived.Test.YtkoeoklndhgejaaGreatDoorAbsD
set_option linter.unusedSimpArgs false
set_option linter.unusedVariables false
set_option linter.unusedSectionVars false
namespace GoAbs
open Go
theorem TmG.toW {t : Tm} (h : TmG t) : TmW t := by
 induction h with
 | @plain k l a ha hl ht _ ih =>
  refine tm0_W ?_ ih
  have : a ≤ 3 := by
   unfold arity at ha
   split at ha
   ·cases ha
   ·rename_i hk
    have : k = 1 ∨ k = 2 ∨ k = 3 ∨ k = 4 ∨ k = 5 ∨ k = 6 ∨ k = 7 ∨ k = 8 ∨ k = 9 ∨ k = 10 ∨ k = 11 ∨ k = 12 ∨ k = 13 := by omega
    rcases this with rfl | rfl | rfl | rfl | rfl | rfl | rfl | rfl | rfl | rfl | rfl | rfl | rfl <;> simp [arities] at ha <;> omega
  omega
 | var => exact tmVar_W _
 | @typd k t l a ha hl ht hg _ ih =>
  have : a ≤ 3 := by
   unfold arity at ha
   split at ha
   ·cases ha
   ·rename_i hk
    have : k = 1 ∨ k = 2 ∨ k = 3 ∨ k = 4 ∨ k = 5 ∨ k = 6 ∨ k = 7 ∨ k = 8 ∨ k = 9 ∨ k = 10 ∨ k = 11 ∨ k = 12 ∨ k = 13 := by omega
    rcases this with rfl | rfl | rfl | rfl | rfl | rfl | rfl | rfl | rfl | rfl | rfl | rfl | rfl <;> simp [arities] at ha <;> omega
  exact .mk _ _ _ _ hg.1.W (by omega) ih
theorem FmG.toW {u : Bool} {f : Fm} (h : FmG u f) : FmW f := by
 induction h with
 | eq hx hy => exact fmEq_W hx.toW hy.toW
 | two hk _ _ h1 h2 => exact .mk _ _ _ _ tZero_W (by simp) (by simp) (by simp) (by simp [h1, h2])
 | q hk hs _ h1 => exact .mk _ _ _ _ hs.1.W (by simp) (by simp) (by simp) (by simp [h1])
inductive Dc : List Ty → Fm → Prop
 | eq {g : List Ty} {x y : Tm} : TmG x → TmG y → HasTy TyG g x tNat → HasTy TyG g y tNat → Dc g (fmEq x y)
 | two {g : List Ty} {k : Int} {a b : Fm} (hk : k = 2 ∨ k = 3) : Dc g a → Dc g b → Dc g (fmTwo k a b)
 | bnd {g : List Ty} {all : Bool} {q : Tm} {a : Fm} : TmG q → HasTy TyG (g ++ [tNat]) q tNat → tmOcc q 0 = 0 → Dc (g ++ [tNat]) a → Dc g (bndF all q a)
theorem Dc.G {u : Bool} {g : List Ty} {f : Fm} (h : Dc g f) : FmG u f := by
 induction h with
 | eq h1 h2 _ _ => exact .eq h1 h2
 | two hk _ _ h1 h2 => exact .two hk h1 h2
 | bnd hq _ _ _ h1 => exact bndF_G hq h1
theorem bnd_sz {all : Bool} {q : Tm} {a : Fm} : fmSz (bndF all q a) = tmSz q + fmSz a + 24 := by
 rw [bndF_sz]
theorem Dc.ty {g : List Ty} {f : Fm} (h : Dc g f) : FmTy TyG g f := by
 induction h with
 | eq _ _ h1 h2 => exact .eq h1 h2
 | two hk _ _ h1 h2 => exact .two hk h1 h2
 | bnd _ hq _ _ h1 => exact bnd_ty' hq h1
theorem Dc.least {g : List Ty} {f : Fm} (h : Dc g f) : (g.length : Int) + fmSz f ≤ 100000 → f.least 536870912 = true := by
 induction h with
 | eq _ _ h1 h2 =>
  intro hb
  rw [fmSz_eq] at hb
  exact fleast_eq.2 ⟨h1.least _ (by omega) (by omega), h2.least _ (by omega) (by omega)⟩
 | two hk _ _ h1 h2 =>
  intro hb
  rw [fmSz_two] at hb
  exact fleast_two (h1 (by omega)) (h2 (by omega))
 | @bnd g all q a _ hq _ _ h1 =>
  intro hb
  rw [bnd_sz] at hb
  have hl : q.least 536870912 = true := hq.least _ (by omega) (by simp; omega)
  have hless : (lessF (tmVar 0) q).least 536870912 = true :=
   least_eqn (least_2 (by omega) (least_2 (by omega) (least_sub (by omega)) (least_1 (by omega) (least_v (by omega)))) hl) (least_0 (by omega))
  exact least_q (least_two hless (h1 (by simp; omega)))
theorem bnd_inn {s : Tm} {all : Bool} {q : Tm} {a : Fm} {d : Int} (hd : 0 ≤ d) (hd2 : d ≤ 100000) :
  fmInn s 0 (bndF all q a) d = bndF all (tmInn s 0 q (d + 1)) (fmInn s 0 a (d + 1)) := by
 have e0 : addW (d + 1) (tmBelow 3) = d + 1 := addW_zero (by omega) (by omega)
 have hb : fmBelow (if all then 4 else 5) = 1 := by cases all <;> rfl
 have hb2 : fmBelow (if all then 3 else 2) = 0 := by cases all <;> rfl
 unfold bndF lessF
 rw [fmInn_q, hb, addW_eq (by omega) (by omega) (by omega) (by omega), fmInn_two, hb2, addW_zero (by omega) (by omega), fmInn_eqn, inn_tm0 rfl, e0, inn_tm0 rfl]
 simp only [List.map_cons, List.map_nil]
 rw [inn_cl 19 _ (by rw [left_sz]; omega) 1 (d + 1) left_cl (by omega) (by omega) (by omega)]
theorem Dc.inn {s : Tm} (gs : TmG s) (ts : HasTy TyG [] s tNat) (zs : tmSz s ≤ 4096) {g' : List Ty} {f : Fm} (h : Dc g' f) : ∀ l : List Ty, g' = [tNat] ++ l → l.length + fmSz f ≤ 10000 → Dc l (fmInn s 0 f (l.length : Int)) := by
 have ls : s.least 536870912 = true := ts.least _ (by omega) (by simp; omega)
 induction h with
 | @eq g x y gx gy h1 h2 =>
  intro l e hb
  rw [fmSz_eq] at hb
  subst e
  rw [fmInn_eqn]
  have lx : x.least 536870912 = true := h1.least _ (by omega) (by simp; omega)
  have ly : y.least 536870912 = true := h2.least _ (by omega) (by simp; omega)
  exact .eq (TmG.inn gs ls _ gx (Nat.le_refl _) lx _ (by omega) (by omega)) (TmG.inn gs ls _ gy (Nat.le_refl _) ly _ (by omega) (by omega))
   (h1.inn [] l rfl ts (by omega) (by simp; omega)) (h2.inn [] l rfl ts (by omega) (by simp; omega))
 | @two g k a b hk _ _ ih1 ih2 =>
  intro l e hb
  rw [fmSz_two] at hb
  rw [fmInn_two, below_two hk, addW_zero (by omega) (by omega)]
  exact .two hk (ih1 l e (by omega)) (ih2 l e (by omega))
 | @bnd g all q a gq hq oq _ ih =>
  intro l e hb
  rw [bnd_sz] at hb
  subst e
  rw [bnd_inn (by omega) (by omega)]
  have lq : q.least 536870912 = true := hq.least _ (by omega) (by simp; omega)
  have e1 : ((l.length : Int) + 1) = ((l ++ [tNat]).length : Int) := by simp
  refine .bnd ?_ ?_ ?_ ?_
  ·exact TmG.inn gs ls _ gq (Nat.le_refl _) lq _ (by omega) (by omega)
  ·rw [e1]; exact hq.inn [] (l ++ [tNat]) (by simp) ts (by simp; omega) (by simp; omega)
  ·rw [TmG.inn_occ gs (by omega) (least_mono (by omega) _ ls) _ gq (Nat.le_refl _) (least_mono (by omega) _ lq) _ 0 (by omega) (by omega) (by omega)]; exact oq
  ·rw [e1]; exact ih (l ++ [tNat]) (by simp) (by simp; omega)
def evN (m : Nat) (t : Tm) : Nat × Nat × Bool := match ev m (m + 1) 0 t [] with | some (r, u, o) => (r.num, u, o) | none => (0, 0, true)
theorem evN_at {m : Nat} {t : Tm} (ht : HasTy TyG [] t tNat) : ∃ r u o, ev m (m + 1) 0 t [] = some (r, u, o) ∧ evN m t = (r.num, u, o) ∧ u ≤ m := by
 obtain ⟨r, u, o, h1, _, h3, _⟩ := ev_P (Q := TyG) (most := m) (m + 1) 0 t [] [] tNat (by omega) (by omega) ht ⟨rfl, by simp⟩
 exact ⟨r, u, o, h1, by simp [evN, h1], h3⟩
theorem evN_le {m : Nat} {t : Tm} (ht : HasTy TyG [] t tNat) (wt : TmW t) (hm : m ≤ 65536) : (evN m t).2.1 ≤ m ∧ ((evN m t).2.2 = false → (evN m t).1 ≤ m) := by
 obtain ⟨r, u, o, h1, h2, h3⟩ := evN_at (m := m) ht
 rw [h2]
 refine ⟨h3, fun ho => ?_⟩
 simp only at ho
 subst ho
 obtain ⟨_, _, h4⟩ := ev_W (by omega) (m + 1) 0 0 t [] r u false h1 (by omega) (by omega) wt (by simp) (by simp)
 have := (h4 rfl).2.n1
 omega
abbrev Ans := Bool × Nat × Int
def putR (f : Fm) (s : Tm) : Fm × Int := if fmSz f + fmOcc f 0 * (tmSz s - 1) ≤ 4096 then (fmInn s 0 f 0, 0) else (zeroF, 4)
def dN (lim w : Nat) (t : Tm) : Nat × Nat × Int := if (evN (lim - w) t).2.2 then (0, w, 5) else ((evN (lim - w) t).1, w + (evN (lim - w) t).2.1, 0)
def dW (D : Nat → Fm → Ans) (f : Fm) (k w : Nat) : Ans :=
 if 4096 ≤ k then (false, w, 4) else if (putR f (numT k)).2 != 0 then (false, w, (putR f (numT k)).2) else D w (putR f (numT k)).1
def dB (D : Nat → Fm → Ans) (lim : Nat) (all : Bool) (f : Fm) : Nat → Nat → Nat → Ans
 | 0, _, w => (all, w, 0)
 | n + 1, k, w => if lim ≤ w then (false, w, 5) else
  if (dW D f k (w + 1)).2.2 != 0 || (dW D f k (w + 1)).1 != all then dW D f k (w + 1) else dB D lim all f n (k + 1) (dW D f k (w + 1)).2.1
def dE (lim w : Nat) (x y : Tm) : Ans :=
 if (dN lim w x).2.2 != 0 then (false, (dN lim w x).2.1, (dN lim w x).2.2)
 else if (dN lim (dN lim w x).2.1 y).2.2 != 0 then (false, (dN lim (dN lim w x).2.1 y).2.1, (dN lim (dN lim w x).2.1 y).2.2)
 else ((dN lim w x).1 == (dN lim (dN lim w x).2.1 y).1, (dN lim (dN lim w x).2.1 y).2.1, 0)
def dT (lim : Nat) : Nat → Nat → Fm → Ans
 | 0, w, _ => (false, w, 0)
 | n + 1, w, f =>
  if f.kind == 1 then dE lim w (f.terms.getD 0 zeroT) (f.terms.getD 1 zeroT)
  else if f.kind == 2 then (if (dT lim n w (fa f 0)).1 then dT lim n (dT lim n w (fa f 0)).2.1 (fa f 1) else dT lim n w (fa f 0))
  else if f.kind == 3 then
   (if (dT lim n w (fa f 0)).2.2 != 0 || !(dT lim n w (fa f 0)).1 then ((dT lim n w (fa f 0)).2.2 == 0, (dT lim n w (fa f 0)).2.1, (dT lim n w (fa f 0)).2.2) else dT lim n (dT lim n w (fa f 0)).2.1 (fa f 1))
  else if (dN lim w (tPut (bndTerm f) 0 zeroT)).2.2 != 0 then (false, (dN lim w (tPut (bndTerm f) 0 zeroT)).2.1, (dN lim w (tPut (bndTerm f) 0 zeroT)).2.2)
  else dB (fun w f => dT lim n w f) lim (f.kind == 4) (bndBody f) (dN lim w (tPut (bndTerm f) 0 zeroT)).1 0 (dN lim w (tPut (bndTerm f) 0 zeroT)).2.1
theorem dT_eq {lim n w : Nat} {x y : Tm} : dT lim (n + 1) w (fmEq x y) = dE lim w x y := rfl
theorem dT_and {lim n w : Nat} {a b : Fm} : dT lim (n + 1) w (fmTwo 2 a b) = if (dT lim n w a).1 then dT lim n (dT lim n w a).2.1 b else dT lim n w a := rfl
theorem dT_imp {lim n w : Nat} {a b : Fm} : dT lim (n + 1) w (fmTwo 3 a b) =
  if (dT lim n w a).2.2 != 0 || !(dT lim n w a).1 then ((dT lim n w a).2.2 == 0, (dT lim n w a).2.1, (dT lim n w a).2.2) else dT lim n (dT lim n w a).2.1 b := rfl
theorem dT_bnd {lim n w : Nat} {all : Bool} {q : Tm} {a : Fm} : dT lim (n + 1) w (bndF all q a) =
  if (dN lim w (tPut q 0 zeroT)).2.2 != 0 then (false, (dN lim w (tPut q 0 zeroT)).2.1, (dN lim w (tPut q 0 zeroT)).2.2)
  else dB (fun w f => dT lim n w f) lim all a (dN lim w (tPut q 0 zeroT)).1 0 (dN lim w (tPut q 0 zeroT)).2.1 := by
 cases all <;> rfl
theorem fdp_bnd {all : Bool} {q : Tm} {a : Fm} : fdp (bndF all q a) = fdp a + 2 := by
 have := fdp_pos a
 unfold bndF
 rw [fdp_q, fdp_two, lessF, fdp_eqn]; omega
theorem fdp_inn {s : Tm} : ∀ (f : Fm) (d : Int), fdp (fmInn s 0 f d) = fdp f := by
 intro f
 induction f using Fm.ind with | h f ih => ?_
 intro d
 obtain ⟨k, t, l, a⟩ := f
 rw [fmInn, fmInnL_map, fdp, fdp]
 congr 1
 have : ∀ (l : List Fm) (d : Int), (∀ x ∈ l, ∀ d, fdp (fmInn s 0 x d) = fdp x) → fdpL (l.map fun x => fmInn s 0 x d) = fdpL l := by
  intro l
  induction l with
  | nil => intro d _; rfl
  | cons x l ih2 => intro d h; rw [List.map_cons, fdpL, fdpL, h x (by simp), ih2 d (fun y hy => h y (by simp [hy]))]
 exact this a _ (fun x hx d => ih x hx d)
theorem bnd_term {q : Tm} (gq : TmG q) (hq : HasTy TyG [tNat] q tNat) (oq : tmOcc q 0 = 0) (zq : tmSz q ≤ 4096) : TmG (tPut q 0 zeroT) ∧ HasTy TyG [] (tPut q 0 zeroT) tNat ∧ tmSz (tPut q 0 zeroT) = tmSz q := by
 have g0 : TmG (tm0 4 []) := .t0 ar4 rfl
 have lq : q.least 536870912 = true := hq.least _ (by omega) (by simp; omega)
 have key : ∀ (n : Nat) {s s' t : Tm}, TmG t → tmSz t ≤ n → ∀ d : Int, 0 ≤ d → d + n ≤ 100000 → tmOcc t d = 0 → t.least 1000000000 = true → t.rb (putG 0 s) d = t.rb (putG 0 s') d := by
  intro n
  induction n with
  | zero => intro s s' t _ hn; have := tmSz_pos t; omega
  | succ n ih =>
   intro s s' t gt hn d h0 hd ho hl
   revert hn ho hl
   refine gt.cases' (p := fun t => tmSz t ≤ n + 1 → tmOcc t d = 0 → t.least 1000000000 = true → t.rb (putG 0 s) d = t.rb (putG 0 s') d) ?_ ?_
   ·intro i hi _ ho hl
    have hi2 := var_j hl
    rw [tmVar, tmOcc] at ho
    simp only [beq_self_eq_true, if_true] at ho
    have hne : i ≠ d := by intro e; subst e; simp at ho
    rw [tmVar, Tm.rb, Tm.rb]
    simp only [beq_self_eq_true, if_true, putG]
    rw [subW_eq (by omega) (by omega) (by omega) (by omega)]
    have : (i - d == 0) = false := by simp; omega
    rw [this]; rfl
   ·intro k ty l hk _ hg _ hn ho hl
    rw [tmSz] at hn
    rw [Tm.least, Bool.and_eq_true] at hl
    rw [tmOcc, hk] at ho
    simp only [Bool.false_eq_true, if_false] at ho
    have hr := tmBelow_range k
    rw [Tm.rb, Tm.rbL_map, Tm.rb, Tm.rbL_map, hk, below_eq h0 (by omega)]
    simp only [Bool.false_eq_true, if_false]
    congr 1
    refine List.map_congr_left fun y hy => ?_
    have hoy : tmOcc y (d + tmBelow k) = 0 := by
     have : ∀ {l : List Tm}, y ∈ l → tmOccL l (d + tmBelow k) = 0 → tmOcc y (d + tmBelow k) = 0 := by
      intro l
      induction l with
      | nil => intro h; simp at h
      | cons z l ihl =>
       intro h h2
       rw [tmOccL] at h2
       rcases List.mem_cons.1 h with rfl | h
       ·omega
       ·exact ihl h (by omega)
     exact this hy ho
    exact ih (hg y hy) (by have := tmSzL_mem hy; omega) _ (by omega) (by omega) hoy (Tm.leastL_iff.1 hl.2 y hy)
 have e : tPut q 0 zeroT = tmInn (tm0 4 []) 0 q 0 := by
  rw [← tPut_inn g0 (by simp [tm0, tmSz, tmSzL]) (least_0 (by omega)) gq (by omega) lq (by omega) (by omega)]
  exact key _ gq (Nat.le_refl _) 0 (by omega) (by omega) oq (least_mono (by omega) _ lq)
 rw [e]
 refine ⟨TmG.inn g0 (least_0 (by omega)) _ gq (Nat.le_refl _) lq 0 (by omega) (by omega), ?_, ?_⟩
 ·have := hq.inn [] [] rfl (HasTy.num 0) (by simp; omega) (by simp [numT, tm0, tmSz, tmSzL])
  exact this
 ·rw [TmG.inn_sz _ gq (Nat.le_refl _) 0 (by omega) (by omega), oq]; omega
theorem Dc.put {a : Fm} (h : Dc [tNat] a) (za : fmSz a ≤ 4096) {k : Nat} (hk : k < 4096) (hp : (putR a (numT k)).2 = 0) : Dc [] (putR a (numT k)).1 ∧ fmSz (putR a (numT k)).1 ≤ 4096 ∧ fdp (putR a (numT k)).1 = fdp a := by
 have zk : tmSz (numT k) = k + 1 := tmSz_num k
 unfold putR at hp ⊢
 split at hp
 ·rename_i hle
  rw [if_pos hle]
  refine ⟨h.inn (numT_G k) (HasTy.num k) (by omega) [] rfl (by simp; omega), ?_, fdp_inn _ _⟩
  rw [(h.G (u := true)).inn_sz 0 (by omega) (by omega)]
  exact hle
 ·simp at hp
theorem MkDec.dc {n : Nat} {g : List Ty} {f : Fm} (h : MkDec n g f) (hg : ∀ y ∈ g, MkTy 1 y) (hb : g.length + n ≤ 10000) : Dc g f := by
 induction h with
 | eq h1 h2 => exact .eq (h1.small hg (by omega)).1 (h2.small hg (by omega)).1 (h1.ty (mk20 hg) nat20) (h2.ty (mk20 hg) nat20)
 | two hk _ _ h1 h2 => exact .two hk (h1 hg (by omega)) (h2 hg (by omega))
 | @bnd n g all x b hx _ h1 =>
  have hz := (hx.small hg (by omega)).2.1
  obtain ⟨u1, u2, u3⟩ := hx.up1 hg (by omega)
  refine .bnd u1 ((hx.ty (mk20 hg) nat20).up0 (by omega) (by omega)) ?_ (h1 (app_mk hg .nat) (by simp; omega))
  exact TmG.up_occ _ (hx.small hg (by omega)).1 (Nat.le_refl _) (hx.small hg (by omega)).2.2 0 (by omega) (by omega)
theorem Dc.fld {g : List Ty} {f : Fm} (h : Dc g f) : g.length + fmSz f ≤ 50000 → f.fl.d = true := by
 induction h with
 | eq _ _ _ _ => intro _; rw [Fm.fl_eqn]
 | two hk _ _ h1 h2 =>
  intro hb
  rw [fmSz_two] at hb
  rw [Fm.fl_two hk, h1 (by omega), h2 (by omega)]; rfl
 | @bnd g all q a gq tq oq _ h1 =>
  intro hb
  rw [bnd_sz] at hb
  rw [bndF_fl (by rw [gq.count_occ (by omega) (tq.least _ (by omega) (by simp; omega)) (by omega) (by omega), oq]; rfl)]
  exact h1 (by simp; omega)
def EvM (m : Nat) (E F : Evl) : Prop := ∀ u t e r u', u ≤ m → E u t e = some (r, u', false) → u ≤ u' ∧ u' ≤ m ∧ F u t e = some (r, u', false)
section
variable {m : Nat} {E F : Evl} (hM : EvM m E F)
include hM
end
def dA (lim : Nat) (f : Fm) : Ans := dT lim (fdp f) 0 f
section
variable {f g : Fm} (hf : Dc [] f) (hg : Dc [] g) (zf : fmSz f ≤ 1000) (zg : fmSz g ≤ 1000)
include hf hg zf zg
end
def hR (lim : Nat) (f : Fm) (k : Nat) : Ans := if (putR f (numT k)).2 != 0 then (false, 0, (putR f (numT k)).2) else dA lim (putR f (numT k)).1
section
variable {all : Bool} {f : Fm} {n : Nat} (hf : Dc [tNat] f) (zf : fmSz f ≤ 1000) (hn : n ≤ 5)
include hf zf hn
end
abbrev AnsL := Nat × Bool × Nat × Int
def leastL (D : Nat → Fm → Ans) (f : Fm) : Nat → Nat → Nat → AnsL
 | 0, _, w => (0, false, w, 0)
 | n + 1, k, w => if (dW D f k w).2.2 != 0 then (0, false, 0, (dW D f k w).2.2) else if (dW D f k w).1 then (k, true, (dW D f k w).2.1, 0) else leastL D f n (k + 1) (dW D f k w).2.1
inductive PVl where
 | mk (kind num : Int) (list : List Int) (args : List PVl)
def PVl.kind : PVl → Int | .mk k _ _ _ => k
def PVl.num : PVl → Int | .mk _ n _ _ => n
def PVl.list : PVl → List Int | .mk _ _ l _ => l
def PVl.args : PVl → List PVl | .mk _ _ _ a => a
theorem PVl.ind {p : PVl → Prop} (h : ∀ t, (∀ x ∈ t.args, p x) → p t) : ∀ t, p t := by
 intro t
 refine PVl.rec (motive_1 := p) (motive_2 := fun l => ∀ x ∈ l, p x) (fun k n l a i1 => h _ i1) (by simp) (fun a l ha hl x hx => ?_) t
 rcases List.mem_cons.1 hx with rfl | hx
 ·exact ha
 ·exact hl x hx
mutual
def PVl.cells : PVl → List V
 | .mk k n l a => [.int .i64 k, .int .i64 n, .sl .any (ints l), .sl .any (PVl.rows a)]
def PVl.rows : List PVl → List (List V)
 | [] => []
 | r :: l => r.cells :: PVl.rows l
end
theorem PVl.rows_eq : ∀ l, PVl.rows l = l.map PVl.cells
 | [] => by simp [PVl.rows]
 | t :: l => by simp [PVl.rows, PVl.rows_eq l]
theorem PVl.cells_eq (t : PVl) : t.cells = [.int .i64 t.kind, .int .i64 t.num, .sl .any (ints t.list), .sl .any (t.args.map PVl.cells)] := by
 cases t; simp [PVl.cells, PVl.rows_eq, PVl.kind, PVl.num, PVl.list, PVl.args]
section
variable (t : PVl)
theorem PVl.cells_len : t.cells.length = 4 := by rw [PVl.cells_eq]; rfl
theorem PVl.cells_0 : t.cells[0]? = some (.int .i64 t.kind) := by rw [PVl.cells_eq]; rfl
theorem PVl.cells_1 : t.cells[1]? = some (.int .i64 t.num) := by rw [PVl.cells_eq]; rfl
theorem PVl.cells_2 : t.cells[2]? = some (.sl .any (ints t.list)) := by rw [PVl.cells_eq]; rfl
theorem PVl.cells_3 : t.cells[3]? = some (.sl .any (t.args.map PVl.cells)) := by rw [PVl.cells_eq]; rfl
theorem PVl.cells_take : List.take 4 t.cells = t.cells := List.take_of_length_le (by rw [PVl.cells_len]; exact Nat.le_refl _)
theorem PVl.cells_one : t.cells.all oneV = true := by rw [PVl.cells_eq]; rfl
end
theorem splice_PVl {cs : List V} {t : PVl} (h : cs.length = 4) : splice cs 0 t.cells = t.cells := splice_full (by rw [h, PVl.cells_len])
theorem weakL_PVl : ∀ t : PVl, weakL t.cells = t.cells := by
 intro t
 induction t using PVl.ind with
 | h t i1 =>
  rw [PVl.cells_eq]
  have e1 : weakLL (t.args.map PVl.cells) = t.args.map PVl.cells := by
   rw [weakLL_eq, List.map_map]; exact List.map_congr_left fun x hx => i1 x hx
  simp only [weakL, weak, weakLL_ints, e1]
theorem weakLL_PVl (l : List PVl) : weakLL (l.map PVl.cells) = l.map PVl.cells := by
 rw [weakLL_eq, List.map_map]; exact List.map_congr_left fun x _ => weakL_PVl x
section
variable {S : Id → Prop}
theorem InL_PVl : ∀ t : PVl, InL S t.cells := by
 intro t
 induction t using PVl.ind with
 | h t i1 =>
  rw [PVl.cells_eq]
  have e1 : InLL S (t.args.map PVl.cells) := by
   rw [InLL_mem]; intro l hl; obtain ⟨x, hx, rfl⟩ := List.mem_map.1 hl; exact i1 x hx
  simp only [InL, InV, capIn, true_and, and_true, InLL_ints, e1]
theorem InLL_PVl (l : List PVl) : InLL S (l.map PVl.cells) := by
 rw [InLL_mem]; intro x hx; obtain ⟨y, _, rfl⟩ := List.mem_map.1 hx; exact InL_PVl y
end
theorem all_len_PVl (l : List PVl) : (l.map PVl.cells).all (fun e => e.length == 4) = true := by simp [PVl.cells_len]
theorem all_one_PVl (l : List PVl) : (l.map PVl.cells).flatten.all oneV = true := by
 rw [List.all_eq_true]; intro v hv
 obtain ⟨c, hc, hv⟩ := List.mem_flatten.1 hv
 obtain ⟨x, _, rfl⟩ := List.mem_map.1 hc
 exact List.all_eq_true.1 (PVl.cells_one x) v hv
theorem PVl.mk_cells (k n : Int) (l : List Int) (a : List PVl) : (PVl.mk k n l a).cells = [.int .i64 k, .int .i64 n, .sl .any (ints l), .sl .any (a.map PVl.cells)] := PVl.cells_eq _
attribute [go_sem] InL_PVl InLL_PVl
attribute [go_sem] PVl.cells_len PVl.cells_0 PVl.cells_1 PVl.cells_2 PVl.cells_3 PVl.cells_take PVl.cells_one splice_PVl weakL_PVl weakLL_PVl all_len_PVl all_one_PVl
theorem fmPut_R {f : Fm} {t : Tm} (gf : FmG true f) (gt : TmG t) (zf : fmSz f ≤ 4096) (zt : tmSz t ≤ 4096) (lf : f.least 536870912 = true) (lt : t.least 536870912 = true) :
  fmPut f 0 t = putR f t := by
 have e1 := gf.szW (by omega)
 have e2 := gt.szW (by omega)
 have e3 := gf.times_occ 0 (by omega) (by omega)
 have hp := tmSz_pos t
 have ho := fmOcc_le f 0
 have e4 : subW t.szW 1 = ((tmSz t - 1 : Nat) : Int) := by rw [e2, subW_eq (by omega) (by omega) (by omega) (by omega)]; omega
 have hm : fmOcc f 0 * (tmSz t - 1) ≤ 4096 * 4096 := Nat.mul_le_mul (by omega) (by omega)
 have e5 : mulW (f.times 0) (subW t.szW 1) = ((fmOcc f 0 * (tmSz t - 1) : Nat) : Int) := by
  rw [e3, e4]
  unfold mulW
  exact wrap_eq (by simp) (by omega) (by omega)
 have e6 : addW f.szW (mulW (f.times 0) (subW t.szW 1)) = ((fmSz f + fmOcc f 0 * (tmSz t - 1) : Nat) : Int) := by
  rw [e5, e1, addW_eq (by omega) (by omega) (by omega) (by omega)]; simp
 unfold fmPut putR
 rw [gf.err0 (by omega), gt.err0 (by omega), lf, lt, e6]
 simp only [bne_self_eq_false, Bool.false_eq_true, if_false, Bool.not_true, Bool.or_self]
 by_cases hle : fmSz f + fmOcc f 0 * (tmSz t - 1) ≤ 4096
 ·have d1 : decide (((fmSz f + fmOcc f 0 * (tmSz t - 1) : Nat) : Int) > 4096) = false := by simp; omega
  rw [if_pos hle, d1]; rfl
 ·have d1 : decide (((fmSz f + fmOcc f 0 * (tmSz t - 1) : Nat) : Int) > 4096) = true := by simp; omega
  rw [if_neg hle, d1]; rfl
def listT : List Nat → Tm
 | [] => tm0 7 []
 | n :: l => tm0 8 [numT n, listT l]
inductive IsVl : Ty → PVl → Tm → Prop
 | num (n : Nat) : IsVl tNat (.mk 1 n [] []) (numT n)
 | list (l : List Nat) : IsVl tList (.mk 2 0 (l.map fun (n : Nat) => (n : Int)) []) (listT l)
 | unit : IsVl tUnit (.mk 4 0 [] []) (tm0 13 [])
 | pair {a b : Ty} {x y : PVl} {s t : Tm} : IsVl a x s → IsVl b y t → IsVl (tPair a b) (.mk 3 0 [] [x, y]) (tm0 10 [s, t])
theorem listT_G : ∀ l, TmG (listT l)
 | [] => .t0 (k := 7) rfl rfl
 | n :: l => .t2 (k := 8) rfl rfl (numT_G n) (listT_G l)
theorem IsVl.G {a : Ty} {v : PVl} {t : Tm} (h : IsVl a v t) : TmG t := by
 induction h with
 | num n => exact numT_G n
 | list l => exact listT_G l
 | unit => exact .t0 (k := 13) rfl rfl
 | pair _ _ h1 h2 => exact .t2 (k := 10) rfl rfl h1 h2
theorem listT_ty {g : List Ty} : ∀ l, HasTy TyG g (listT l) tList
 | [] => .n0 (ty := .mk 0 []) .nil
 | n :: l => .n2 (ty := .mk 0 []) .cons (HasTy.num n) (listT_ty l)
theorem IsVl.ty {a : Ty} {v : PVl} {t : Tm} (h : IsVl a v t) : TyG a → ∀ g, HasTy TyG g t a := by
 induction h with
 | num n => exact fun _ g => HasTy.num n
 | list l => exact fun _ g => listT_ty l
 | unit => exact fun _ g => .n0 (ty := .mk 0 []) .unit
 | pair _ _ h1 h2 =>
  intro ht g
  obtain ⟨t1, t2⟩ := ht.pair1
  exact .n2 (ty := .mk 0 []) (.pair ht) (h1 t1 g) (h2 t2 g)
theorem Dc.innG {s : Tm} {a : Ty} {g : List Ty} (gs : TmG s) (ts : HasTy TyG g s a) (zs : tmSz s ≤ 4096) (hg : g.length ≤ 100) {g' : List Ty} {f : Fm} (h : Dc g' f) :
  ∀ l : List Ty, g' = g ++ [a] ++ l → l.length + fmSz f ≤ 10000 → Dc (g ++ l) (fmInn s 0 f (l.length : Int)) := by
 have ls : s.least 536870912 = true := ts.least _ (by omega) (by omega)
 induction h with
 | @eq g' x y gx gy h1 h2 =>
  intro l e hb
  rw [fmSz_eq] at hb
  subst e
  rw [fmInn_eqn]
  have lx : x.least 536870912 = true := h1.least _ (by omega) (by simp; omega)
  have ly : y.least 536870912 = true := h2.least _ (by omega) (by simp; omega)
  exact .eq (TmG.inn gs ls _ gx (Nat.le_refl _) lx _ (by omega) (by omega)) (TmG.inn gs ls _ gy (Nat.le_refl _) ly _ (by omega) (by omega))
   (h1.inn g l rfl ts (by omega) (by omega)) (h2.inn g l rfl ts (by omega) (by omega))
 | @two g' k x y hk _ _ ih1 ih2 =>
  intro l e hb
  rw [fmSz_two] at hb
  rw [fmInn_two, below_two hk, addW_zero (by omega) (by omega)]
  exact .two hk (ih1 l e (by omega)) (ih2 l e (by omega))
 | @bnd g' all q x gq hq oq _ ih =>
  intro l e hb
  rw [bnd_sz] at hb
  subst e
  rw [bnd_inn (by omega) (by omega)]
  have lq : q.least 536870912 = true := hq.least _ (by omega) (by simp; omega)
  have e1 : ((l.length : Int) + 1) = ((l ++ [tNat]).length : Int) := by simp
  refine .bnd ?_ ?_ ?_ ?_
  ·exact TmG.inn gs ls _ gq (Nat.le_refl _) lq _ (by omega) (by omega)
  ·rw [e1, List.append_assoc]; exact hq.inn g (l ++ [tNat]) (by simp) ts (by simp; omega) (by omega)
  ·rw [TmG.inn_occ gs (by omega) (least_mono (by omega) _ ls) _ gq (Nat.le_refl _) (least_mono (by omega) _ lq) _ 0 (by omega) (by omega) (by omega)]; exact oq
  ·rw [e1, List.append_assoc]; exact ih (l ++ [tNat]) (by simp) (by simp; omega)
theorem Dc.inn0 {s : Tm} {a : Ty} {g : List Ty} {f : Fm} (h : Dc (g ++ [a]) f) (gs : TmG s) (ts : HasTy TyG g s a) (zs : tmSz s ≤ 4096) (hg : g.length ≤ 100) (zf : fmSz f ≤ 4096) : Dc g (fmInn s 0 f 0) := by
 have := h.innG gs ts zs hg [] (by simp) (by simp; omega)
 simpa using this
def putsR : Fm → List Tm → Fm × Int
 | f, [] => (f, 0)
 | f, t :: l => if (putR f t).2 != 0 then (zeroF, (putR f t).2) else putsR (putR f t).1 l
theorem putR_dc {f : Fm} {g : List Ty} {a : Ty} {v : PVl} {t : Tm} (hf : Dc (g ++ [a]) f) (hv : IsVl a v t) (ha : TyG a) (zt : tmSz t ≤ 4096) (hg : g.length ≤ 100) (zf : fmSz f ≤ 4096) (h : (putR f t).2 = 0) :
  Dc g (putR f t).1 ∧ fmSz (putR f t).1 ≤ 4096 := by
 unfold putR at h ⊢
 split at h
 ·rename_i hle
  rw [if_pos hle]
  refine ⟨hf.inn0 hv.G (hv.ty ha g) zt hg zf, ?_⟩
  rw [(hf.G (u := true)).inn_sz 0 (by omega) (by omega)]
  exact hle
 ·simp at h
def lsz : List Nat → Nat
 | [] => 1
 | n :: l => n + 2 + lsz l
theorem listT_sz : ∀ l, tmSz (listT l) = lsz l
 | [] => by rw [listT, tmSz_0]; rfl
 | n :: l => by rw [listT, tmSz_2, tmSz_num, listT_sz l, lsz]; omega
theorem lsz_take : ∀ {l : List Nat} {i x : Nat}, l[i]? = some x → lsz (l.take (i + 1)) = lsz (l.take i) + x + 2
 | [], i, x, h => by simp at h
 | y :: l, 0, x, h => by simp at h; subst h; simp [lsz]; omega
 | y :: l, i + 1, x, h => by
  have := lsz_take (l := l) (i := i) (x := x) (by simpa using h)
  rw [List.take_succ_cons, List.take_succ_cons, lsz, lsz, this]; omega
theorem lsz_take_le : ∀ (l : List Nat) (i : Nat), lsz (l.take i) ≤ lsz l
 | [], i => by simp
 | y :: l, 0 => by simp [lsz]; omega
 | y :: l, i + 1 => by have := lsz_take_le l i; rw [List.take_succ_cons, lsz, lsz]; omega
theorem lsz_len : ∀ l : List Nat, l.length * 2 + 1 ≤ lsz l
 | [] => by simp [lsz]
 | y :: l => by have := lsz_len l; rw [lsz, List.length_cons]; omega
theorem lsz_mem : ∀ {l : List Nat} {x : Nat}, x ∈ l → x + 3 ≤ lsz l
 | [], x, h => by simp at h
 | y :: l, x, h => by
  rw [lsz]
  rcases List.mem_cons.1 h with rfl | h
  ·have := lsz_len l; omega
  ·have := lsz_mem h; omega
inductive VlW : PVl → Prop
 | mk (k n : Int) (l : List Int) (a : List PVl) : l.length ≤ 5000 → a.length ≤ 1000 → (∀ x ∈ a, VlW x) → VlW (.mk k n l a)
theorem VlW.len {v : PVl} (h : VlW v) : v.args.length ≤ 1000 := by cases h; assumption
theorem VlW.arg {v : PVl} (h : VlW v) : ∀ x ∈ v.args, VlW x := by cases h; assumption
mutual
def PVl.nd : PVl → Int
 | .mk _ _ _ a => PVl.ndL 1 a
def PVl.ndL : Int → List PVl → Int
 | n, [] => n
 | n, x :: l => PVl.ndL (addW n x.nd) l
end
theorem PVl.nd_eq (v : PVl) : v.nd = PVl.ndL 1 v.args := by cases v; rw [PVl.nd]; rfl
theorem PVl.ndL_nil (n : Int) : PVl.ndL n [] = n := by rw [PVl.ndL]
theorem PVl.ndL_cons (n : Int) (x : PVl) (l : List PVl) : PVl.ndL n (x :: l) = PVl.ndL (addW n x.nd) l := by rw [PVl.ndL]
theorem IsVl.nd {a : Ty} {v : PVl} {t : Tm} (h : IsVl a v t) : tySz a ≤ 1000 → v.nd = (tySz a : Int) := by
 induction h with
 | num n => intro _; rw [tySz_nat]; rfl
 | list l => intro _; rw [tySz_list]; rfl
 | unit => intro _; rw [tySz_unit]; rfl
 | pair _ _ h1 h2 =>
  intro hb
  rw [tySz_pair] at hb ⊢
  have z1 := h1 (by omega)
  have z2 := h2 (by omega)
  rw [PVl.nd_eq, PVl.args, PVl.ndL_cons, PVl.ndL_cons, PVl.ndL_nil, z1, z2]
  rw [addW_eq (a := 1) (by omega) (by omega) (by omega) (by omega), addW_eq (by omega) (by omega) (by omega) (by omega)]
  omega
theorem IsVl.W {a : Ty} {v : PVl} {t : Tm} (h : IsVl a v t) : tmSz t ≤ 4096 → VlW v := by
 induction h with
 | num n => intro _; exact .mk _ _ _ _ (by simp) (by simp) (by simp)
 | list l => intro hb; rw [listT_sz] at hb; have := lsz_len l; exact .mk _ _ _ _ (by simp; omega) (by simp) (by simp)
 | unit => intro _; exact .mk _ _ _ _ (by simp) (by simp) (by simp)
 | pair _ _ h1 h2 =>
  intro hb
  rw [tmSz_2] at hb
  exact .mk _ _ _ _ (by simp) (by simp) (by simp [h1 (by omega), h2 (by omega)])
theorem IsVl.mem {l : List Nat} (hb : lsz l ≤ 4096) : (∀ x ∈ l, x ≤ 4096) ∧ l.length ≤ 4096 := ⟨fun x hx => by have := lsz_mem hx; omega, by have := lsz_len l; omega⟩
inductive IsVls : List Ty → List PVl → List Tm → Prop
 | nil : IsVls [] [] []
 | snoc {g : List Ty} {l : List PVl} {ts : List Tm} {a : Ty} {v : PVl} {t : Tm} : IsVls g l ts → IsVl a v t → TyG a → tmSz t ≤ 4096 → IsVls (g ++ [a]) (l ++ [v]) (ts ++ [t])
theorem IsVls.len {g : List Ty} {l : List PVl} {ts : List Tm} (h : IsVls g l ts) : l.length = g.length ∧ ts.length = g.length := by
 induction h with
 | nil => exact ⟨rfl, rfl⟩
 | snoc _ _ _ _ ih => simp [ih.1, ih.2]
theorem IsVls.at {g : List Ty} {l : List PVl} {ts : List Tm} (h : IsVls g l ts) : ∀ i, i < g.length → ∃ a v t, g[i]? = some a ∧ l[i]? = some v ∧ ts[i]? = some t ∧ IsVl a v t ∧ TyG a ∧ tmSz t ≤ 4096 := by
 induction h with
 | nil => intro i hi; simp at hi
 | @snoc g l ts a v t hs hv ha hz ih =>
  intro i hi
  obtain ⟨l1, l2⟩ := hs.len
  by_cases hlt : i < g.length
  ·obtain ⟨a', v', t', h1, h2, h3, h4⟩ := ih i hlt
   exact ⟨a', v', t', by rw [List.getElem?_append_left hlt]; exact h1, by rw [List.getElem?_append_left (by omega)]; exact h2, by rw [List.getElem?_append_left (by omega)]; exact h3, h4⟩
  ·obtain rfl : i = g.length := by simp at hi; omega
   exact ⟨a, v, t, by simp, by rw [← l1]; simp, by rw [← l2]; simp, hv, ha, hz⟩
def holdsR (lim : Nat) (f : Fm) (ts : List Tm) : Ans := if (putsR f ts.reverse).2 != 0 then (false, 0, (putsR f ts.reverse).2) else dA lim (putsR f ts.reverse).1
theorem take_rev {ts : List Tm} {i : Nat} {t : Tm} (h : ts[i]? = some t) : (ts.take (i + 1)).reverse = t :: (ts.take i).reverse := by
 rw [List.take_add_one, h]; simp
theorem take_ty {g : List Ty} {i : Nat} {t : Ty} (h : g[i]? = some t) : g.take (i + 1) = g.take i ++ [t] := by
 rw [List.take_add_one, h]; rfl
theorem hR_holds (lim : Nat) (f : Fm) (k : Nat) : holdsR lim f [numT k] = hR lim f k := by
 have h1 : (([numT k] : List Tm).reverse) = [numT k] := rfl
 have h2 : putsR f [numT k] = if (putR f (numT k)).2 != 0 then (zeroF, (putR f (numT k)).2) else ((putR f (numT k)).1, 0) := rfl
 unfold holdsR hR
 rw [h1, h2]
 cases hz : ((putR f (numT k)).2 != 0) with
 | true => simp [hz]
 | false => simp
def PlainTy (t : Ty) : Prop := t = tNat ∨ t = tList ∨ t = tUnit ∨ t = tPair tNat tList ∨ t = tPair tNat tNat
theorem PlainTy.mk {t : Ty} (h : PlainTy t) : MkTy 1 t := by
 rcases h with rfl | rfl | rfl | rfl | rfl
 ·exact .nat
 ·exact .list
 ·exact .unit
 ·exact .pair .nat .list
 ·exact .pair .nat .nat
inductive NodeEr : Int → Ty → List Ty → Int → Prop
 | app {ty a b : Ty} : (∀ s, a ≠ tFun b s) → NodeEr 3 ty [a, b] 7
 | succ {ty a : Ty} : a ≠ tNat → NodeEr 5 ty [a] 7
 | recr {t a b c : Ty} : ¬(a = t ∧ b = tFun tNat (tFun t t) ∧ c = tNat) → NodeEr 6 t [a, b, c] 7
 | cons {ty a b : Ty} : ¬(a = tNat ∧ b = tList) → NodeEr 8 ty [a, b] 7
 | fold {t a b c : Ty} : ¬(a = t ∧ b = tFun tNat (tFun tList (tFun t t)) ∧ c = tList) → NodeEr 9 t [a, b, c] 7
 | pair {ty a b : Ty} : 63 < tySz a + tySz b → NodeEr 10 ty [a, b] 4
 | fst {ty a : Ty} : (∀ x y, a ≠ tPair x y) → NodeEr 11 ty [a] 7
 | snd {ty a : Ty} : (∀ x y, a ≠ tPair x y) → NodeEr 12 ty [a] 7
inductive TmEr : List Ty → Tm → Int → Prop
 | var {g : List Ty} {i : Int} : (g.length : Int) ≤ i → TmEr g (tmVar i) 6
 | lamE {g : List Ty} {a : Ty} {b : Tm} {e : Int} : TyG a → TmEr (g ++ [a]) b e → TmEr g (tmT 2 a [b]) e
 | lamS {g : List Ty} {a s : Ty} {b : Tm} : HasTy TyG (g ++ [a]) b s → TyG a → TyG s → 63 < tySz a + tySz s → TmEr g (tmT 2 a [b]) 4
 | arg {g : List Ty} {k : Int} {ty : Ty} {l : List Tm} {ts : List Ty} {x : Tm} {e : Int} : (k == 1) = false → (k == 2) = false → l.length ≤ 3 → (∀ a ∈ ts, TyG a) → (∀ (j : Nat) (y : Tm) (a : Ty), l[j]? = some y → ts[j]? = some a → HasTy TyG g y a) → l[ts.length]? = some x → TmEr g x e →
   TmEr g (tmT k ty l) e
 | node {g : List Ty} {k : Int} {ty : Ty} {l : List Tm} {ts : List Ty} {e : Int} : l.length = ts.length → (∀ a ∈ ts, TyG a) → (∀ (j : Nat) (y : Tm) (a : Ty), l[j]? = some y → ts[j]? = some a → HasTy TyG g y a) → NodeEr k ty ts e → TmEr g (tmT k ty l) e
theorem NodeEr.ne {k : Int} {ty : Ty} {ts : List Ty} {e : Int} (h : NodeEr k ty ts e) : (e != 0) = true := by cases h <;> rfl
theorem TmEr.ne {g : List Ty} {t : Tm} {e : Int} (h : TmEr g t e) : (e != 0) = true := by
 induction h with
 | var _ => rfl
 | lamE _ _ ih => exact ih
 | lamS _ _ _ _ => rfl
 | arg _ _ _ _ _ _ _ ih => exact ih
 | node _ _ _ h => exact h.ne
theorem HasTy.node {Q : Ty → Prop} {g : List Ty} {k : Int} {ty s : Ty} {l : List Tm} {ts : List Ty} (hl : l.length = ts.length) (h : ∀ (j : Nat) (y : Tm) (a : Ty), l[j]? = some y → ts[j]? = some a → HasTy Q g y a) (hn : NodeTy Q k ty ts s) : HasTy Q g (tmT k ty l) s := by
 have c0 : ts = [] → HasTy Q g (tmT k ty l) s := by
  rintro rfl
  obtain rfl : l = [] := List.eq_nil_of_length_eq_zero hl
  exact .n0 hn
 have c1 : ∀ a, ts = [a] → HasTy Q g (tmT k ty l) s := by
  rintro a rfl
  match l, hl with
  | [x], _ => exact .n1 hn (h 0 x a rfl rfl)
 have c2 : ∀ a b, ts = [a, b] → HasTy Q g (tmT k ty l) s := by
  rintro a b rfl
  match l, hl with
  | [x, y], _ => exact .n2 hn (h 0 x a rfl rfl) (h 1 y b rfl rfl)
 have c3 : ∀ a b c, ts = [a, b, c] → HasTy Q g (tmT k ty l) s := by
  rintro a b c rfl
  match l, hl with
  | [x, y, z], _ => exact .n3 hn (h 0 x a rfl rfl) (h 1 y b rfl rfl) (h 2 z c rfl rfl)
 cases hn with
 | app => exact c2 _ _ rfl
 | zero => exact c0 rfl
 | succ => exact c1 _ rfl
 | recr => exact c3 _ _ _ rfl
 | nil => exact c0 rfl
 | cons => exact c2 _ _ rfl
 | fold => exact c3 _ _ _ rfl
 | pair => exact c2 _ _ rfl
 | fst => exact c1 _ rfl
 | snd => exact c1 _ rfl
 | unit => exact c0 rfl
theorem first_er {g : List Ty} : ∀ l : List Tm, (∀ x ∈ l, (∃ s, HasTy TyG g x s ∧ TyG s) ∨ ∃ e, TmEr g x e) →
  (∃ ts : List Ty, l.length = ts.length ∧ (∀ a ∈ ts, TyG a) ∧ ∀ (j : Nat) (y : Tm) (a : Ty), l[j]? = some y → ts[j]? = some a → HasTy TyG g y a) ∨
  (∃ (ts : List Ty) (x : Tm) (e : Int), l[ts.length]? = some x ∧ TmEr g x e ∧ (∀ a ∈ ts, TyG a) ∧ ∀ (j : Nat) (y : Tm) (a : Ty), l[j]? = some y → ts[j]? = some a → HasTy TyG g y a)
 | [], _ => .inl ⟨[], rfl, by simp, by simp⟩
 | x :: l, h => by
  rcases h x (by simp) with ⟨s, h1, h2⟩ | ⟨e, h1⟩
  ·rcases first_er l (fun y hy => h y (by simp [hy])) with ⟨ts, a1, a2, a3⟩ | ⟨ts, y, e, a1, a2, a4, a3⟩
   ·refine .inl ⟨s :: ts, by simp [a1], by simpa using ⟨h2, a2⟩, fun j y a hy ha => ?_⟩
    match j with
    | 0 => simp at hy ha; subst hy; subst ha; exact h1
    | j + 1 => exact a3 j y a (by simpa using hy) (by simpa using ha)
   ·refine .inr ⟨s :: ts, y, e, by simpa using a1, a2, by simpa using ⟨h2, a4⟩, fun j y a hy ha => ?_⟩
    match j with
    | 0 => simp at hy ha; subst hy; subst ha; exact h1
    | j + 1 => exact a3 j y a (by simpa using hy) (by simpa using ha)
  ·exact .inr ⟨[], x, e, rfl, h1, by simp, by simp⟩
theorem TyG.cases4 {a : Ty} (h : TyG a) : a = tNat ∨ a = tList ∨ a = tUnit ∨ (∃ x y, a = tPair x y ∧ TyG x ∧ TyG y) ∨ ∃ x y, a = tFun x y ∧ TyG x ∧ TyG y := by
 have h' := h
 obtain ⟨h, hs⟩ := h
 cases h with
 | nat => exact .inl rfl
 | list => exact .inr (.inl rfl)
 | unit => exact .inr (.inr (.inl rfl))
 | pair _ _ => exact .inr (.inr (.inr (.inl ⟨_, _, rfl, h'.pair1⟩)))
 | func _ _ => exact .inr (.inr (.inr (.inr ⟨_, _, rfl, h'.fun1⟩)))
theorem node_total {k : Int} {ty : Ty} {ts : List Ty} {n : Int} (hk : arity k = some n) (h1 : (k == 1) = false) (h2 : (k == 2) = false) (hn : (ts.length : Int) = n) (ht : typed k = true → TyG ty) (hts : ∀ a ∈ ts, TyG a) :
  (∃ s, NodeTy TyG k ty ts s ∧ TyG s) ∨ ∃ e, NodeEr k ty ts e := by
 have hk3 : k = 3 ∨ k = 4 ∨ k = 5 ∨ k = 6 ∨ k = 7 ∨ k = 8 ∨ k = 9 ∨ k = 10 ∨ k = 11 ∨ k = 12 ∨ k = 13 := by
  unfold arity at hk
  split at hk
  ·cases hk
  ·have : k ≠ 1 := by intro e; subst e; cases h1
   have : k ≠ 2 := by intro e; subst e; cases h2
   omega
 have len0 : ts.length = 0 → ts = [] := List.eq_nil_of_length_eq_zero
 have len1 : ts.length = 1 → ∃ a, ts = [a] := fun h => List.length_eq_one_iff.1 h
 have len2 : ts.length = 2 → ∃ a b, ts = [a, b] := fun h => by
  match ts, h with
  | [a, b], _ => exact ⟨a, b, rfl⟩
 have len3 : ts.length = 3 → ∃ a b c, ts = [a, b, c] := fun h => by
  match ts, h with
  | [a, b, c], _ => exact ⟨a, b, c, rfl⟩
 rcases hk3 with rfl | rfl | rfl | rfl | rfl | rfl | rfl | rfl | rfl | rfl | rfl <;> simp [arity, arities] at hk <;> subst hk
 ·obtain ⟨a, b, rfl⟩ := len2 (by omega)
  by_cases h : ∃ s, a = tFun b s
  ·obtain ⟨s, rfl⟩ := h
   exact .inl ⟨s, .app, (hts _ (by simp) : TyG (tFun b s)).fun1.2⟩
  ·exact .inr ⟨_, .app fun s e => h ⟨s, e⟩⟩
 ·obtain rfl := len0 (by omega)
  exact .inl ⟨_, .zero, .nat⟩
 ·obtain ⟨a, rfl⟩ := len1 (by omega)
  by_cases h : a = tNat
  ·subst h; exact .inl ⟨_, .succ, .nat⟩
  ·exact .inr ⟨_, .succ h⟩
 ·obtain ⟨a, b, c, rfl⟩ := len3 (by omega)
  by_cases h : a = ty ∧ b = tFun tNat (tFun ty ty) ∧ c = tNat
  ·obtain ⟨rfl, rfl, rfl⟩ := h; exact .inl ⟨_, .recr, ht rfl⟩
  ·exact .inr ⟨_, .recr h⟩
 ·obtain rfl := len0 (by omega)
  exact .inl ⟨_, .nil, .list⟩
 ·obtain ⟨a, b, rfl⟩ := len2 (by omega)
  by_cases h : a = tNat ∧ b = tList
  ·obtain ⟨rfl, rfl⟩ := h; exact .inl ⟨_, .cons, .list⟩
  ·exact .inr ⟨_, .cons h⟩
 ·obtain ⟨a, b, c, rfl⟩ := len3 (by omega)
  by_cases h : a = ty ∧ b = tFun tNat (tFun tList (tFun ty ty)) ∧ c = tList
  ·obtain ⟨rfl, rfl, rfl⟩ := h; exact .inl ⟨_, .fold, ht rfl⟩
  ·exact .inr ⟨_, .fold h⟩
 ·obtain ⟨a, b, rfl⟩ := len2 (by omega)
  have ga := hts a (by simp)
  have gb := hts b (by simp)
  by_cases h : 63 < tySz a + tySz b
  ·exact .inr ⟨_, .pair h⟩
  ·have := TyG.pair' ga.1 gb.1 (by omega)
   exact .inl ⟨_, .pair this, this⟩
 ·obtain ⟨a, rfl⟩ := len1 (by omega)
  by_cases h : ∃ x y, a = tPair x y
  ·obtain ⟨x, y, rfl⟩ := h
   exact .inl ⟨x, .fst, (hts _ (by simp) : TyG (tPair x y)).pair1.1⟩
  ·exact .inr ⟨_, .fst fun x y e => h ⟨x, y, e⟩⟩
 ·obtain ⟨a, rfl⟩ := len1 (by omega)
  by_cases h : ∃ x y, a = tPair x y
  ·obtain ⟨x, y, rfl⟩ := h
   exact .inl ⟨y, .snd, (hts _ (by simp) : TyG (tPair x y)).pair1.2⟩
  ·exact .inr ⟨_, .snd fun x y e => h ⟨x, y, e⟩⟩
 ·obtain rfl := len0 (by omega)
  exact .inl ⟨_, .unit, .unit⟩
theorem tm_total {t : Tm} (h : TmG t) : ∀ g : List Ty, (∀ y ∈ g, TyG y) → (∃ s, HasTy TyG g t s ∧ TyG s) ∨ ∃ e, TmEr g t e := by
 have var : ∀ (i : Int), 0 ≤ i → ∀ g : List Ty, (∀ y ∈ g, TyG y) → (∃ s, HasTy TyG g (tmVar i) s ∧ TyG s) ∨ ∃ e, TmEr g (tmVar i) e := by
  intro i hi g hg
  by_cases h : (g.length : Int) ≤ i
  ·exact .inr ⟨_, .var h⟩
  ·obtain ⟨n, rfl⟩ : ∃ n : Nat, i = n := ⟨i.toNat, by omega⟩
   have hx : g[g.length - 1 - n]? = some (g[g.length - 1 - n]'(by omega)) := List.getElem?_eq_getElem (by omega)
   exact .inl ⟨_, .var (by omega) hx, hg _ (List.getElem_mem _)⟩
 have nd : ∀ (k : Int) (ty : Ty) (l : List Tm) (n : Int), arity k = some n → (l.length : Int) = n → (k == 1) = false → (k == 2) = false → (typed k = true → TyG ty) → (∀ x ∈ l, ∀ g : List Ty, (∀ y ∈ g, TyG y) → (∃ s, HasTy TyG g x s ∧ TyG s) ∨ ∃ e, TmEr g x e) →
   ∀ g : List Ty, (∀ y ∈ g, TyG y) → (∃ s, HasTy TyG g (tmT k ty l) s ∧ TyG s) ∨ ∃ e, TmEr g (tmT k ty l) e := by
  intro k ty l n ha hl k1 k2 ht ih g hg
  rcases first_er l (fun x hx => ih x hx g hg) with ⟨ts, a1, a2, a3⟩ | ⟨ts, x, e, a1, a2, a4, a3⟩
  ·rcases node_total (ts := ts) ha k1 k2 (by omega) ht a2 with ⟨s, b1, b2⟩ | ⟨e, b1⟩
   ·exact .inl ⟨s, HasTy.node a1 a3 b1, b2⟩
   ·exact .inr ⟨e, .node a1 a2 a3 b1⟩
  ·refine .inr ⟨e, .arg k1 k2 ?_ a4 a3 a1 a2⟩
   have : n ≤ 3 := by
    unfold arity at ha
    split at ha
    ·cases ha
    ·rename_i hk
     have : k = 1 ∨ k = 2 ∨ k = 3 ∨ k = 4 ∨ k = 5 ∨ k = 6 ∨ k = 7 ∨ k = 8 ∨ k = 9 ∨ k = 10 ∨ k = 11 ∨ k = 12 ∨ k = 13 := by omega
     rcases this with rfl | rfl | rfl | rfl | rfl | rfl | rfl | rfl | rfl | rfl | rfl | rfl | rfl <;> simp [arities] at ha <;> omega
   omega
 induction h with
 | @plain k l a ha hl ht _ ih =>
  intro g hg
  by_cases k1 : k = 1
  ·subst k1
   simp [arity, arities] at ha
   subst ha
   obtain rfl : l = [] := List.eq_nil_of_length_eq_zero (by omega)
   exact var 0 (by omega) g hg
  ·have k2 : (k == 2) = false := by
    cases e : (k == 2) with
    | false => rfl
    | true => rw [beq_iff_eq] at e; subst e; cases ht
   exact nd k (.mk 0 []) l a ha hl (by simpa using k1) k2 (fun e => by rw [ht] at e; cases e) ih g hg
 | @var i hi => exact var i hi
 | @typd k ty l a ha hl ht hty _ ih =>
  intro g hg
  by_cases k2 : k = 2
  ·subst k2
   simp [arity, arities] at ha
   subst ha
   obtain ⟨b, rfl⟩ : ∃ b, l = [b] := List.length_eq_one_iff.1 (by omega)
   rcases ih b (by simp) (g ++ [ty]) (by intro y hy; rcases List.mem_append.1 hy with hy | hy; exact hg y hy; simp at hy; subst hy; exact hty) with ⟨s, a1, a2⟩ | ⟨e, a1⟩
   ·by_cases h : 63 < tySz ty + tySz s
    ·exact .inr ⟨_, .lamS a1 hty a2 h⟩
    ·have := TyG.fun' hty.1 a2.1 (by omega)
     exact .inl ⟨_, .lam this a1, this⟩
   ·exact .inr ⟨_, .lamE hty a1⟩
  ·have k1 : (k == 1) = false := by
    cases e : (k == 1) with
    | false => rfl
    | true => rw [beq_iff_eq] at e; subst e; cases ht
   exact nd k ty l a ha hl k1 (by simpa using k2) (fun _ => hty) ih g hg
inductive FmEr : List Ty → Fm → Int → Prop
 | eq1 {g : List Ty} {x y : Tm} {e : Int} : TmEr g x e → FmEr g (fmEq x y) e
 | eq1T {g : List Ty} {x y : Tm} {s : Ty} : HasTy TyG g x s → TyG s → s ≠ tNat → FmEr g (fmEq x y) 7
 | eq2 {g : List Ty} {x y : Tm} {e : Int} : HasTy TyG g x tNat → TmEr g y e → FmEr g (fmEq x y) e
 | eq2T {g : List Ty} {x y : Tm} {s : Ty} : HasTy TyG g x tNat → HasTy TyG g y s → TyG s → s ≠ tNat → FmEr g (fmEq x y) 7
 | two1 {g : List Ty} {k : Int} {a b : Fm} {e : Int} (hk : k = 2 ∨ k = 3) : FmEr g a e → FmEr g (fmTwo k a b) e
 | two2 {g : List Ty} {k : Int} {a b : Fm} {e : Int} (hk : k = 2 ∨ k = 3) : FmTy TyG g a → FmEr g b e → FmEr g (fmTwo k a b) e
 | q {g : List Ty} {k : Int} {s : Ty} {a : Fm} {e : Int} (hk : k = 4 ∨ k = 5 ∨ k = 6 ∨ k = 7) : TyG s → FmEr (g ++ [s]) a e → FmEr g (fmQ k s a) e
theorem FmEr.ne {g : List Ty} {f : Fm} {e : Int} (h : FmEr g f e) : (e != 0) = true := by
 induction h with
 | eq1 h => exact h.ne
 | eq1T _ _ _ => rfl
 | eq2 _ h => exact h.ne
 | eq2T _ _ _ _ => rfl
 | two1 _ _ ih => exact ih
 | two2 _ _ _ ih => exact ih
 | q _ _ _ ih => exact ih
theorem fm_total {u : Bool} {f : Fm} (h : FmG u f) : ∀ g : List Ty, (∀ y ∈ g, TyG y) → FmTy TyG g f ∨ ∃ e, FmEr g f e := by
 induction h with
 | @eq x y hx hy =>
  intro g hg
  rcases tm_total hx g hg with ⟨s, a1, a2⟩ | ⟨e, a1⟩
  ·by_cases h : s = tNat
   ·subst h
    rcases tm_total hy g hg with ⟨s, b1, b2⟩ | ⟨e, b1⟩
    ·by_cases h : s = tNat
     ·subst h; exact .inl (.eq a1 b1)
     ·exact .inr ⟨_, .eq2T a1 b1 b2 h⟩
    ·exact .inr ⟨_, .eq2 a1 b1⟩
   ·exact .inr ⟨_, .eq1T a1 a2 h⟩
  ·exact .inr ⟨_, .eq1 a1⟩
 | @two k a b hk _ _ ih1 ih2 =>
  intro g hg
  rcases ih1 g hg with h1 | ⟨e, h1⟩
  ·rcases ih2 g hg with h2 | ⟨e, h2⟩
   ·exact .inl (.two hk h1 h2)
   ·exact .inr ⟨_, .two2 hk h1 h2⟩
  ·exact .inr ⟨_, .two1 hk h1⟩
 | @q k s a hk hs _ ih =>
  intro g hg
  have hk' : k = 4 ∨ k = 5 ∨ k = 6 ∨ k = 7 := by rcases hk with h | h | ⟨_, h | h⟩ <;> simp [h]
  rcases ih (g ++ [s]) (by intro y hy; rcases List.mem_append.1 hy with hy | hy; exact hg y hy; simp at hy; subst hy; exact hs) with h1 | ⟨e, h1⟩
  ·exact .inl (.q hk' h1)
  ·exact .inr ⟨_, .q hk' hs h1⟩
theorem same_ne {a b : Ty} (h : a ≠ b) : Ty.same a b = false := by
 cases e : Ty.same a b with
 | false => rfl
 | true => exact absurd (Ty.same_true e) h
theorem TyG.notFun {a b : Ty} (h : TyG a) (hn : ∀ s, a ≠ tFun b s) : (a.kind != 4) = true ∨ ∃ x y, a = tFun x y ∧ x ≠ b ∧ TyG x := by
 rcases h.cases4 with rfl | rfl | rfl | ⟨x, y, rfl, _⟩ | ⟨x, y, rfl, hx, hy⟩
 ·exact .inl rfl
 ·exact .inl rfl
 ·exact .inl rfl
 ·exact .inl rfl
 ·exact .inr ⟨x, y, rfl, fun e => by subst e; exact hn _ rfl, hx⟩
theorem TyG.notPair {a : Ty} (h : TyG a) (hn : ∀ x y, a ≠ tPair x y) : (a.kind != 3) = true := by
 rcases h.cases4 with rfl | rfl | rfl | ⟨x, y, rfl, _⟩ | ⟨x, y, rfl, hx, hy⟩
 ·rfl
 ·rfl
 ·rfl
 ·exact absurd rfl (hn x y)
 ·rfl
theorem TyG.notNat {a : Ty} (h : TyG a) (hn : a ≠ tNat) : (a.kind != 1) = true := by
 rcases h.cases4 with rfl | rfl | rfl | ⟨x, y, rfl, _⟩ | ⟨x, y, rfl, hx, hy⟩
 ·exact absurd rfl hn
 ·rfl
 ·rfl
 ·rfl
 ·rfl
theorem FmG.eqn {u : Bool} {x y : Tm} (h : FmG u (fmEq x y)) : TmG x ∧ TmG y := by
 generalize e : fmEq x y = f at h
 cases h with
 | eq h1 h2 => simp [fmEq] at e; obtain ⟨rfl, rfl⟩ := e; exact ⟨h1, h2⟩
 | two hk _ _ => simp [fmEq, fmTwo] at e
 | q hk _ _ => simp [fmEq, fmQ] at e
theorem FmG.twoA {u : Bool} {k : Int} {a b : Fm} (h : FmG u (fmTwo k a b)) (hk : k = 2 ∨ k = 3) : FmG u a ∧ FmG u b := by
 generalize e : fmTwo k a b = f at h
 cases h with
 | eq h1 h2 => simp [fmEq, fmTwo] at e
 | two hk h1 h2 => simp [fmTwo] at e; obtain ⟨rfl, rfl, rfl⟩ := e; exact ⟨h1, h2⟩
 | q hk _ _ => simp [fmTwo, fmQ] at e
theorem FmG.qA {u : Bool} {k : Int} {s : Ty} {a : Fm} (h : FmG u (fmQ k s a)) (hk : k = 4 ∨ k = 5 ∨ k = 6 ∨ k = 7) : FmG u a := by
 generalize e : fmQ k s a = f at h
 cases h with
 | eq h1 h2 => simp [fmEq, fmQ] at e
 | two hk h1 h2 => simp [fmTwo, fmQ] at e
 | q hk _ h1 => simp [fmQ] at e; obtain ⟨rfl, rfl, rfl⟩ := e; exact h1
theorem TyG.notList {a : Ty} (h : TyG a) (hn : a ≠ tList) : (a.kind != 2) = true := by
 rcases h.cases4 with rfl | rfl | rfl | ⟨x, y, rfl, _⟩ | ⟨x, y, rfl, hx, hy⟩
 ·rfl
 ·exact absurd rfl hn
 ·rfl
 ·rfl
 ·rfl
theorem TmG.tyG {k : Int} {ty : Ty} {l : List Tm} (h : TmG (tmT k ty l)) (hk : typed k = true) : TyG ty := by
 generalize e : tmT k ty l = t at h
 cases h with
 | plain _ _ ht _ => simp [tmT, tm0] at e; obtain ⟨rfl, _, _⟩ := e; rw [ht] at hk; cases hk
 | var _ => simp [tmT, tmVar] at e; obtain ⟨rfl, _⟩ := e; cases hk
 | typd _ _ _ hg _ => simp [tmT] at e; obtain ⟨_, rfl, _⟩ := e; exact hg
mutual
def Ty.cnt : Ty → Nat → Nat
 | .mk _ l, m => Ty.cntL m 1 l
def Ty.cntL (m : Nat) : Nat → List Ty → Nat
 | n, [] => n
 | n, t :: l => if n ≤ m then Ty.cntL m (n + t.cnt (m - n)) l else n
end
theorem Ty.cnt_eq (t : Ty) (m : Nat) : t.cnt m = Ty.cntL m 1 t.args := by cases t; rw [Ty.cnt]; rfl
theorem Ty.cntL_nil {m n : Nat} : Ty.cntL m n [] = n := by rw [Ty.cntL]
theorem Ty.cntL_cons {m n : Nat} {t : Ty} {l : List Ty} (h : n ≤ m) : Ty.cntL m n (t :: l) = Ty.cntL m (n + t.cnt (m - n)) l := by rw [Ty.cntL, if_pos h]
theorem Ty.cntL_stop {m n : Nat} {l : List Ty} (h : ¬ n ≤ m) : Ty.cntL m n l = n := by cases l <;> rw [Ty.cntL]; rw [if_neg h]
def tyCnt (t : Ty) (m : Nat) : Nat := if m = 0 then 1 else t.cnt (m - 1)
mutual
def Tm.cnt : Tm → Nat → Nat
 | .mk _ _ ty l, m => Tm.cntL m (1 + tyCnt ty m) l
def Tm.cntL (m : Nat) : Nat → List Tm → Nat
 | n, [] => n
 | n, t :: l => if n ≤ m then Tm.cntL m (n + t.cnt (m - n)) l else n
end
theorem Tm.cnt_eq (t : Tm) (m : Nat) : t.cnt m = Tm.cntL m (1 + tyCnt t.type m) t.args := by cases t; rw [Tm.cnt]; rfl
theorem Tm.cntL_nil {m n : Nat} : Tm.cntL m n [] = n := by rw [Tm.cntL]
theorem Tm.cntL_cons {m n : Nat} {t : Tm} {l : List Tm} (h : n ≤ m) : Tm.cntL m n (t :: l) = Tm.cntL m (n + t.cnt (m - n)) l := by rw [Tm.cntL, if_pos h]
theorem Tm.cntL_stop {m n : Nat} {l : List Tm} (h : ¬ n ≤ m) : Tm.cntL m n l = n := by cases l <;> rw [Tm.cntL]; rw [if_neg h]
theorem Ty.cntL_ge : ∀ (l : List Ty) (m n : Nat), n ≤ Ty.cntL m n l
 | [], m, n => by rw [Ty.cntL]; omega
 | t :: l, m, n => by
  rw [Ty.cntL]; split
  ·have := Ty.cntL_ge l m (n + t.cnt (m - n)); omega
  ·omega
theorem Ty.cnt_pos (t : Ty) (m : Nat) : 1 ≤ t.cnt m := by rw [Ty.cnt_eq]; exact Ty.cntL_ge _ _ _
mutual
theorem Ty.cnt_le : ∀ (t : Ty) (m : Nat), t.cnt m ≤ m + 2
 | .mk _ l, m => by rw [Ty.cnt]; exact Ty.cntL_le l m 1 (by omega)
theorem Ty.cntL_le : ∀ (l : List Ty) (m n : Nat), n ≤ m + 2 → Ty.cntL m n l ≤ m + 2
 | [], m, n, h => by rw [Ty.cntL]; exact h
 | t :: l, m, n, h => by
  rw [Ty.cntL]; split
  ·have := Ty.cnt_le t (m - n)
   exact Ty.cntL_le l m _ (by omega)
  ·exact h
end
theorem tyCnt_le (t : Ty) (m : Nat) : tyCnt t m ≤ m + 1 := by
 unfold tyCnt; split
 ·omega
 ·have := t.cnt_le (m - 1); omega
theorem tyCnt_pos (t : Ty) (m : Nat) : 1 ≤ tyCnt t m := by
 unfold tyCnt; split
 ·omega
 ·exact t.cnt_pos _
theorem Tm.cntL_ge : ∀ (l : List Tm) (m n : Nat), n ≤ Tm.cntL m n l
 | [], m, n => by rw [Tm.cntL]; omega
 | t :: l, m, n => by
  rw [Tm.cntL]; split
  ·have := Tm.cntL_ge l m (n + t.cnt (m - n)); omega
  ·omega
theorem Tm.cnt_pos (t : Tm) (m : Nat) : 1 ≤ t.cnt m := by rw [Tm.cnt_eq]; have := Tm.cntL_ge t.args m (1 + tyCnt t.type m); omega
mutual
theorem Tm.cnt_le : ∀ (t : Tm) (m : Nat), t.cnt m ≤ m + 2
 | .mk _ _ ty l, m => by rw [Tm.cnt]; exact Tm.cntL_le l m _ (by have := tyCnt_le ty m; omega)
theorem Tm.cntL_le : ∀ (l : List Tm) (m n : Nat), n ≤ m + 2 → Tm.cntL m n l ≤ m + 2
 | [], m, n, h => by rw [Tm.cntL]; exact h
 | t :: l, m, n, h => by
  rw [Tm.cntL]; split
  ·have := Tm.cnt_le t (m - n)
   exact Tm.cntL_le l m _ (by omega)
  ·exact h
end
theorem Ty.cntL_fits : ∀ (l : List Ty) (m n : Nat), Ty.cntL m n l ≤ m → (∀ x ∈ l, ∃ m', m' ≤ m ∧ x.cnt m' ≤ m') ∧ n + l.length ≤ m
 | [], m, n, h => by rw [Ty.cntL] at h; exact ⟨by simp, by simpa using h⟩
 | t :: l, m, n, h => by
  rw [Ty.cntL] at h
  split at h
  ·obtain ⟨h1, h2⟩ := Ty.cntL_fits l m _ h
   have := t.cnt_pos (m - n)
   refine ⟨fun x hx => ?_, by simp only [List.length_cons]; omega⟩
   rcases List.mem_cons.1 hx with rfl | hx
   ·exact ⟨m - n, by omega, by omega⟩
   ·exact h1 x hx
  ·omega
theorem Ty.cnt_W : ∀ (t : Ty) (m : Nat), m ≤ 100000 → t.cnt m ≤ m → TyW t := by
 intro t
 induction t using Ty.ind with | h t ih => ?_
 intro m hm h
 rw [Ty.cnt_eq] at h
 obtain ⟨h1, h2⟩ := Ty.cntL_fits _ _ _ h
 cases t with | mk k l =>
 refine .mk k l (show (Ty.mk k l).args.length ≤ 100000 by omega) fun x hx => ?_
 obtain ⟨m', a, b⟩ := h1 x hx
 exact ih x hx m' (by omega) b
theorem Tm.cntL_fits : ∀ (l : List Tm) (m n : Nat), Tm.cntL m n l ≤ m → (∀ x ∈ l, ∃ m', m' ≤ m ∧ x.cnt m' ≤ m') ∧ n + l.length ≤ m
 | [], m, n, h => by rw [Tm.cntL] at h; exact ⟨by simp, by simpa using h⟩
 | t :: l, m, n, h => by
  rw [Tm.cntL] at h
  split at h
  ·obtain ⟨h1, h2⟩ := Tm.cntL_fits l m _ h
   have := t.cnt_pos (m - n)
   refine ⟨fun x hx => ?_, by simp only [List.length_cons]; omega⟩
   rcases List.mem_cons.1 hx with rfl | hx
   ·exact ⟨m - n, by omega, by omega⟩
   ·exact h1 x hx
  ·omega
theorem Tm.cnt_W : ∀ (t : Tm) (m : Nat), m ≤ 100000 → t.cnt m ≤ m → TmW t := by
 intro t
 induction t using Tm.ind with | h t ih => ?_
 intro m hm h
 rw [Tm.cnt_eq] at h
 obtain ⟨h1, h2⟩ := Tm.cntL_fits _ _ _ h
 have hty : TyW t.type := by
  unfold tyCnt at h2
  split at h2
  ·omega
  ·exact Ty.cnt_W t.type (m - 1) (by omega) (by omega)
 cases t with | mk k i ty l =>
 refine .mk k i ty l hty (show (Tm.mk k i ty l).args.length ≤ 100000 by omega) fun x hx => ?_
 obtain ⟨m', a, b⟩ := h1 x hx
 exact ih x hx m' (by omega) b
mutual
def Fm.cnt : Fm → Nat → Nat
 | .mk _ ty ts l, m => Fm.cntL m (Tm.cntL m (1 + tyCnt ty m) ts) l
def Fm.cntL (m : Nat) : Nat → List Fm → Nat
 | n, [] => n
 | n, t :: l => if n ≤ m then Fm.cntL m (n + t.cnt (m - n)) l else n
end
theorem Fm.cnt_eq (t : Fm) (m : Nat) : t.cnt m = Fm.cntL m (Tm.cntL m (1 + tyCnt t.type m) t.terms) t.args := by cases t; rw [Fm.cnt]; rfl
theorem Fm.cntL_nil {m n : Nat} : Fm.cntL m n [] = n := by rw [Fm.cntL]
theorem Fm.cntL_cons {m n : Nat} {t : Fm} {l : List Fm} (h : n ≤ m) : Fm.cntL m n (t :: l) = Fm.cntL m (n + t.cnt (m - n)) l := by rw [Fm.cntL, if_pos h]
theorem Fm.cntL_stop {m n : Nat} {l : List Fm} (h : ¬ n ≤ m) : Fm.cntL m n l = n := by cases l <;> rw [Fm.cntL]; rw [if_neg h]
theorem Fm.cntL_ge : ∀ (l : List Fm) (m n : Nat), n ≤ Fm.cntL m n l
 | [], m, n => by rw [Fm.cntL]; omega
 | t :: l, m, n => by
  rw [Fm.cntL]; split
  ·have := Fm.cntL_ge l m (n + t.cnt (m - n)); omega
  ·omega
theorem Fm.cnt_pos (t : Fm) (m : Nat) : 1 ≤ t.cnt m := by
 rw [Fm.cnt_eq]
 have h1 := Fm.cntL_ge t.args m (Tm.cntL m (1 + tyCnt t.type m) t.terms)
 have h2 := Tm.cntL_ge t.terms m (1 + tyCnt t.type m)
 omega
mutual
theorem Fm.cnt_le : ∀ (t : Fm) (m : Nat), t.cnt m ≤ m + 2
 | .mk _ ty ts l, m => by
  rw [Fm.cnt]
  exact Fm.cntL_le l m _ (Tm.cntL_le ts m _ (by have := tyCnt_le ty m; omega))
theorem Fm.cntL_le : ∀ (l : List Fm) (m n : Nat), n ≤ m + 2 → Fm.cntL m n l ≤ m + 2
 | [], m, n, h => by rw [Fm.cntL]; exact h
 | t :: l, m, n, h => by
  rw [Fm.cntL]; split
  ·have := Fm.cnt_le t (m - n)
   exact Fm.cntL_le l m _ (by omega)
  ·exact h
end
theorem Fm.cntL_fits : ∀ (l : List Fm) (m n : Nat), Fm.cntL m n l ≤ m → (∀ x ∈ l, ∃ m', m' ≤ m ∧ x.cnt m' ≤ m') ∧ n + l.length ≤ m
 | [], m, n, h => by rw [Fm.cntL] at h; exact ⟨by simp, by simpa using h⟩
 | t :: l, m, n, h => by
  rw [Fm.cntL] at h
  split at h
  ·obtain ⟨h1, h2⟩ := Fm.cntL_fits l m _ h
   have := t.cnt_pos (m - n)
   refine ⟨fun x hx => ?_, by simp only [List.length_cons]; omega⟩
   rcases List.mem_cons.1 hx with rfl | hx
   ·exact ⟨m - n, by omega, by omega⟩
   ·exact h1 x hx
  ·omega
theorem Fm.cnt_W : ∀ (t : Fm) (m : Nat), m ≤ 100000 → t.cnt m ≤ m → FmW t := by
 intro t
 induction t using Fm.ind with | h t ih => ?_
 intro m hm h
 rw [Fm.cnt_eq] at h
 obtain ⟨h1, h2⟩ := Fm.cntL_fits _ _ _ h
 obtain ⟨h3, h4⟩ := Tm.cntL_fits t.terms m (1 + tyCnt t.type m) (by omega)
 have hty : TyW t.type := by
  unfold tyCnt at h4
  split at h4
  ·omega
  ·refine Ty.cnt_W t.type (m - 1) (by omega) (by omega)
 cases t with | mk k ty ts l =>
 refine .mk k ty ts l hty (show (Fm.mk k ty ts l).terms.length ≤ 100000 by omega) (fun x hx => ?_) (show (Fm.mk k ty ts l).args.length ≤ 100000 by omega) fun x hx => ?_
 ·obtain ⟨m', a, b⟩ := h3 x hx
  exact Tm.cnt_W x m' (by omega) b
 ·obtain ⟨m', a, b⟩ := h1 x hx
  exact ih x hx m' (by omega) b
mutual
theorem Ty.cnt_sz : ∀ (t : Ty) (m : Nat), t.cnt m ≤ m → tySz t ≤ t.cnt m
 | .mk _ l, m, h => by
  rw [Ty.cnt] at h ⊢
  rw [tySz]
  have := Ty.cntL_sz l m 1 h; omega
theorem Ty.cntL_sz : ∀ (l : List Ty) (m n : Nat), Ty.cntL m n l ≤ m → n + tySzL l ≤ Ty.cntL m n l
 | [], m, n, h => by rw [Ty.cntL, tySzL]; omega
 | t :: l, m, n, h => by
  rw [Ty.cntL] at h ⊢
  split at h
  ·rename_i h1
   rw [if_pos h1]
   have h2 := Ty.cntL_sz l m _ h
   have h3 := Ty.cnt_sz t (m - n) (by omega)
   rw [tySzL]; omega
  ·omega
end
mutual
theorem Tm.cnt_sz : ∀ (t : Tm) (m : Nat), t.cnt m ≤ m → tmSz t ≤ t.cnt m
 | .mk _ _ ty l, m, h => by
  rw [Tm.cnt] at h ⊢
  rw [tmSz]
  have := Tm.cntL_sz l m _ h; omega
theorem Tm.cntL_sz : ∀ (l : List Tm) (m n : Nat), Tm.cntL m n l ≤ m → n + tmSzL l ≤ Tm.cntL m n l
 | [], m, n, h => by rw [Tm.cntL, tmSzL]; omega
 | t :: l, m, n, h => by
  rw [Tm.cntL] at h ⊢
  split at h
  ·rename_i h1
   rw [if_pos h1]
   have h2 := Tm.cntL_sz l m _ h
   have h3 := Tm.cnt_sz t (m - n) (by omega)
   rw [tmSzL]; omega
  ·omega
end
mutual
theorem Fm.cnt_sz : ∀ (t : Fm) (m : Nat), t.cnt m ≤ m → fmSz t ≤ t.cnt m
 | .mk _ ty ts l, m, h => by
  rw [Fm.cnt] at h ⊢
  rw [fmSz]
  have h1 := Fm.cntL_sz l m _ h
  have h2 := Tm.cntL_sz ts m (1 + tyCnt ty m) (by omega)
  omega
theorem Fm.cntL_sz : ∀ (l : List Fm) (m n : Nat), Fm.cntL m n l ≤ m → n + fmSzL l ≤ Fm.cntL m n l
 | [], m, n, h => by rw [Fm.cntL, fmSzL]; omega
 | t :: l, m, n, h => by
  rw [Fm.cntL] at h ⊢
  split at h
  ·rename_i h1
   rw [if_pos h1]
   have h2 := Fm.cntL_sz l m _ h
   have h3 := Fm.cnt_sz t (m - n) (by omega)
   rw [fmSzL]; omega
  ·omega
end
theorem tyWant_cases {k w : Int} (h : tyWant k = some w) : (w = 0 ∧ (k = 1 ∨ k = 2 ∨ k = 5)) ∨ (w = 2 ∧ (k = 3 ∨ k = 4)) := by
 unfold tyWant at h
 split at h
 ·rename_i h1
  simp only [Option.some.injEq] at h
  simp only [Bool.or_eq_true, beq_iff_eq] at h1
  omega
 ·split at h
  ·rename_i h1
   simp only [Option.some.injEq] at h
   simp only [Bool.or_eq_true, beq_iff_eq] at h1
   omega
  ·cases h
theorem ilen0 {α : Type} {l : List α} (h : (l.length : Int) = 0) : l = [] := List.length_eq_zero_iff.1 (by omega)
theorem ilen1 {α : Type} {l : List α} (h : (l.length : Int) = 1) : ∃ a, l = [a] := lst1 (by omega)
theorem ilen2 {α : Type} {l : List α} (h : (l.length : Int) = 2) : ∃ a b, l = [a, b] := by
 match l, h with
 | [a, b], _ => exact ⟨a, b, rfl⟩
 | [], h => simp at h
 | [_], h => simp at h
 | _ :: _ :: _ :: _, h => simp at h; omega
theorem TyF_good : ∀ t : Ty, t.good = true → TyF t := by
 intro t
 induction t using Ty.ind with | h t ih => ?_
 intro h
 rw [Ty.good_eq] at h
 cases t with | mk k l =>
 simp only [Ty.kind, Ty.args] at h ih
 cases hw : tyWant k with
 | none => rw [hw] at h; cases h
 | some w =>
  rw [hw] at h
  simp only [Bool.and_eq_true, beq_iff_eq, List.all_eq_true] at h
  obtain ⟨h1, h2⟩ := h
  rcases tyWant_cases hw with ⟨rfl, hk⟩ | ⟨rfl, hk⟩
  ·obtain rfl := ilen0 h1
   rcases hk with rfl | rfl | rfl
   ·exact .nat
   ·exact .list
   ·exact .unit
  ·obtain ⟨a, b, rfl⟩ := ilen2 h1
   have ha := ih a (by simp) (h2 a (by simp))
   have hb := ih b (by simp) (h2 b (by simp))
   rcases hk with rfl | rfl
   ·exact .pair ha hb
   ·exact .func ha hb
theorem chk_good {m : Int} {o : Option Int} (h : (chk m o).2 = 0) : o.isSome = true := by
 cases o with
 | none => simp [chk] at h
 | some _ => rfl
theorem tyErr0 {t : Ty} {m : Nat} (hm : m ≤ 100000) (hc : t.cnt m ≤ m) (h : tyErr t = 0) : TyG t := by
 have h1 := TyF_good t (chk_good h)
 have h2 := Ty.cnt_sz t m hc
 rw [h1.err (by omega)] at h
 split at h
 ·exact ⟨h1, by assumption⟩
 ·cases h
theorem noType_eq {t : Ty} (h : noType t = true) : t = .mk 0 [] := by
 cases t with | mk k l =>
 simp only [noType, Ty.kind, Ty.args, Bool.and_eq_true, beq_iff_eq] at h
 obtain ⟨rfl, h2⟩ := h
 rw [ilen0 h2]
theorem TmG_good : ∀ (t : Tm) (m : Nat), m ≤ 100000 → t.cnt m ≤ m → t.good = true → TmG t := by
 intro t
 induction t using Tm.ind with | h t ih => ?_
 intro m hm hc h
 rw [Tm.cnt_eq] at hc
 obtain ⟨h1, h2⟩ := Tm.cntL_fits _ _ _ hc
 rw [Tm.good_eq] at h
 cases t with | mk k i ty l =>
 simp only [Tm.kind, Tm.index, Tm.type, Tm.args, Bool.and_eq_true, List.all_eq_true] at h ih h1 h2
 obtain ⟨hh, hr⟩ := h
 have hl : ∀ x ∈ l, TmG x := fun x hx => by
  obtain ⟨m', a, b⟩ := h1 x hx
  exact ih x hx m' (by omega) b (hr x hx)
 unfold tmHead at hh
 cases ha : arity k with
 | none => rw [ha] at hh; cases hh
 | some a =>
  rw [ha] at hh
  simp only [Bool.and_eq_true, Bool.or_eq_true, beq_iff_eq, decide_eq_true_eq] at hh
  obtain ⟨⟨⟨hn, h0⟩, hi⟩, ht⟩ := hh
  cases hty : typed k with
  | true =>
   rw [hty] at ht
   simp only [if_true, beq_iff_eq] at ht
   have hk : k ≠ 1 := by rintro rfl; cases hty
   obtain rfl : i = 0 := by rcases hi with h | h <;> omega
   have hg : TyG ty := by
    have hcc : tyCnt ty m ≤ m := by omega
    unfold tyCnt at h2 hcc
    split at h2
    ·omega
    ·exact tyErr0 (m := m - 1) (by omega) (by omega) ht
   exact .typd ha hn hty hg hl
  | false =>
   rw [hty] at ht
   simp only [Bool.false_eq_true, if_false] at ht
   obtain rfl := noType_eq ht
   by_cases hk : k = 1
   ·subst hk
    have : a = 0 := by rw [show arity 1 = some 0 from rfl] at ha; simpa using ha.symm
    subst this
    obtain rfl := ilen0 hn
    exact .var h0
   ·obtain rfl : i = 0 := by rcases hi with h | h <;> omega
    exact .plain ha hn hty hl
theorem fmWant_cases {k : Int} {p : Int × Int × Bool} (h : fmWant k = some p) : (k = 1 ∧ p = (2, 0, false)) ∨ ((k = 2 ∨ k = 3) ∧ p = (0, 2, false)) ∨ ((k = 4 ∨ k = 5 ∨ k = 6 ∨ k = 7) ∧ p = (0, 1, true)) := by
 unfold fmWant at h
 split at h
 ·rename_i h1
  simp only [Option.some.injEq] at h
  exact .inl ⟨by simpa using h1, h.symm⟩
 ·split at h
  ·rename_i h1
   simp only [Option.some.injEq] at h
   exact .inr (.inl ⟨by simpa using h1, h.symm⟩)
  ·split at h
   ·rename_i h1
    simp only [Option.some.injEq] at h
    refine .inr (.inr ⟨?_, h.symm⟩)
    simp only [Bool.or_eq_true, beq_iff_eq] at h1
    omega
   ·cases h
theorem FmG_good : ∀ (t : Fm) (m : Nat), m ≤ 100000 → t.cnt m ≤ m → t.good = true → FmG true t := by
 intro t
 induction t using Fm.ind with | h t ih => ?_
 intro m hm hc h
 rw [Fm.cnt_eq] at hc
 obtain ⟨h1, h2⟩ := Fm.cntL_fits _ _ _ hc
 obtain ⟨h3, h4⟩ := Tm.cntL_fits t.terms m (1 + tyCnt t.type m) (by omega)
 rw [Fm.good_eq] at h
 cases t with | mk k ty ts l =>
 simp only [Fm.kind, Fm.type, Fm.terms, Fm.args, Bool.and_eq_true, List.all_eq_true] at h ih h1 h2 h3 h4
 obtain ⟨⟨hh, hs⟩, hr⟩ := h
 have hl : ∀ x ∈ l, FmG true x := fun x hx => by
  obtain ⟨m', a, b⟩ := h1 x hx
  exact ih x hx m' (by omega) b (hr x hx)
 have ht : ∀ x ∈ ts, TmG x := fun x hx => by
  obtain ⟨m', a, b⟩ := h3 x hx
  exact TmG_good x m' (by omega) b (hs x hx)
 unfold formed at hh
 cases hw : fmWant k with
 | none => rw [hw] at hh; cases hh
 | some p =>
  rw [hw] at hh
  rcases fmWant_cases hw with ⟨hk, rfl⟩ | ⟨hk, rfl⟩ | ⟨hk, rfl⟩
  ·simp only [Bool.false_eq_true, if_false, Bool.and_eq_true, beq_iff_eq] at hh
   obtain ⟨⟨e1, e2⟩, e3⟩ := hh
   obtain rfl := noType_eq e1
   obtain ⟨x, y, rfl⟩ := ilen2 e2
   obtain rfl := ilen0 e3
   subst hk
   exact .eq (ht x (by simp)) (ht y (by simp))
  ·simp only [Bool.false_eq_true, if_false, Bool.and_eq_true, beq_iff_eq] at hh
   obtain ⟨⟨e1, e2⟩, e3⟩ := hh
   obtain rfl := noType_eq e1
   obtain rfl := ilen0 e2
   obtain ⟨x, y, rfl⟩ := ilen2 e3
   exact .two hk (hl x (by simp)) (hl y (by simp))
  ·simp only [if_true, Bool.and_eq_true, beq_iff_eq] at hh
   obtain ⟨⟨e1, e2⟩, e3⟩ := hh
   obtain rfl := ilen0 e2
   obtain ⟨x, rfl⟩ := ilen1 e3
   have hg : TyG ty := by
    have hcc : tyCnt ty m ≤ m := by omega
    unfold tyCnt at h4 hcc
    split at h4
    ·omega
    ·exact tyErr0 (m := m - 1) (by omega) (by omega) e1
   refine .q ?_ hg (hl x (by simp))
   rcases hk with h | h | h | h
   ·exact .inl h
   ·exact .inr (.inl h)
   ·exact .inr (.inr ⟨rfl, .inl h⟩)
   ·exact .inr (.inr ⟨rfl, .inr h⟩)
theorem fmErr0 {t : Fm} {m : Nat} (hm : m ≤ 100000) (hc : t.cnt m ≤ m) (h : fmErr t = 0) : FmG true t ∧ fmSz t ≤ 4096 := by
 have h1 := FmG_good t m hm hc (chk_good h)
 have h2 := Fm.cnt_sz t m hc
 rw [h1.err_val (by omega)] at h
 split at h
 ·exact ⟨h1, by assumption⟩
 ·cases h
def FmX (f : Fm) : Prop := FmW f ∧ (fmErr f = 0 → FmG true f ∧ fmSz f ≤ 4096)
theorem FmX.raw {f : Fm} (h : f.cnt 20000 ≤ 20000) : FmX f := ⟨Fm.cnt_W f 20000 (by omega) h, fmErr0 (by omega) h⟩
theorem FmX.of {f : Fm} (hG : FmG true f) (hz : fmSz f ≤ 100000) (hw : FmW f) : FmX f := ⟨hw, fun h => ⟨hG, by
 rw [hG.err_val (by omega)] at h
 split at h
 ·assumption
 ·cases h⟩⟩
theorem NodeTy.uniq {Q : Ty → Prop} {k : Int} {ty s s' : Ty} {l : List Ty} (h : NodeTy Q k ty l s) (h' : NodeTy Q k ty l s') : s = s' := by
 cases h <;> cases h' <;> rfl
theorem HasTy.uniq {Q : Ty → Prop} {g : List Ty} {t : Tm} {s : Ty} (h : HasTy Q g t s) : ∀ {s' : Ty}, HasTy Q g t s' → s = s' := by
 induction h with
 | @var g i t hi h =>
  intro s' h'
  generalize hz : tmVar (i : Int) = z at h'
  cases h' with
  | @var _ j _ hj h2 =>
   simp only [tmVar, Tm.mk.injEq, true_and] at hz
   obtain rfl : i = j := by omega
   rw [h] at h2
   exact Option.some.inj h2
  | lam => simp [tmVar, tmT] at hz
  | n0 hN => simp only [tmVar, tmT, Tm.mk.injEq] at hz; obtain ⟨rfl, _⟩ := hz; cases hN
  | n1 hN => simp [tmVar, tmT] at hz
  | n2 hN => simp [tmVar, tmT] at hz
  | n3 hN => simp [tmVar, tmT] at hz
 | @lam g a b t hq h ih =>
  intro s' h'
  generalize hz : tmT 2 a [t] = z at h'
  cases h' with
  | var => simp [tmVar, tmT] at hz
  | @lam _ a' b' t' hq' h2 =>
   simp only [tmT, Tm.mk.injEq, List.cons.injEq, true_and, and_true] at hz
   obtain ⟨rfl, rfl⟩ := hz
   rw [ih h2]
  | n0 hN => simp [tmT] at hz
  | n1 hN => simp only [tmT, Tm.mk.injEq] at hz; obtain ⟨rfl, _⟩ := hz; cases hN
  | n2 hN => simp [tmT] at hz
  | n3 hN => simp [tmT] at hz
 | @n0 g k ty s hN =>
  intro s' h'
  generalize hz : tmT k ty [] = z at h'
  cases h' with
  | var => simp only [tmVar, tmT, Tm.mk.injEq] at hz; obtain ⟨rfl, _⟩ := hz; cases hN
  | lam => simp [tmT] at hz
  | n0 hN' =>
   simp only [tmT, Tm.mk.injEq, true_and, and_true] at hz
   obtain ⟨rfl, rfl⟩ := hz
   exact hN.uniq hN'
  | n1 hN => simp [tmT] at hz
  | n2 hN => simp [tmT] at hz
  | n3 hN => simp [tmT] at hz
 | @n1 g k ty s a x hN _ ih =>
  intro s' h'
  generalize hz : tmT k ty [x] = z at h'
  cases h' with
  | var => simp [tmVar, tmT] at hz
  | lam => simp only [tmT, Tm.mk.injEq] at hz; obtain ⟨rfl, _⟩ := hz; cases hN
  | n0 hN' => simp [tmT] at hz
  | n1 hN' hx =>
   simp only [tmT, Tm.mk.injEq, List.cons.injEq, true_and, and_true] at hz
   obtain ⟨rfl, rfl, rfl⟩ := hz
   rw [← ih hx] at hN'
   exact hN.uniq hN'
  | n2 hN => simp [tmT] at hz
  | n3 hN => simp [tmT] at hz
 | @n2 g k ty s a b x y hN _ _ ih1 ih2 =>
  intro s' h'
  generalize hz : tmT k ty [x, y] = z at h'
  cases h' with
  | var => simp [tmVar, tmT] at hz
  | lam => simp [tmT] at hz
  | n0 hN' => simp [tmT] at hz
  | n1 hN => simp [tmT] at hz
  | n2 hN' hx hy =>
   simp only [tmT, Tm.mk.injEq, List.cons.injEq, true_and, and_true] at hz
   obtain ⟨rfl, rfl, rfl, rfl⟩ := hz
   rw [← ih1 hx, ← ih2 hy] at hN'
   exact hN.uniq hN'
  | n3 hN => simp [tmT] at hz
 | @n3 g k ty s a b c x y z hN _ _ _ ih1 ih2 ih3 =>
  intro s' h'
  generalize hz : tmT k ty [x, y, z] = w at h'
  cases h' with
  | var => simp [tmVar, tmT] at hz
  | lam => simp [tmT] at hz
  | n0 hN' => simp [tmT] at hz
  | n1 hN => simp [tmT] at hz
  | n2 hN => simp [tmT] at hz
  | n3 hN' hx hy hw =>
   simp only [tmT, Tm.mk.injEq, List.cons.injEq, true_and, and_true] at hz
   obtain ⟨rfl, rfl, rfl, rfl, rfl⟩ := hz
   rw [← ih1 hx, ← ih2 hy, ← ih3 hw] at hN'
   exact hN.uniq hN'
theorem HasTy.inv_app {Q : Ty → Prop} {g : List Ty} {ty : Ty} {x y : Tm} {s : Ty} (h : HasTy Q g (tmT 3 ty [x, y]) s) : ∃ a, HasTy Q g x (tFun a s) ∧ HasTy Q g y a := by
 generalize hz : tmT 3 ty [x, y] = z at h
 cases h with
 | var => simp [tmVar, tmT] at hz
 | lam => simp [tmT] at hz
 | n0 hN' => simp [tmT] at hz
 | n1 hN => simp [tmT] at hz
 | n2 hN' hx hy =>
  simp only [tmT, Tm.mk.injEq, List.cons.injEq, true_and, and_true] at hz
  obtain ⟨rfl, rfl, rfl, rfl⟩ := hz
  cases hN'
  exact ⟨_, hx, hy⟩
 | n3 hN => simp [tmT] at hz
theorem Dc.inv_two {g : List Ty} {k : Int} {a b : Fm} (h : Dc g (fmTwo k a b)) : Dc g a ∧ Dc g b := by
 generalize hz : fmTwo k a b = z at h
 cases h with
 | eq => simp [fmTwo, fmEq] at hz
 | two hk h1 h2 =>
  simp only [fmTwo, Fm.mk.injEq, List.cons.injEq, true_and, and_true] at hz
  obtain ⟨_, rfl, rfl⟩ := hz
  exact ⟨h1, h2⟩
 | bnd => simp [fmTwo, bndF, fmQ] at hz
theorem FmTy.inv_two' {Q : Ty → Prop} {g : List Ty} {k : Int} {a b : Fm} (h : FmTy Q g (fmTwo k a b)) : FmTy Q g a := by
 generalize hz : fmTwo k a b = z at h
 cases h with
 | eq => simp [fmTwo, fmEq] at hz
 | two hk h1 h2 =>
  simp only [fmTwo, Fm.mk.injEq, List.cons.injEq, true_and, and_true] at hz
  obtain ⟨_, rfl, rfl⟩ := hz
  exact h1
 | q => simp [fmTwo, fmQ] at hz
theorem FmTy.inv_eq' {Q : Ty → Prop} {g : List Ty} {x y : Tm} (h : FmTy Q g (fmEq x y)) : HasTy Q g x tNat ∧ HasTy Q g y tNat := by
 generalize hz : fmEq x y = z at h
 cases h with
 | eq h3 h4 =>
  simp only [fmEq, Fm.mk.injEq, List.cons.injEq, true_and, and_true] at hz
  obtain ⟨rfl, rfl⟩ := hz
  exact ⟨h3, h4⟩
 | two => simp [fmTwo, fmEq] at hz
 | q => simp [fmEq, fmQ] at hz
theorem Dc.of {g : List Ty} {f : Fm} (h : FmTy TyG g f) : FmG true f → f.fl.d = true → g.length + fmSz f ≤ 50000 → Dc g f := by
 induction h with
 | eq h1 h2 => intro gf _ _; exact .eq gf.eqn.1 gf.eqn.2 h1 h2
 | @two g k a b hk h1 h2 ih1 ih2 =>
  intro gf hd hb
  rw [fmSz_two] at hb
  rw [Fm.fl_two hk] at hd
  simp only [Bool.and_eq_true] at hd
  exact .two hk (ih1 (gf.twoA hk).1 hd.1 (by omega)) (ih2 (gf.twoA hk).2 hd.2 (by omega))
 | @q g k s a hk h1 ih =>
  intro gf hd hb
  rw [fmSz_q] at hb
  have h4 : 4 ≤ (fmQ k s a).kind := by
   have : (fmQ k s a).kind = k := rfl
   omega
  cases hbn : isBnd (fmQ k s a) with
  | false => rw [Fm.fl_qn h4 rfl hbn] at hd; exact absurd hd (by simp)
  | true =>
   obtain ⟨all, q, y, e, gq, gy, hc⟩ := gf.bnd hbn
   rw [e] at hd ⊢
   have ga := gf.qA
   unfold bndF at e
   simp only [fmQ, Fm.mk.injEq, List.cons.injEq, true_and, and_true] at e
   obtain ⟨rfl, rfl, rfl⟩ := e
   have hk2 : (if all then 3 else 2 : Int) = 2 ∨ (if all then 3 else 2 : Int) = 3 := by cases all <;> simp
   have ha : (fmTwo (if all then 3 else 2) (lessF (tmVar 0) q) y).fl.d = y.fl.d := by
    rw [Fm.fl_two hk2]
    unfold lessF
    rw [Fm.fl_eqn]
    simp
   rw [fmSz_two, lessF_sz] at hb
   obtain ⟨t1, _⟩ := h1.inv_two'.inv_eq'
   obtain ⟨a1, t2, t3⟩ := HasTy.inv_app t1
   obtain ⟨a2, t4, t5⟩ := HasTy.inv_app t2
   have := t4.uniq HasTy.sub
   simp only [tFun, Ty.mk.injEq, List.cons.injEq, true_and, and_true] at this
   obtain ⟨rfl, rfl⟩ := this
   have ho := gq.count_occ (by omega) (t3.least _ (by omega) (by simp; omega)) (a := 0) (by omega) (by omega)
   have hq0 : q.count 0 = 0 := by omega
   rw [bndF_fl hq0] at hd
   have d2 := (ih (ga hk) (by rw [ha]; exact hd) (by rw [fmSz_two, lessF_sz]; simp; omega)).inv_two.2
   exact .bnd gq t3 (by omega) d2
abbrev Vl := Tm → List Res → Option Res
section
variable {E : Evl} {F : Vl} (hEF : ∀ u t e r u', E u t e = some (r, u', false) → F t e = some r)
include hEF
end
section
variable {E F : Vl} (hEF : ∀ t e r, E t e = some r → F t e = some r)
include hEF
end
inductive Like : Res → Res → Prop
 | mk {n : Nat} {l : List Nat} {p p' : List Res} {b : Tm} {e e' pre : List Res} (hp : p.length = p'.length) (hps : ∀ (i : Nat) x y, p[i]? = some x → p'[i]? = some y → Like x y)
   (he : e.length = e'.length) (hes : ∀ (i : Nat) x y, e[i]? = some x → e'[i]? = some y → Like x y) : Like (.mk n l p b e) (.mk n l p' b (pre ++ e'))
def SimL (l l' : List Res) : Prop := l.length = l'.length ∧ ∀ (i : Nat) x y, l[i]? = some x → l'[i]? = some y → Like x y
def SimE (e e' : List Res) : Prop := ∃ pre e'', e' = pre ++ e'' ∧ SimL e e''
theorem Like.clo {b : Tm} {e e' : List Res} (h : SimE e e') : Like (cloR b e) (cloR b e') := by
 obtain ⟨pre, e'', rfl, h1, h2⟩ := h
 exact Like.mk rfl (by simp) h1 h2
section
variable {E : Vl} (hE : ∀ t e r, E t e = some r → ∀ e', SimE e e' → ∃ r', E t e' = some r' ∧ Like r r')
include hE
end
theorem tm_upW {b : Int} : ∀ (t : Tm) (fr : Int), TmW t → TmW (t.up b fr) := by
 intro t
 induction t using Tm.ind with | h t ih => ?_
 intro fr ht
 rw [Tm.up_eq]
 refine .mk _ _ _ _ ht.ty (by rw [List.length_map]; exact ht.len) ?_
 intro x hx
 obtain ⟨y, hy, rfl⟩ := List.mem_map.1 hx
 exact ih y hy _ (ht.arg hy)
end GoAbs
namespace GoAbs
end GoAbs
