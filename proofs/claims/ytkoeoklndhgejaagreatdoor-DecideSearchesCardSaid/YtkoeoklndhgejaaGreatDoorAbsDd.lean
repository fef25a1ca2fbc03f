/-
 The abstract layer: plain laws, further ones.
-/
import Derived.Test.YtkoeoklndhgejaaGreatDoorAbsDc
import Derived.Test.YtkoeoklndhgejaaGreatDoorAbsDb
import Derived.Test.YtkoeoklndhgejaaGreatDoorAbsD
import Derived.Test.YtkoeoklndhgejaaGreatDoorAbsC
import Derived.Test.YtkoeoklndhgejaaGreatDoorAbsB
import Derived.RangeFuncNested
import Derived.RangeFuncLeaves
import Derived.RangeFuncCalls
import Derived.OrdersIn
import Derived.OwnWalkIn
import Derived.RangeFuncBox
set_option linter.unusedSimpArgs false
set_option linter.unusedVariables false
set_option linter.unusedSectionVars false
namespace GoAbs
open Go
def evW (t : Tm) (w : Nat) : Nat × Nat × Int :=
 match ev w (w + 1) 0 t [] with
 | some (r, u, false) => (r.num, w - u, 0)
 | _ => (0, w, 5)
def t9Eq (x y : Tm) (w : Nat) : Bool × Nat × Int :=
 if (evW x w).2.2 != 0 then (false, 0, (evW x w).2.2) else (((evW x w).1 : Int) == (evW y (evW x w).2.1).1, (evW y (evW x w).2.1).2.1, (evW y (evW x w).2.1).2.2)
def t9Two (k : Int) (A B : Nat → Bool × Nat × Int) (w : Nat) : Bool × Nat × Int :=
 if (A w).2.2 != 0 then (false, 0, (A w).2.2) else if (A w).1 then B (A w).2.1 else (k == 3, (A w).2.1, 0)
theorem evW_left {t : Tm} {w : Nat} : (evW t w).2.1 ≤ w := by unfold evW; split <;> simp
def rB (R : Nat → Fm → Ans) (all : Bool) (f : Fm) : Nat → Nat → Nat → Ans
 | 0, _, l => (all, l, 0)
 | n + 1, k, l => if l = 0 then (false, 0, 5) else if 4096 ≤ k then (false, 0, 4) else if (putR f (numT k)).2 != 0 then (false, 0, (putR f (numT k)).2)
  else if (R (l - 1) (putR f (numT k)).1).2.2 != 0 || (R (l - 1) (putR f (numT k)).1).1 != all then R (l - 1) (putR f (numT k)).1 else rB R all f n (k + 1) (R (l - 1) (putR f (numT k)).1).2.1
def rT : Nat → Nat → Fm → Ans
 | 0, l, _ => (false, l, 0)
 | n + 1, l, f =>
  if f.kind == 1 then t9Eq (f.terms.getD 0 zeroT) (f.terms.getD 1 zeroT) l
  else if f.kind == 2 || f.kind == 3 then t9Two f.kind (fun l => rT n l (fa f 0)) (fun l => rT n l (fa f 1)) l
  else if (evW (tPut (bndTerm f) 0 zeroT) l).2.2 != 0 then (false, 0, (evW (tPut (bndTerm f) 0 zeroT) l).2.2)
  else rB (fun l f => rT n l f) (f.kind == 4) (bndBody f) (evW (tPut (bndTerm f) 0 zeroT) l).1 0 (evW (tPut (bndTerm f) 0 zeroT) l).2.1
theorem rT_eq {n l : Nat} {x y : Tm} : rT (n + 1) l (fmEq x y) = t9Eq x y l := rfl
theorem rT_two {n l : Nat} {k : Int} {a b : Fm} (hk : k = 2 ∨ k = 3) : rT (n + 1) l (fmTwo k a b) = t9Two k (fun l => rT n l a) (fun l => rT n l b) l := by rcases hk with rfl | rfl <;> rfl
theorem rT_bnd {n l : Nat} {all : Bool} {q : Tm} {a : Fm} : rT (n + 1) l (bndF all q a) =
  if (evW (tPut q 0 zeroT) l).2.2 != 0 then (false, 0, (evW (tPut q 0 zeroT) l).2.2)
  else rB (fun l f => rT n l f) all a (evW (tPut q 0 zeroT) l).1 0 (evW (tPut q 0 zeroT) l).2.1 := by
 cases all <;> rfl
def Rel9 (lim : Nat) (p r : Ans) : Prop := r.2.2 = p.2.2 ∧ (p.2.2 ≠ 0 → p.1 = false) ∧ (p.2.2 = 0 → r.1 = p.1 ∧ r.2.1 = lim - p.2.1)
theorem dN_evW {lim w : Nat} {t : Tm} : (evW t (lim - w)).2.2 = (dN lim w t).2.2 ∧ ((dN lim w t).2.2 = 0 → (evW t (lim - w)).1 = (dN lim w t).1 ∧ (evW t (lim - w)).2.1 = lim - (dN lim w t).2.1) := by
 unfold evW dN evN
 cases h : ev (lim - w) (lim - w + 1) 0 t [] with
 | none => simp
 | some p =>
  obtain ⟨r, u, o⟩ := p
  cases o with
  | true => simp
  | false => simp; omega
theorem dB_rB {lim : Nat} {D R : Nat → Fm → Ans} {all : Bool} {f : Fm} (h : ∀ k w, (putR f (numT k)).2 = 0 → k < 4096 → Rel9 lim (D w (putR f (numT k)).1) (R (lim - w) (putR f (numT k)).1)) :
  ∀ n k w, Rel9 lim (dB D lim all f n k w) (rB R all f n k (lim - w)) := by
 intro n
 induction n with
 | zero => intro k w; exact ⟨rfl, fun h => absurd rfl h, fun _ => ⟨rfl, rfl⟩⟩
 | succ n ih =>
  intro k w
  rw [dB, rB]
  by_cases hw : lim ≤ w
  ·rw [if_pos hw, if_pos (show lim - w = 0 by omega)]
   exact ⟨rfl, fun _ => rfl, fun h => absurd h (by simp)⟩
  rw [if_neg hw, if_neg (show ¬ lim - w = 0 by omega)]
  unfold dW
  by_cases hk : 4096 ≤ k
  ·simp only [if_pos hk]
   exact ⟨rfl, fun _ => rfl, fun h => absurd h (by simp)⟩
  simp only [if_neg hk]
  cases hp : ((putR f (numT k)).2 != 0) with
  | true =>
   simp only [if_true, hp, Bool.true_or]
   exact ⟨rfl, fun _ => rfl, fun h => absurd h (by simpa using hp)⟩
  | false =>
   simp only [Bool.false_eq_true, if_false]
   have hr := h k (w + 1) (by simpa using hp) (by omega)
   rw [show lim - (w + 1) = lim - w - 1 by omega] at hr
   generalize D (w + 1) (putR f (numT k)).1 = p at *
   generalize R (lim - w - 1) (putR f (numT k)).1 = r at *
   obtain ⟨pb, pw, pe⟩ := p
   obtain ⟨rb, rw', re⟩ := r
   obtain ⟨h1, h2, h3⟩ := hr
   simp only at h1 h2 h3
   subst h1
   by_cases he : re = 0
   ·subst he
    obtain ⟨rfl, rfl⟩ := h3 rfl
    cases hb : (rb != all) with
    | true => simp only [hb, Bool.or_true, if_true]; exact ⟨rfl, fun h => absurd rfl h, fun _ => ⟨rfl, rfl⟩⟩
    | false =>
     simp only [hb, Bool.or_false]
     exact ih (k + 1) pw
   ·have : (re != 0) = true := by simpa using he
    simp only [this, Bool.true_or, if_true]
    exact ⟨rfl, fun _ => h2 he, fun h => absurd h he⟩
theorem dT_rT {lim : Nat} : ∀ (n : Nat) (f : Fm) (w : Nat), Rel9 lim (dT lim n w f) (rT n (lim - w) f) := by
 intro n
 induction n with
 | zero => intro f w; exact ⟨rfl, fun h => absurd rfl h, fun _ => ⟨rfl, rfl⟩⟩
 | succ n ih =>
  intro f w
  rw [dT, rT]
  by_cases k1 : (f.kind == 1) = true
  ·rw [if_pos k1, if_pos k1]
   unfold dE t9Eq
   generalize f.terms.getD 0 zeroT = x
   generalize f.terms.getD 1 zeroT = y
   obtain ⟨a1, a2⟩ := dN_evW (lim := lim) (w := w) (t := x)
   obtain ⟨b1, b2⟩ := dN_evW (lim := lim) (w := (dN lim w x).2.1) (t := y)
   rw [a1]
   cases e1 : ((dN lim w x).2.2 != 0) with
   | true => simp only [if_true]; exact ⟨rfl, fun _ => rfl, fun h => absurd h (by simpa using e1)⟩
   | false =>
    simp only [Bool.false_eq_true, if_false]
    obtain ⟨a3, a4⟩ := a2 (by simpa using e1)
    rw [a3, a4]
    cases e2 : ((dN lim (dN lim w x).2.1 y).2.2 != 0) with
    | true => simp only [if_true]; exact ⟨b1, fun _ => rfl, fun h => absurd h (by simpa using e2)⟩
    | false =>
     simp only [Bool.false_eq_true, if_false]
     have e2 : (dN lim (dN lim w x).2.1 y).2.2 = 0 := by simpa using e2
     obtain ⟨b3, b4⟩ := b2 e2
     exact ⟨by rw [b1, e2], fun h => absurd rfl h, fun _ => ⟨by rw [b3, Bool.eq_iff_iff]; simp only [beq_iff_eq]; omega, b4⟩⟩
  rw [if_neg k1, if_neg k1]
  by_cases k2 : (f.kind == 2) = true
  ·have e : f.kind = 2 := by simpa using k2
   rw [if_pos k2, if_pos (show (f.kind == 2 || f.kind == 3) = true by rw [k2]; rfl), e]
   unfold t9Two
   have h1 := ih (fa f 0) w
   have h2 := ih (fa f 1) (dT lim n w (fa f 0)).2.1
   simp only
   generalize dT lim n w (fa f 0) = p at *
   generalize rT n (lim - w) (fa f 0) = r at *
   obtain ⟨pb, pw, pe⟩ := p
   obtain ⟨rb, rw', re⟩ := r
   obtain ⟨g1, g2, g3⟩ := h1
   simp only at *
   subst g1
   by_cases he : re = 0
   ·subst he
    obtain ⟨rfl, rfl⟩ := g3 rfl
    cases rb with
    | true => simpa using h2
    | false => exact ⟨rfl, fun h => absurd rfl h, fun _ => ⟨rfl, rfl⟩⟩
   ·have : (re != 0) = true := by simpa using he
    obtain rfl := g2 he
    rw [if_pos this]
    exact ⟨rfl, fun _ => rfl, fun h => absurd h he⟩
  by_cases k3 : (f.kind == 3) = true
  ·have e : f.kind = 3 := by simpa using k3
   rw [if_neg k2, if_pos k3, if_pos (show (f.kind == 2 || f.kind == 3) = true by rw [k3, Bool.or_true]), e]
   unfold t9Two
   have h1 := ih (fa f 0) w
   have h2 := ih (fa f 1) (dT lim n w (fa f 0)).2.1
   simp only
   generalize dT lim n w (fa f 0) = p at *
   generalize rT n (lim - w) (fa f 0) = r at *
   obtain ⟨pb, pw, pe⟩ := p
   obtain ⟨rb, rw', re⟩ := r
   obtain ⟨g1, g2, g3⟩ := h1
   simp only at *
   subst g1
   by_cases he : re = 0
   ·subst he
    obtain ⟨rfl, rfl⟩ := g3 rfl
    cases rb with
    | true => simpa using h2
    | false => exact ⟨rfl, fun h => absurd rfl h, fun _ => ⟨rfl, rfl⟩⟩
   ·have : (re != 0) = true := by simpa using he
    rw [if_pos this]
    simp only [this, Bool.true_or, if_true]
    exact ⟨rfl, fun _ => by simpa using he, fun h => absurd h he⟩
  rw [if_neg k2, if_neg k3, if_neg (show ¬ (f.kind == 2 || f.kind == 3) = true by simp only [Bool.or_eq_true]; exact fun h => h.elim k2 k3)]
  generalize tPut (bndTerm f) 0 zeroT = q
  obtain ⟨a1, a2⟩ := dN_evW (lim := lim) (w := w) (t := q)
  rw [a1]
  cases e1 : ((dN lim w q).2.2 != 0) with
  | true => simp only [if_true]; exact ⟨rfl, fun _ => rfl, fun h => absurd h (by simpa using e1)⟩
  | false =>
   simp only [Bool.false_eq_true, if_false]
   obtain ⟨a3, a4⟩ := a2 (by simpa using e1)
   rw [a3, a4]
   exact dB_rB (fun k w _ _ => ih _ w) _ _ _
theorem I64_of {n : Int} (h0 : 0 ≤ n) (h1 : n ≤ 1000000000) : I64 n := by
 unfold I64 Lit.wf
 have e1 : IntKind.i64.min = -9223372036854775808 := rfl
 have e2 : IntKind.i64.max = 9223372036854775807 := rfl
 simp only [e1, e2, Bool.and_eq_true, decide_eq_true_eq]
 omega
theorem TyF.N {t : Ty} (h : TyF t) : TyN t := by
 induction h with
 | nat => exact .mk (I64_of (by omega) (by omega)) (by simp)
 | list => exact .mk (I64_of (by omega) (by omega)) (by simp)
 | unit => exact .mk (I64_of (by omega) (by omega)) (by simp)
 | pair _ _ h1 h2 => exact .mk (I64_of (by omega) (by omega)) (by simp; exact ⟨h1, h2⟩)
 | func _ _ h1 h2 => exact .mk (I64_of (by omega) (by omega)) (by simp; exact ⟨h1, h2⟩)
theorem arity_small {k a : Int} (h : arity k = some a) : 0 ≤ k ∧ k ≤ 13 := by
 unfold arity at h
 split at h
 ·cases h
 ·rename_i hc
  simp at hc
  omega
theorem TmG.N {t : Tm} (h : TmG t) : t.least 536870912 = true → TmN t := by
 induction h with
 | @plain k l a ha hl ht _ ih =>
  intro hm
  rw [tm0, Tm.least_eq, Bool.and_eq_true] at hm
  have := arity_small ha
  exact .mk (I64_of (by omega) (by omega)) (I64_of (by omega) (by omega)) (.mk (I64_of (by omega) (by omega)) (by simp)) (fun x hx => ih x hx (Tm.leastL_iff.1 hm.2 x hx))
 | @var i hi =>
  intro hm
  rw [tmVar, Tm.least_eq, Bool.and_eq_true] at hm
  have : i ≤ 536870912 := of_decide_eq_true hm.1
  exact .mk (I64_of (by omega) (by omega)) (I64_of hi (by omega)) (.mk (I64_of (by omega) (by omega)) (by simp)) (by simp)
 | @typd k t l a ha hl ht hg _ ih =>
  intro hm
  rw [tmT, Tm.least_eq, Bool.and_eq_true] at hm
  have := arity_small ha
  exact .mk (I64_of (by omega) (by omega)) (I64_of (by omega) (by omega)) hg.1.N (fun x hx => ih x hx (Tm.leastL_iff.1 hm.2 x hx))
theorem TmG.has {t : Tm} (h : TmG t) (hm : t.least 536870912 = true) (hs : tmSz t ≤ 900000) : t.hasV 0 = decide (t.count 0 > 0) := has_count (h.N hm) hs
theorem rb_down {s : Tm} : ∀ (n : Nat) {t : Tm}, TmG t → tmSz t ≤ n → ∀ d : Int, 0 ≤ d → d + n ≤ 100000 → tmOcc t d = 0 → t.least 1000000000 = true → t.rb (putG 0 s) d = t.up (-1) (1 + d) := by
 intro n
 induction n with
 | zero => intro t _ hn; have := tmSz_pos t; omega
 | succ n ih =>
  intro t gt hn d h0 hd ho hl
  revert hn ho hl
  refine gt.cases' (p := fun t => tmSz t ≤ n + 1 → tmOcc t d = 0 → t.least 1000000000 = true → t.rb (putG 0 s) d = t.up (-1) (1 + d)) ?_ ?_
  ·intro i hi _ ho hl
   have hi2 := var_j hl
   rw [tmVar, tmOcc] at ho
   simp only [beq_self_eq_true, if_true] at ho
   have hne : i ≠ d := by intro e; subst e; simp at ho
   rw [tmVar, Tm.rb, Tm.up]
   simp only [beq_self_eq_true, if_true, putG, Bool.true_and, Tm.upL]
   rw [subW_eq (by omega) (by omega) (by omega) (by omega)]
   have : (i - d == 0) = false := by simp; omega
   rw [this]
   by_cases hc : i ≥ 1 + d
   ·have e1 : decide (i - d > 0) = true := by simp; omega
    have e2 : decide (i ≥ 1 + d) = true := by simp; omega
    have e3 : subW i 1 = i - 1 := subW_eq (by omega) (by omega) (by omega) (by omega)
    have e4 : addW i (-1) = i - 1 := (addW_eq (by omega) (by omega) (by omega) (by omega)).trans (by omega)
    rw [e1, e2, e3, e4]; rfl
   ·have e1 : decide (i - d > 0) = false := by simp; omega
    have e2 : decide (i ≥ 1 + d) = false := by simp; omega
    rw [e1, e2]; rfl
  ·intro k ty l hk _ hg _ hn ho hl
   rw [tmSz] at hn
   rw [Tm.least, Bool.and_eq_true] at hl
   rw [tmOcc, hk] at ho
   simp only [Bool.false_eq_true, if_false] at ho
   have hr := tmBelow_range k
   rw [Tm.rb, Tm.rbL_map, Tm.up, Tm.upL_map, hk, below_eq h0 (by omega)]
   simp only [Bool.false_eq_true, if_false, Bool.false_and]
   rw [addW_eq (by omega) (by omega) (by omega) (by omega), show 1 + d + tmBelow k = 1 + (d + tmBelow k) by omega]
   congr 1
   refine List.map_congr_left fun y hy => ?_
   have hoy : tmOcc y (d + tmBelow k) = 0 := by
    have : ∀ {l : List Tm}, y ∈ l → tmOccL l (d + tmBelow k) = 0 → tmOcc y (d + tmBelow k) = 0 := by
     intro l
     induction l with
     | nil => intro h; simp at h
     | cons z l ihl =>
      intro h h2
      rw [tmOccL] at h2
      rcases List.mem_cons.1 h with rfl | h
      ·omega
      ·exact ihl h (by omega)
    exact this hy ho
   exact ih (hg y hy) (by have := tmSzL_mem hy; omega) _ (by omega) (by omega) hoy (Tm.leastL_iff.1 hl.2 y hy)
theorem put_down {s q : Tm} (gq : TmG q) (lq : q.least 536870912 = true) (oq : tmOcc q 0 = 0) (zq : tmSz q ≤ 50000) : q.up (-1) 1 = tPut q 0 s := by
 have := rb_down (s := s) _ gq (Nat.le_refl _) 0 (by omega) (by omega) oq (least_mono (by omega) _ lq)
 exact this.symm
theorem FmTy.least {g : List Ty} {f : Fm} (h : FmTy TyG g f) : (g.length : Int) + fmSz f ≤ 100000 → f.least 536870912 = true := by
 induction h with
 | eq h1 h2 =>
  intro hb
  rw [fmSz_eq] at hb
  exact fleast_eq.2 ⟨h1.least _ (by omega) (by omega), h2.least _ (by omega) (by omega)⟩
 | two hk _ _ h1 h2 =>
  intro hb
  rw [fmSz_two] at hb
  exact fleast_two (h1 (by omega)) (h2 (by omega))
 | q hk _ h1 =>
  intro hb
  rw [fmSz_q] at hb
  exact least_q (h1 (by simp; omega))
theorem FmG.argG {u : Bool} {f x : Fm} (h : FmG u f) (hx : x ∈ f.args) : FmG u x := by
 cases h with
 | eq => simp [fmEq, Fm.args] at hx
 | two _ h1 h2 => simp [fmTwo, Fm.args] at hx; rcases hx with rfl | rfl <;> assumption
 | q _ _ h1 => simp [fmQ, Fm.args] at hx; subst hx; exact h1
theorem FmG.termG {u : Bool} {f : Fm} {x : Tm} (h : FmG u f) (hx : x ∈ f.terms) : TmG x := by
 cases h with
 | eq h1 h2 => simp [fmEq, Fm.terms] at hx; rcases hx with rfl | rfl <;> assumption
 | two => simp [fmTwo, Fm.terms] at hx
 | q => simp [fmQ, Fm.terms] at hx
theorem fmSz_term {f : Fm} {x : Tm} (h : x ∈ f.terms) : tmSz x < fmSz f := by
 obtain ⟨k, t, l, a⟩ := f
 rw [fmSz]
 have := tmSzL_mem (show x ∈ l from h)
 omega
theorem tmSz_arg {f x : Tm} (h : x ∈ f.args) : tmSz x < tmSz f := by
 obtain ⟨k, i, t, a⟩ := f
 rw [tmSz]
 have := tmSzL_mem (show x ∈ a from h)
 omega
theorem tleast_args {M : Int} {f x : Tm} (h : f.least M = true) (hx : x ∈ f.args) : x.least M = true := by
 rw [Tm.least_eq, Bool.and_eq_true] at h
 exact Tm.leastL_iff.1 h.2 x hx
theorem FmG.hasQ {f : Fm} (gf : FmG true f) (lf : f.least 536870912 = true) (zf : fmSz f ≤ 50000) (a x u q : Fm × Tm) (ha : a.1 ∈ f.args) (hx : x.1 ∈ a.1.args) (hu : u.2 ∈ x.1.terms) (hq : q.2 ∈ u.2.args) :
  q.2.hasV 0 = decide (q.2.count 0 > 0) := by
 have h1 := fmSz_arg ha
 have h2 := fmSz_arg hx
 have h3 := fmSz_term hu
 have h4 := tmSz_arg hq
 exact ((((gf.argG ha).argG hx).termG hu).arg hq).has (tleast_args (least_terms (least_args (least_args lf ha) hx) hu) hq) (by omega)
def argsK (E : Evl) (e : List Res) (k : Int) (u : Nat) (li : List Res) (ts : List Tm) : Out :=
 match evArgs E e u ts with
 | none => none
 | some (_, u', true) => some (zeroR, u', true)
 | some (l, u', false) => evOf E k u' (li ++ l)
theorem argsK_nil {E : Evl} {e : List Res} {k : Int} {u : Nat} {li : List Res} : argsK E e k u li [] = evOf E k u li := by simp [argsK, evArgs]
theorem argsK_cons {E : Evl} {e : List Res} {k : Int} {u : Nat} {li : List Res} {t : Tm} {ts : List Tm} :
  argsK E e k u li (t :: ts) = match E u t e with | none => none | some (_, u', true) => some (zeroR, u', true) | some (x, u', false) => argsK E e k u' (li ++ [x]) ts := by
 unfold argsK
 rw [evArgs]
 cases E u t e with
 | none => rfl
 | some p =>
  obtain ⟨x, u1, o1⟩ := p
  cases o1 with
  | true => rfl
  | false =>
   simp only
   cases evArgs E e u1 ts with
   | none => rfl
   | some q =>
    obtain ⟨l, u2, o2⟩ := q
    cases o2 <;> simp
theorem evStep_args {most : Nat} {E : Evl} {u : Nat} {t : Tm} {e : List Res} (hu : u ≠ most) (k1 : (t.kind == 1) = false) (k2 : (t.kind == 2) = false) :
  evStep most E u t e = argsK E e t.kind (u + 1) [] t.args := by
 unfold evStep argsK
 rw [if_neg hu, k1, k2]
 simp only [Bool.false_eq_true, if_false]
 cases evArgs E e (u + 1) t.args with
 | none => rfl
 | some p => obtain ⟨a, b, o⟩ := p; cases o <;> rfl
theorem evOf_3 {E : Evl} {u : Nat} {l : List Res} {p : Res × Nat × Bool} (h : evOf E 3 u l = some p) : ∃ f a, l = [f, a] ∧ evCall E u f a = some p := by
 unfold evOf at h
 rw [if_pos (by decide)] at h
 split at h
 ·exact ⟨_, _, rfl, h⟩
 ·cases h
theorem evOf_5 {E : Evl} {u : Nat} {l : List Res} {p : Res × Nat × Bool} (h : evOf E 5 u l = some p) : ∃ a, l = [a] ∧ p = (numR (a.num + 1), u, false) := by
 unfold evOf at h
 rw [if_neg (by decide), if_pos (by decide)] at h
 split at h
 ·exact ⟨_, rfl, (Option.some.inj h).symm⟩
 ·cases h
theorem evOf_6 {E : Evl} {u : Nat} {l : List Res} {p : Res × Nat × Bool} (h : evOf E 6 u l = some p) : ∃ z s n, l = [z, s, n] ∧ evRec E s n.num 0 u z = some p := by
 unfold evOf at h
 rw [if_neg (by decide), if_neg (by decide), if_pos (by decide)] at h
 split at h
 ·exact ⟨_, _, _, rfl, h⟩
 ·cases h
theorem evOf_8 {E : Evl} {u : Nat} {l : List Res} {p : Res × Nat × Bool} (h : evOf E 8 u l = some p) : ∃ a b, l = [a, b] ∧ p = (listR (a.num :: b.list), u, false) := by
 unfold evOf at h
 rw [if_neg (by decide), if_neg (by decide), if_neg (by decide), if_pos (by decide)] at h
 split at h
 ·exact ⟨_, _, rfl, (Option.some.inj h).symm⟩
 ·cases h
theorem evOf_9 {E : Evl} {u : Nat} {l : List Res} {p : Res × Nat × Bool} (h : evOf E 9 u l = some p) : ∃ z s n, l = [z, s, n] ∧ evFold E s n.list n.list.length u z = some p := by
 unfold evOf at h
 rw [if_neg (by decide), if_neg (by decide), if_neg (by decide), if_neg (by decide), if_pos (by decide)] at h
 split at h
 ·exact ⟨_, _, _, rfl, h⟩
 ·cases h
theorem evOf_10 {E : Evl} {u : Nat} {l : List Res} {p : Res × Nat × Bool} (h : evOf E 10 u l = some p) : p = (pairR l, u, false) := by
 unfold evOf at h
 rw [if_neg (by decide), if_neg (by decide), if_neg (by decide), if_neg (by decide), if_neg (by decide), if_pos (by decide)] at h
 exact (Option.some.inj h).symm
theorem evOf_11 {E : Evl} {u : Nat} {l : List Res} {p : Res × Nat × Bool} (h : evOf E 11 u l = some p) : ∃ a x y, l = [a] ∧ a.pair = [x, y] ∧ p = (x, u, false) := by
 unfold evOf at h
 rw [if_neg (by decide), if_neg (by decide), if_neg (by decide), if_neg (by decide), if_neg (by decide), if_neg (by decide), if_pos (by decide)] at h
 split at h
 ·split at h
  ·rename_i hp; exact ⟨_, _, _, rfl, hp, (Option.some.inj h).symm⟩
  ·cases h
 ·cases h
theorem evOf_12 {E : Evl} {u : Nat} {l : List Res} {p : Res × Nat × Bool} (h : evOf E 12 u l = some p) : ∃ a x y, l = [a] ∧ a.pair = [x, y] ∧ p = (y, u, false) := by
 unfold evOf at h
 rw [if_neg (by decide), if_neg (by decide), if_neg (by decide), if_neg (by decide), if_neg (by decide), if_neg (by decide), if_neg (by decide), if_pos (by decide)] at h
 split at h
 ·split at h
  ·rename_i hp; exact ⟨_, _, _, rfl, hp, (Option.some.inj h).symm⟩
  ·cases h
 ·cases h
theorem evOf_0 {E : Evl} {u : Nat} {k : Int} {l : List Res} {p : Res × Nat × Bool} (h : evOf E k u l = some p) (h3 : (k == 3) = false) (h5 : (k == 5) = false) (h6 : (k == 6) = false) (h8 : (k == 8) = false)
  (h9 : (k == 9) = false) (h10 : (k == 10) = false) (h11 : (k == 11) = false) (h12 : (k == 12) = false) : p = (zeroR, u, false) := by
 unfold evOf at h
 simp only [h3, h5, h6, h8, h9, h10, h11, h12, Bool.false_eq_true, if_false, Option.some.injEq] at h
 exact h.symm
theorem numR_cells (n : Nat) : (numR n).cells = [.int .i64 n, .sl .any [], .sl .any [], .int .i64 0, .int .i64 0, .int .i64 0, .sl .any [], .sl .any [], .sl .any []] := by
 rw [numR, Res.mk_cells]; simp [natI, ints, zeroT, Tm.kind, Tm.index, Tm.type, Ty.kind, Ty.args, Tm.args]
theorem zeroR_cells : zeroR.cells = [.int .i64 0, .sl .any [], .sl .any [], .int .i64 0, .int .i64 0, .int .i64 0, .sl .any [], .sl .any [], .sl .any []] := numR_cells 0
theorem listR_cells (l : List Nat) : (listR l).cells = [.int .i64 0, .sl .any (natI l), .sl .any [], .int .i64 0, .int .i64 0, .int .i64 0, .sl .any [], .sl .any [], .sl .any []] := by
 rw [listR, Res.mk_cells]; simp [zeroT, Tm.kind, Tm.index, Tm.type, Ty.kind, Ty.args, Tm.args]
theorem pairR_cells (l : List Res) : (pairR l).cells = [.int .i64 0, .sl .any [], .sl .any (l.map Res.cells), .int .i64 0, .int .i64 0, .int .i64 0, .sl .any [], .sl .any [], .sl .any []] := by
 rw [pairR, Res.mk_cells]; simp [natI, ints, zeroT, Tm.kind, Tm.index, Tm.type, Ty.kind, Ty.args, Tm.args]
theorem cloR_cells (b : Tm) (e : List Res) : (cloR b e).cells = [.int .i64 0, .sl .any [], .sl .any [], .int .i64 b.kind, .int .i64 b.index, .int .i64 b.type.kind, .sl .any (b.type.args.map Ty.cells), .sl .any (b.args.map Tm.cells), .sl .any (e.map Res.cells)] := by
 rw [cloR, Res.mk_cells]; simp [natI, ints]
theorem natI_eq (l : List Nat) : natI l = l.map fun (n : Nat) => [V.int .i64 (n : Int)] := by simp [natI, ints, List.map_map, Function.comp_def]
theorem natI_len (l : List Nat) : (natI l).length = l.length := by simp [natI_eq]
theorem natI_get {l : List Nat} {j : Nat} (h : j < l.length) : (natI l)[j]? = some [V.int .i64 (l.getD j 0 : Nat)] := by
 rw [natI_eq, List.getElem?_map, List.getD_eq_getElem?_getD, List.getElem?_eq_getElem h]; rfl
theorem natI_all (l : List Nat) : (natI l).all (fun e => e.length == 1) = true := by simp [natI_eq]
theorem natI_take (l : List Nat) : List.take l.length (natI l) = natI l := List.take_of_length_le (by rw [natI_len]; exact Nat.le_refl _)
theorem natI_drop (l : List Nat) (k : Nat) : List.drop k (natI l) = natI (l.drop k) := by simp [natI_eq]
theorem natI_cons (a : Nat) (l : List Nat) : natI (a :: l) = [V.int .i64 (a : Int)] :: natI l := by simp [natI_eq]
theorem natI_one (l : List Nat) : (natI l).flatten.all oneV = true := by
 rw [natI_eq, List.all_eq_true]; intro v hv
 obtain ⟨c, hc, hv⟩ := List.mem_flatten.1 hv
 obtain ⟨x, _, rfl⟩ := List.mem_map.1 hc
 simp at hv; subst hv; rfl
theorem natI_weak (l : List Nat) : weakLL (natI l) = natI l := by rw [natI, weakLL_ints]
theorem natI_in {S : Id → Prop} (l : List Nat) : InLL S (natI l) := by rw [natI]; exact InLL_ints _
attribute [go_sem] natI_len natI_all natI_take natI_drop natI_one natI_weak natI_in
theorem Dc.inv_bnd {g : List Ty} {all : Bool} {q : Tm} {a : Fm} (h : Dc g (bndF all q a)) : TmG q ∧ HasTy TyG (g ++ [tNat]) q tNat ∧ tmOcc q 0 = 0 ∧ Dc (g ++ [tNat]) a := by
 generalize hz : bndF all q a = z at h
 cases h with
 | eq => simp [fmEq, bndF, fmQ] at hz
 | two hk _ _ => simp [fmTwo, bndF, fmQ] at hz
 | @bnd _ all' q' a' h1 h2 h3 h4 =>
  have e1 : bndTerm (bndF all q a) = q := by cases all <;> rfl
  have e2 : bndBody (bndF all q a) = a := by cases all <;> rfl
  have e3 : bndTerm (bndF all' q' a') = q' := by cases all' <;> rfl
  have e4 : bndBody (bndF all' q' a') = a' := by cases all' <;> rfl
  rw [hz] at e1 e2
  rw [e3] at e1
  rw [e4] at e2
  subst e1 e2
  exact ⟨h1, h2, h3, h4⟩
section
variable {P : Program} {env : Nat → Option (List V)} {ops : Array Oper} {draw : Bool} {gen reg : Nat} {rest : List Oper} {i : Nat} {log : List LogE} {K : St → Prop} {σ : St} {dst : Option Nat}
def mkIfV (T : Option TyI) (t : TypeId) (x : V) : Option V := match T with | some i => if i.kind = 8 then none else some (.iface t x) | none => none
@[go_sem] theorem aop_makeInterface {t : TypeId} {x : Operand} : aop P env ops draw gen reg rest dst i log K σ (.makeInterface t x) =
  ok1 P env ops draw gen reg rest dst i log K σ (mkIfV (tyi P t) t (av env σ.tm x)) := by
 simp only [aop]; exact ok_of (prim_V rfl)
attribute [go_sem] mkIfV
end
structure Tys where
 int : TypeId
 cell : TypeId
 both : TypeId
 unit : TypeId
 clo : TypeId
def cellV : List Nat → V
 | [] => .nilp
 | x :: l => .el [.int .i64 x, cellV l] 0
mutual
inductive ThV (K : Tys) : Ty → Res → V → Prop
 | num {n : Nat} : ThV K tNat (numR n) (.iface K.int (.int .i64 n))
 | list {l : List Nat} : ThV K tList (listR l) (.iface K.cell (cellV l))
 | unit : ThV K tUnit zeroR (.iface K.unit (.agg []))
 | pair {a b : Ty} {x y : Res} {u v : V} : ThV K a x u → ThV K b y v → ThV K (tPair a b) (pairR [x, y]) (.iface K.both (.el [u, v] 0))
 | clo {g : List Ty} {a b : Ty} {t : Tm} {e : List Res} {ve : V} : EnvV K g e ve → HasTy TyG (g ++ [a]) t b → ThV K (tFun a b) (cloR t e) (.iface K.clo (.el (t.cells ++ [ve]) 0))
inductive EnvV (K : Tys) : List Ty → List Res → V → Prop
 | nil : EnvV K [] [] .nilp
 | snoc {g : List Ty} {a : Ty} {e : List Res} {r : Res} {v ve : V} : EnvV K g e ve → ThV K a r v → EnvV K (g ++ [a]) (e ++ [r]) (.el [v, ve] 0)
end
theorem cellV_weak : ∀ l, weak (cellV l) = cellV l
 | [] => rfl
 | x :: l => by rw [cellV, weak]; simp [weakL, cellV_weak l, weak]
theorem cellV_in {S : Id → Prop} : ∀ l, InV S (cellV l)
 | [] => by rw [cellV, InV]; trivial
 | x :: l => by rw [cellV, InV]; simp [InL, cellV_in l, InV]
theorem InL_app {S : Id → Prop} {a b : List V} (ha : InL S a) (hb : InL S b) : InL S (a ++ b) := by
 rw [InL_mem] at *
 intro v hv
 rcases List.mem_append.1 hv with h | h
 ·exact ha v h
 ·exact hb v h
theorem weakL_app' (a b : List V) : weakL (a ++ b) = weakL a ++ weakL b := by simp [weakL_eq]
mutual
theorem ThV.wk {K : Tys} {s : Ty} {r : Res} {v : V} : ThV K s r v → weak v = v
 | .num => rfl
 | .list => by simp [weak, cellV_weak]
 | .unit => rfl
 | .pair h1 h2 => by simp [weak, weakL, h1.wk, h2.wk]
 | .clo h _ => by simp [weak, weakL_app', weakL_Tm, weakL, h.wk]
theorem EnvV.wk {K : Tys} {g : List Ty} {e : List Res} {v : V} : EnvV K g e v → weak v = v
 | .nil => rfl
 | .snoc h1 h2 => by simp [weak, weakL, h1.wk, h2.wk]
end
mutual
theorem ThV.ins {K : Tys} {S : Id → Prop} {s : Ty} {r : Res} {v : V} : ThV K s r v → InV S v
 | .num => by simp [InV]
 | .list => by rw [InV]; exact cellV_in _
 | .unit => by simp [InV, InL]
 | .pair h1 h2 => by rw [InV, InV]; exact ⟨h1.ins, h2.ins, trivial⟩
 | .clo h _ => by
  rw [InV, InV]
  refine InL_app (by simp [InL_Tm]) ?_
  exact ⟨h.ins, trivial⟩
theorem EnvV.ins {K : Tys} {S : Id → Prop} {g : List Ty} {e : List Res} {v : V} : EnvV K g e v → InV S v
 | .nil => by simp [InV]
 | .snoc h1 h2 => by rw [InV]; exact ⟨h2.ins, h1.ins, trivial⟩
end
def IsI (v : V) : Prop := ∃ t w, v = .iface t w ∧ weak w = w ∧ ∀ S, InV S w = True
def IsE (v : V) : Prop := v = .nilp ∨ ∃ c, v = .el c 0 ∧ weakL c = c ∧ ∀ S, InL S c = True
theorem isI_of {v : V} (h : weak v = v) (hi : ∀ S, InV S v) {t : TypeId} {w : V} (e : v = .iface t w) : IsI v := by
 subst e
 simp only [weak, V.iface.injEq, true_and] at h
 exact ⟨t, w, rfl, h, fun S => eq_true (by have := hi S; rwa [InV] at this)⟩
theorem ThV.isI {K : Tys} {s : Ty} {r : Res} {v : V} (h : ThV K s r v) : IsI v := by
 have hw := h.wk
 have hi : ∀ S, InV S v := fun S => h.ins
 cases h with
 | num => exact isI_of hw hi rfl
 | list => exact isI_of hw hi rfl
 | unit => exact isI_of hw hi rfl
 | pair _ _ => exact isI_of hw hi rfl
 | clo _ _ => exact isI_of hw hi rfl
theorem EnvV.isE {K : Tys} {g : List Ty} {e : List Res} {v : V} (h : EnvV K g e v) : IsE v := by
 have hw := h.wk
 have hi : ∀ S, InV S v := fun S => h.ins
 cases h with
 | nil => exact .inl rfl
 | snoc _ _ =>
  refine .inr ⟨_, rfl, ?_, fun S => eq_true ?_⟩
  ·simpa [weak] using hw
  ·have := hi S; rwa [InV] at this
def atV : Nat → V → Option V
 | 0, .el [v, _] 0 => some v
 | i + 1, .el [_, n] 0 => atV i n
 | _, _ => none
theorem EnvV.get {K : Tys} {g : List Ty} {e : List Res} {ve : V} (h : EnvV K g e ve) : ∀ i : Nat, i < e.length → ∃ v a r, atV i ve = some v ∧ e[e.length - 1 - i]? = some r ∧ g[e.length - 1 - i]? = some a ∧ ThV K a r v ∧ e.length = g.length := by
 suffices hs : ∀ (n : Nat) {g : List Ty} {e : List Res} {ve : V}, e.length = n → EnvV K g e ve → e.length = g.length ∧ ∀ i : Nat, i < e.length → ∃ v a r, atV i ve = some v ∧ e[e.length - 1 - i]? = some r ∧ g[e.length - 1 - i]? = some a ∧ ThV K a r v by
  intro i hi
  obtain ⟨h1, h2⟩ := hs _ rfl h
  obtain ⟨v, a, r, q1, q2, q3, q4⟩ := h2 i hi
  exact ⟨v, a, r, q1, q2, q3, q4, h1⟩
 intro n
 induction n with
 | zero =>
  intro g e ve hn h
  cases h with
  | nil => exact ⟨rfl, fun i hi => by simp at hi⟩
  | snoc _ _ => simp at hn
 | succ n ih =>
  intro g e ve hn h
  cases h with
  | nil => simp at hn
  | @snoc g a e r v ve h1 h2 =>
   have hl : e.length = n := by simpa using hn
   obtain ⟨i1, i2⟩ := ih hl h1
   refine ⟨by simp [i1], fun i hi => ?_⟩
   cases i with
   | zero =>
    refine ⟨v, a, r, rfl, ?_, ?_, h2⟩
    ·simp
    ·simp [i1]
   | succ i =>
    obtain ⟨v', a', r', q1, q2, q3, q4⟩ := i2 i (by simp at hi; omega)
    have e1 : (e ++ [r]).length - 1 - (i + 1) = e.length - 1 - i := by simp; omega
    have hlt : e.length - 1 - i < e.length := (List.getElem?_eq_some_iff.1 q2).1
    refine ⟨v', a', r', by rw [atV]; exact q1, ?_, ?_, q4⟩
    ·rw [e1, List.getElem?_append_left hlt]; exact q2
    ·rw [e1, List.getElem?_append_left (by omega)]; exact q3
theorem EnvV.len {K : Tys} {g : List Ty} {e : List Res} {ve : V} (h : EnvV K g e ve) : e.length = g.length := by
 cases he : e with
 | nil =>
  subst he
  generalize hq : ([] : List Res) = q at h
  cases h with
  | nil => rfl
  | snoc _ _ => simp at hq
 | cons x l =>
  obtain ⟨_, _, _, _, _, _, _, h⟩ := h.get 0 (by rw [he]; simp)
  rw [← he]; exact h
theorem Ext.drew (g : G) (w : World) : Ext g w g w.drew :=
 ⟨rfl, rfl, rfl, by simp, fun _ => Nat.le_refl _, fun _ _ _ => rfl, fun _ _ h => ⟨rfl, h⟩, fun id h => ⟨h, rfl, .inl rfl⟩, Nat.le_refl _⟩
theorem Rel.drew {env : Nat → Option (List V)} {g : G} {w : World} {h : H} (r : Rel env g w h) : Rel env g w.drew h := by
 have hx := Ext.drew g w
 refine ⟨r.dom, r.top, ?_, r.inj, ?_, r.apart, r.apart2, ?_, fun k cs' e => (r.glob k cs' e).mono hx⟩
 ·intro id cs e
  obtain ⟨vs, h1, h2, h3, h4, h5⟩ := r.box id cs e
  exact ⟨vs, h1, h2, fun i c v a b => (h3 i c v a b).mono hx, h4, h5⟩
 ·intro id n k e
  obtain ⟨h1, h2, h3, hk⟩ := r.tok id n k e
  exact ⟨h1, h2, fun hlt => by
   obtain ⟨b, off, vs', s1, s2, s3, s4, s5⟩ := h3 hlt
   exact ⟨b, off, vs', s1, s2, s3, s4, s5⟩, hk⟩
 ·intro b hb; simp only [World.size_drew] at hb; exact r.limnew b hb
theorem RV.freeze {g g' : G} {w : World} {S : Id → Prop} (hl : ∀ b, g.lim b ≤ g'.lim b) (hS : ∀ id, S id → g'.dom id = true ∧ g'.loc id = g.loc id ∧ g'.buf id = g.buf id)
  {c : Value} {v : V} (h : RV g w c v) (hin : InV S v) : RV g' w c v := by
 induction h with
 | undef c => exact .undef c
 | bool b => exact .bool b
 | int k n => exact .int k n
 | str s => exact .str s
 | agg vs cs h _ ih => rw [InV] at hin; exact .agg vs cs h fun i c v hc hv => ih i c v hc hv (InL_get hin hv)
 | tup vs cs h _ ih => rw [InV] at hin; exact .tup vs cs h fun i c v hc hv => ih i c v hc hv (InL_get hin hv)
 | sl a cap c es k cell hk hcap hrun _ hc ih =>
  rw [InV] at hin
  refine .sl a cap c es k cell hk hcap (fun hne => ?_) (fun i v hv => ih i v hv (InL_get (InLL_flat.1 hin.2) hv)) ?_
  ·obtain ⟨b, off, e, h1, h2⟩ := hrun hne
   exact ⟨b, off, e, Nat.le_trans h1 (hl b), h2⟩
  cases c with
  | any => trivial
  | full => exact hc
  | own id =>
   obtain ⟨a1, a2, a3⟩ := hS id hin.1
   exact ⟨a1, by rw [a3]; exact hc.2⟩
 | ptr id off h => rw [InV] at hin; rw [← (hS id hin).2.1]; exact .ptr id off (hS id hin).1
 | slb id n cap h h2 => rw [InV] at hin; rw [← (hS id hin).2.1]; exact .slb id n cap (hS id hin).1 h2
 | el b off cs o cell hlm hrun _ ih => rw [InV] at hin; exact .el b off cs o cell (Nat.le_trans hlm (hl b)) hrun fun i v hv => ih i v hv (InL_get hin hv)
 | nilp => exact .nilp
 | fn f fs cs fs' cs' h1 h2 _ _ ih1 ih2 =>
  rw [InV] at hin
  exact .fn f fs cs fs' cs' h1 h2 (fun i c v hc hv => ih1 i c v hc hv (InL_get hin.1 hv)) (fun i c v hc hv => ih2 i c v hc hv (InL_get hin.2 hv))
 | nilf => exact .nilf
 | iface t c v _ ih => rw [InV] at hin; exact .iface t c v (ih hin)
 | nili => exact .nili
def RelD (ds : List Deferred) (env : Nat → Option (List V)) (n : Nat) (g : G) (w : World) (a : Act) (σ : St) : Prop := RelSt env n g w { a with defers := [] } σ ∧ a.defers = ds
theorem RelD.of {env : Nat → Option (List V)} {n : Nat} {g : G} {w : World} {a : Act} {σ : St} (r : RelSt env n g w a σ) : RelD [] env n g w a σ := by
 have h := r.defers
 obtain ⟨t, d⟩ := a
 simp only at h
 subst h
 exact ⟨r, rfl⟩
theorem RelD.st {env : Nat → Option (List V)} {n : Nat} {g : G} {w : World} {a : Act} {σ : St} (r : RelD [] env n g w a σ) : RelSt env n g w a σ := by
 obtain ⟨r, h⟩ := r
 obtain ⟨t, d⟩ := a
 simp only at h
 subst h
 exact r
theorem RelD.av {ds : List Deferred} {env : Nat → Option (List V)} {n : Nat} {g : G} {w : World} {a : Act} {σ : St} (r : RelD ds env n g w a σ) (x : Operand) : RV g w (a.eval x) (av env σ.tm x) := rv_av r.1 x
theorem put_defers {a : Act} {d : Option Tmp} {v : Value} : { a.put d v with defers := [] } = ({ a with defers := [] } : Act).put d v ∧ (a.put d v).defers = a.defers := by
 cases d <;> exact ⟨rfl, rfl⟩
theorem RelD.put {ds : List Deferred} {env : Nat → Option (List V)} {n : Nat} {g : G} {w : World} {a : Act} {σ : St} (r : RelD ds env n g w a σ) {g' : G} {w' : World} (x : Ext g w g' w')
  {d : Option Nat} (hd : ∀ t, d = some t → t < n) {c : Value} {v : V} {h' : H} (hr : Rel env g' w' h') (hv : RV g' w' c v) : RelD ds env n g' w' (a.put d c) ⟨upd σ.tm d v, h'⟩ :=
 ⟨by rw [put_defers.1]; exact r.1.put x hd hr hv, by rw [put_defers.2]; exact r.2⟩
section
variable {F : Fence} (hF : ∀ f, F.fn f) (hdp : F.depth = none) {m : Nat} {ds : List Deferred}
include hF hdp
theorem stp_wpIn {P : Program} {env : Nat → Option (List V)} {n : Nat} {g : G} {w : World} {a : Act} {σ : St} {nid : Id} {o : Oper} {eff : Eff}
  (hc : ∀ k args w R, Calls P k args w R → CallsIn F (m - 1) P k args w R)
  (hs : Stp P env (av env σ.tm) σ.h nid o.op eff) (r : RelD ds env n g w a σ) (hd : ∀ t, o.dst = some t → t < n) {next : Act → World → Prop} {Q : Exit → Act → World → Prop}
  (hn : ∀ g' a' w', Ext g w g' w' → RelD ds env n g' w' a' (σ.put o.dst eff) → next a' w') : o.wpIn F m P a w next Q := by
 have hnd : ∀ c, o.op ≠ .defer c := by
  intro c hc
  rcases hs with hs | ⟨c', hc', _⟩
  ·rw [hc] at hs; simp [prim, primH, primV] at hs
  ·rw [hc] at hc'; cases hc'
 refine ⟨fun f _ => hF f, ?_⟩
 rw [Oper.semAt_plain F _ _ hnd]
 rcases hs with hs | ⟨c, hc0, hs⟩
 ·obtain ⟨cv, w', g', hrun, hx, hr, hv⟩ := prim_sound r.1.rel (fun x => r.av x) hs
  have := hn g' (a.put o.dst cv) w' hx (r.put hx hd hr hv)
  rcases hrun with hrun | ⟨hrun, rfl⟩
  ·simpa only [hrun, Oper.uponIn_value] using this
  ·simpa only [hrun, Oper.uponIn_skip] using this
 ·obtain ⟨k, vs, hrun, hcall⟩ := callEff_run r.1.rel (fun x => r.av x) hc0 hs
  simp only [hrun, Oper.uponIn_enter]
  refine ⟨fun h => by rw [hdp] at h; simp at h, (hc _ _ _ _ hcall).mono ?_⟩
  rintro e w' ⟨cv, g', rfl, hx', hr', hv'⟩
  exact hn g' _ w' hx' (r.put hx' hd hr' hv')
end
section
variable {F : Fence} (hF : ∀ f, F.fn f) (hdp : F.depth = none) {m : Nat} {ds : List Deferred}
variable {P : Program} (hcl : ∀ k args w R, Calls P k args w R → CallsIn F (m - 1) P k args w R)
variable {env : Nat → Option (List V)} {ops : Array Oper} {gen reg n : Nat} (hn : dstOk n ops = true)
include hF hdp hcl hn
theorem cstep_wpIn {x : Nat × Option Eff} {σ σ' : St} (h : CStep P env ops gen reg x σ σ') {g : G} {w : World} {a : Act} (r : RelD ds env n g w a σ)
  {K : Act → World → Prop} {Q : Exit → Act → World → Prop} (hk : ∀ g' a' w', Ext g w g' w' → RelD ds env n g' w' a' σ' → K a' w') : wpOpIn F m P ops Q x.1 K a w := by
 obtain ⟨o, ho, h⟩ := h
 unfold wpOpIn
 rw [ho]
 simp only
 cases hx : x.2 with
 | some e =>
  rw [hx] at h
  obtain ⟨hg, hs, rfl⟩ := h
  rw [gwant_sound r.1 hg]
  simp only [if_true]
  exact stp_wpIn hF hdp hcl hs r (dstOk_at hn ho) hk
 | none =>
  rw [hx] at h
  obtain ⟨hg, rfl⟩ := h
  rw [gwant_sound r.1 hg]
  simp only [Bool.false_eq_true, if_false]
  exact ⟨fun f _ => hF f, hk g _ w (Ext.refl g w) (r.put (Ext.refl g w) (dstOk_at hn ho) r.1.rel (.tup _ _ rfl (by simp)))⟩
theorem chain_opsIn : ∀ (l : List (Nat × Option Eff)) {σ σe : St} (h : Chain P env ops gen reg l σ σe) {g : G} {w : World} {a : Act} (r : RelD ds env n g w a σ)
  {Q : Exit → Act → World → Prop} (hk : ∀ g' a' w', Ext g w g' w' → RelD ds env n g' w' a' σe → Q .normal a' w'), wpOpsIn F m P ops Q (l.map (·.1)) a w
 | [], _, _, .nil _, g, w, a, r, Q, hk => hk g a w (Ext.refl g w) r
 | x :: l, _, _, .cons _ _ _ σ1 _ hs t, g, w, a, r, Q, hk => by
  rw [List.map_cons, wpOpsIn_cons]
  exact cstep_wpIn hF hdp hcl hn hs r fun g' a' w' hx r' => chain_opsIn l t r' fun g2 a2 w2 hx2 r2 => hk g2 a2 w2 (hx.trans hx2) r2
end
section
variable {F : Fence} (hF : ∀ f, F.fn f) (hdp : F.depth = none) {m : Nat} {ds : List Deferred}
variable {P : Program} (hcl : ∀ k args w R, Calls P k args w R → CallsIn F (m - 1) P k args w R)
variable {env : Nat → Option (List V)} {ops : Array Oper} {gen reg n : Nat} (hn : dstOk n ops = true) (hok : drawOk ops = true)
include hF hdp hcl hn hok
theorem chain_anyIn {Q : Exit → Act → World → Prop} {σe : St} {g0 : G} {w0 : World} (hk : ∀ g' a' w', Ext g0 w0 g' w' → RelD ds env n g' w' a' σe → Q .normal a' w') :
  ∀ (fuel : Nat) (l : List (Nat × Option Eff)) (listed : Array Bool) (σ : St) (g : G) (w : World) (a : Act), l.length ≤ fuel → listed.size = ops.size →
   (∀ i, (∃ x ∈ l, x.1 = i) ↔ (i < ops.size ∧ listed.getD i true = false)) → l.Pairwise (fun x y => x.1 < y.1) → l.Pairwise (PairOk ops) →
   (∀ j o, ops[j]? = some o → listed.getD j false = true → ∀ e ∈ o.after, Region.binds .any e = true → listed.getD e.on false = true) →
   Chain P env ops gen reg l σ σe → Ext g0 w0 g w → RelD ds env n g w a σ → wpAnyIn F m P .any ops Q fuel listed a w := by
 obtain ⟨ht, hsp⟩ := drawOk_spec hok
 have hready : ∀ (l : List (Nat × Option Eff)) (listed : Array Bool), listed.size = ops.size → (∀ i, (∃ x ∈ l, x.1 = i) ↔ (i < ops.size ∧ listed.getD i true = false)) →
   l.Pairwise (fun x y => x.1 < y.1) → l ≠ [] → Region.ready .any ops listed ≠ [] := by
  intro l listed hsz hm hp hne
  cases l with
  | nil => exact absurd rfl hne
  | cons x l =>
   have hx := (hm x.1).1 ⟨x, by simp, rfl⟩
   have : x.1 ∈ Region.ready .any ops listed := by
    rw [mem_ready]
    refine ⟨hx.2, ops[x.1]'hx.1, Array.getElem?_eq_getElem hx.1, fun e he hb => ?_⟩
    have hlt := (hsp x.1 _ (Array.getElem?_eq_getElem hx.1)).1 e he hb
    cases hq : listed.getD e.on false with
    | true => rfl
    | false =>
     have hsz' : e.on < listed.size := by omega
     have : listed.getD e.on true = false := by
      simp [hsz'] at hq ⊢; exact hq
     obtain ⟨y, hy, e1⟩ := (hm e.on).2 ⟨by omega, this⟩
     rcases List.mem_cons.1 hy with rfl | hy
     ·omega
     ·have := (List.pairwise_cons.1 hp).1 y hy; omega
   intro e; rw [e] at this; simp at this
 intro fuel
 induction fuel with
 | zero =>
  intro l listed σ g w a hl hsz hm hp hpo hc hch hx r
  have : l = [] := List.eq_nil_of_length_eq_zero (by omega)
  subst this
  cases hch
  refine ⟨?_, hk g a w hx r⟩
  apply List.eq_nil_iff_forall_not_mem.2
  intro i hi
  rw [mem_ready] at hi
  obtain ⟨h1, o, ho, _⟩ := hi
  obtain ⟨x, hx', _⟩ := (hm i).2 ⟨(Array.getElem?_eq_some_iff.1 ho).1, h1⟩
  simp at hx'
 | succ fuel ih =>
  intro l listed σ g w a hl hsz hm hp hpo hc hch hx r
  refine ⟨fun hr => ?_, fun i hi => ?_⟩
  ·by_cases hne : l = []
   ·subst hne; cases hch; exact hk g a w hx r
   ·exact absurd hr (hready l listed hsz hm hp hne)
  ·have hi' := mem_ready.1 hi
   obtain ⟨h1, o, ho, hd⟩ := hi'
   have hisz : i < ops.size := (Array.getElem?_eq_some_iff.1 ho).1
   obtain ⟨x, hxl, rfl⟩ := (hm i).2 ⟨hisz, h1⟩
   obtain ⟨pre, post, rfl⟩ := List.append_of_mem hxl
   have hpull := pull (P := P) (env := env) (gen := gen) (reg := reg) ho pre post σ σe (fun y hy => by
    have hy' := (hm y.1).1 ⟨y, by simp [hy], rfl⟩
    have hlt : y.1 < x.1 := (List.pairwise_append.1 hp).2.2 y hy x (by simp)
    have hpk : PairOk ops y x := (List.pairwise_append.1 hpo).2.2 y hy x (by simp)
    have hnord : ordB ops y.1 x.1 ≠ true := by
     intro hb
     have := ord_listed ht hc x.1 o ho hd y.1 hy'.1 hb
     have h2 := hy'.2
     have hsz' : y.1 < listed.size := by rw [hsz]; exact hy'.1
     simp [hsz'] at this h2
     rw [this] at h2; exact Bool.noConfusion h2
    refine ⟨ops[y.1]'hy'.1, Array.getElem?_eq_getElem hy'.1, ?_, ?_⟩
    ·exact ((hsp x.1 o ho).2 y.1 _ hlt (Array.getElem?_eq_getElem hy'.1)).resolve_left hnord
    ·exact hpk.resolve_left hnord) hch
   cases hpull with
   | cons _ _ _ σ1 _ hs t =>
    refine cstep_wpIn hF hdp hcl hn hs r fun g' a' w' hx' r' => ?_
    have hsub : (pre ++ post).Sublist (pre ++ x :: post) := List.Sublist.append_left (List.sublist_cons_self x post) pre
    refine ih (pre ++ post) (listed.setIfInBounds x.1 true) σ1 g' w' a' (by simp at hl ⊢; omega) (by simpa using hsz) ?_ (hp.sublist hsub) (hpo.sublist hsub) ?_ t (hx.trans hx') r'
    ·intro i
     constructor
     ·rintro ⟨y, hy, rfl⟩
      have hy2 := (hm y.1).1 ⟨y, hsub.subset hy, rfl⟩
      have hne : x.1 ≠ y.1 := by
       rcases List.mem_append.1 hy with hy | hy
       ·have := (List.pairwise_append.1 hp).2.2 y hy x (by simp); omega
       ·have := (List.pairwise_cons.1 (List.pairwise_append.1 hp).2.1).1 y hy; omega
      exact ⟨hy2.1, by rw [getD_set_ne true hne]; exact hy2.2⟩
     ·rintro ⟨hi1, hi2⟩
      have hne : x.1 ≠ i := by
       intro e; subst e
       have : x.1 < listed.size := by rw [hsz]; exact hisz
       simp [this] at hi2
      rw [getD_set_ne true hne] at hi2
      obtain ⟨y, hy, rfl⟩ := (hm i).2 ⟨hi1, hi2⟩
      rcases List.mem_append.1 hy with hy | hy
      ·exact ⟨y, by simp [hy], rfl⟩
      ·rcases List.mem_cons.1 hy with rfl | hy
       ·exact absurd rfl hne
       ·exact ⟨y, by simp [hy], rfl⟩
    ·intro j o' ho' hj e he hb
     by_cases hjx : x.1 = j
     ·subst hjx
      rw [ho] at ho'; cases ho'
      exact getD_set_true (hd e he hb)
     ·rw [getD_set_ne false hjx] at hj
      exact getD_set_true (hc j o' ho' hj e he hb)
theorem chain_region_drawIn {l : List (Nat × Option Eff)} {σ σe : St} (hm : P.follows .mixedOrders = true) (hl : l.map (·.1) = List.range ops.size) (hpo : l.Pairwise (PairOk ops))
  (hch : Chain P env ops gen reg l σ σe) {g : G} {w : World} {a : Act} (r : RelD ds env n g w a σ) {Q : Exit → Act → World → Prop}
  (hk : ∀ g' a' w', Ext g w g' w' → RelD ds env n g' w' a' σe → Q .normal a' w') {id : Nat} : (Code.region id ops true).wpIn F m P Q a w := by
 have hx : Ext g w g { w with drawn := w.drawn + 1 } :=
  ⟨rfl, rfl, rfl, Nat.le_refl _, fun _ => Nat.le_refl _, fun _ _ _ => rfl, fun _ _ h => ⟨rfl, h⟩, fun _ h => ⟨h, rfl, .inl rfl⟩, Nat.le_refl _⟩
 have hrel : Rel env g { w with drawn := w.drawn + 1 } σ.h := by
  have q := r.1.rel
  refine ⟨q.dom, q.top, fun id cs e => ?_, q.inj, fun id n k e => ?_, q.apart, q.apart2, q.limnew, fun k cs e => (q.glob k cs e).mono hx⟩
  ·obtain ⟨vs, h1, h2, h3, h4, h5⟩ := q.box id cs e
   exact ⟨vs, h1, h2, fun i c v x y => (h3 i c v x y).mono hx, h4, h5⟩
  ·obtain ⟨h1, h2, h3, h4⟩ := q.tok id n k e
   exact ⟨h1, h2, h3, h4⟩
 refine wpIn_region_any hm (chain_anyIn hF hdp hcl hn hok (g0 := g) (w0 := w) hk ops.size l _ σ g _ a ?_ (by simp) ?_ ?_ hpo ?_ hch hx ⟨⟨hrel, fun t => (r.1.tm t).mono hx, r.1.size, r.1.defers⟩, r.2⟩)
 ·have := congrArg List.length hl; simp at this; omega
 ·intro i
  have : (∃ x ∈ l, x.1 = i) ↔ i ∈ l.map (·.1) := by simp
  rw [this, hl, List.mem_range]
  constructor
  ·intro h; exact ⟨h, by simp [h]⟩
  ·exact fun h => h.1
 ·have : (l.map (·.1)).Pairwise (· < ·) := by rw [hl]; exact List.pairwise_lt_range
  rw [List.pairwise_map] at this
  exact this
 ·intro j o ho hj
  have hjl : j < ops.size := (Array.getElem?_eq_some_iff.1 ho).1
  simp [hjl] at hj
end
structure XC where
 F : Fence
 ds : List Deferred
 X : G → World → Prop
 E : Exit → Act → World → Prop
structure XOk (P : Program) (x : XC) : Prop where
 fn : ∀ f, x.F.fn f
 dp : x.F.depth = none
 cl : ∀ k args w R, Calls P k args w R → CallsIn x.F (0 - 1) P k args w R
 X : ∀ g w g' w', Ext g w g' w' → x.X g w → x.X g' w'
def postX (P : Program) (F : Fence) (E : Exit → Act → World → Prop) : List It → Exit → Act → World → Prop
 | [], e, a, w => E e a w
 | .code y :: k, .normal, a, w => y.wpIn F 0 P (postX P F E k) a w
 | .code _ :: k, e, a, w => postX P F E k e a w
 | .block _ :: k, .normal, a, w => postX P F E k .normal a w
 | .block id :: k, .exit id', a, w => if id' = id then postX P F E k .normal a w else postX P F E k (.exit id') a w
 | .block _ :: k, e, a, w => postX P F E k e a w
 | .inv _ :: k, e, a, w => postX P F E k e a w
def ARX (c : Ctx) (x : XC) (gen : Nat) (k : List It) (e : Exit) (σ : St) : Prop :=
 ∀ g a w, Ext c.g0 c.w0 g w → x.X g w → RelD x.ds c.env c.n g w a σ → postX c.P x.F x.E k e a w
section
variable {c : Ctx} {x : XC} {gen : Nat} {k : List It} {σ : St}
theorem ARX_skip (h : ARX c x gen k .normal σ) : ARX c x gen (.code .skip :: k) .normal σ := fun g a w hx hX r => wpIn_skip (h g a w hx hX r)
theorem ARX_seq {y z : Code} (h : ARX c x gen (.code y :: .code z :: k) .normal σ) : ARX c x gen (.code (.seq y z) :: k) .normal σ := by
 intro g a w hx hX r
 refine wpIn_seq (wpIn_mono (h g a w hx hX r) ?_)
 intro e a' w' hp
 cases e <;> exact hp
theorem ARX_cond {y z : Code} {t : Operand} {b : Bool} (ht : av c.env σ.tm t = .bool b) (h1 : b = true → ARX c x gen (.code y :: k) .normal σ)
  (h2 : b = false → ARX c x gen (.code z :: k) .normal σ) : ARX c x gen (.code (.cond t y z) :: k) .normal σ := by
 intro g a w hx hX r
 have hr := r.av t
 rw [ht] at hr
 have hc : a.eval t = .bool b := by cases hh : a.eval t <;> rw [hh] at hr <;> cases hr; rfl
 refine wpIn_cond_split hc (fun hb => ?_) (fun hb => ?_)
 ·exact h1 hb g a w hx hX r
 ·exact h2 hb g a w hx hX r
theorem ARX_block {id : Nat} {y : Code} (h : ARX c x gen (.code y :: .block id :: k) .normal σ) : ARX c x gen (.code (.block id y) :: k) .normal σ := by
 intro g a w hx hX r
 refine wpIn_block (wpIn_mono (h g a w hx hX r) ?_)
 intro e a' w' hp
 cases e <;> exact hp
theorem ARX_exit {id : Nat} (h : ARX c x gen k (.exit id) σ) : ARX c x gen (.code (.exit id) :: k) .normal σ := fun g a w hx hX r => wpIn_exit (h g a w hx hX r)
theorem ARX_ret (h : ARX c x gen k .ret σ) : ARX c x gen (.code .ret :: k) .normal σ := fun g a w hx hX r => wpIn_ret (h g a w hx hX r)
theorem ARX_block_end {id : Nat} (h : ARX c x gen k .normal σ) : ARX c x gen (.block id :: k) .normal σ := fun g a w hx hX r => h g a w hx hX r
theorem ARX_block_hit {id : Nat} (h : ARX c x gen k .normal σ) : ARX c x gen (.block id :: k) (.exit id) σ := fun g a w hx hX r => by
 simp only [postX, if_true]; exact h g a w hx hX r
theorem ARX_block_pass {id id' : Nat} (hne : id' ≠ id) (h : ARX c x gen k (.exit id') σ) : ARX c x gen (.block id :: k) (.exit id') σ := fun g a w hx hX r => by
 simp only [postX, if_neg hne]; exact h g a w hx hX r
theorem ARX_code_exit {id : Nat} {y : Code} (h : ARX c x gen k (.exit id) σ) : ARX c x gen (.code y :: k) (.exit id) σ := fun g a w hx hX r => h g a w hx hX r
theorem ARX_gen {gen' : Nat} {e : Exit} (h : ∀ gn, (∀ id, σ.h id ≠ none → id.gen < gn) → ARX c x gn k e σ) : ARX c x gen' k e σ :=
 fun g a w hx hX r => h g.top (fun id hid => r.1.rel.top id hid) g a w hx hX r
theorem ARX_region {id : Nat} {ops : Array Oper} {draw : Bool} (ok : XOk c.P x) (hm : c.P.follows .mixedOrders = true) (hok : okCode c.n (.region id ops draw) = true)
  (h : aops c.P c.env ops draw gen id ops.toList 0 [] (fun σ' => ARX c x gen k .normal σ') σ) : ARX c x gen (.code (.region id ops draw) :: k) .normal σ := by
 intro g a w hx hX r
 simp only [okCode, Bool.and_eq_true, Bool.or_eq_true, Bool.not_eq_true'] at hok
 obtain ⟨hd, hdr⟩ := hok
 obtain ⟨l, σe, h1, h2, h3, h4⟩ := aops_chain ops.toList 0 [] σ [] (fun j => by simp) (by simp) (by simp) h
 have hl : l.map (·.1) = List.range ops.size := by rw [h1]; simp
 have hk : ∀ g' a' w', Ext g w g' w' → RelD x.ds c.env c.n g' w' a' σe → postX c.P x.F x.E k .normal a' w' := fun g' a' w' hx' r' => h3 g' a' w' (hx.trans hx') (ok.X _ _ _ _ hx' hX) r'
 cases draw with
 | false =>
  refine wpIn_region ?_
  rw [← hl]
  exact chain_opsIn ok.fn ok.dp ok.cl hd l h2 r hk
 | true =>
  have hdk : drawOk ops = true := by simpa using hdr
  exact chain_region_drawIn ok.fn ok.dp ok.cl hd hdk hm hl (h4 rfl).1 h2 r hk
end
def xF (c : Ctx) : XC := ⟨Fence.wide, [], fun _ _ => True, bodyPostM Fence.wide 0 c.P c.fn c.R⟩
theorem bodyPost_M {c : Ctx} {e : Exit} {a : Act} {w : World} (h : bodyPost c.P c.fn c.R e a w) : bodyPostM Fence.wide 0 c.P c.fn c.R e a w := by
 cases e with
 | normal => obtain ⟨hd, v, h1, h2⟩ := h; simp only [bodyPostM, hd, LeavesInM, LeavesIn]; exact ⟨v, h1, h2⟩
 | ret => obtain ⟨hd, v, h1, h2⟩ := h; simp only [bodyPostM, hd, LeavesInM, LeavesIn]; exact ⟨v, h1, h2⟩
 | panic ch => obtain ⟨hd, h2⟩ := h; simp only [bodyPostM, hd, LeavesInM, LeavesIn]; exact h2
 | outgrown => exact h
 | exit id => exact h.elim
 | goto l => exact h.elim
theorem postX_out {P : Program} {F : Fence} {E : Exit → Act → World → Prop} {e : Exit} (he : e = .ret ∨ (∃ ch, e = .panic ch) ∨ e = .outgrown) {a : Act} {w : World} (h : E e a w) : ∀ k : List It, postX P F E k e a w
 | [] => h
 | .code y :: k => by
  rcases he with rfl | ⟨ch, rfl⟩ | rfl
  ·exact postX_out (.inl rfl) h k
  ·exact postX_out (.inr (.inl ⟨ch, rfl⟩)) h k
  ·exact postX_out (.inr (.inr rfl)) h k
 | .block id :: k => by
  rcases he with rfl | ⟨ch, rfl⟩ | rfl
  ·exact postX_out (.inl rfl) h k
  ·exact postX_out (.inr (.inl ⟨ch, rfl⟩)) h k
  ·exact postX_out (.inr (.inr rfl)) h k
 | .inv J :: k => by
  rcases he with rfl | ⟨ch, rfl⟩ | rfl
  ·exact postX_out (.inl rfl) h k
  ·exact postX_out (.inr (.inl ⟨ch, rfl⟩)) h k
  ·exact postX_out (.inr (.inr rfl)) h k
theorem postI_X {c : Ctx} {gen : Nat} {J : St → Prop} {k : List It} (hk : ∀ σ', J σ' → ARX c (xF c) gen k .normal σ') :
  ∀ (ps : List Code) (e : Exit) (a : Act) (w : World), postI c (ps.map .code ++ [.inv J]) e a w → postX c.P (xF c).F (xF c).E (ps.map .code ++ k) e a w
 | [], e, a, w, h => by
  cases e with
  | normal => obtain ⟨g, σ, h1, h2, h3⟩ := h; exact hk σ h3 g a w h1 trivial (RelD.of h2)
  | ret => exact postX_out (.inl rfl) (bodyPost_M (show bodyPost c.P c.fn c.R .ret a w from h)) k
  | panic ch => exact postX_out (.inr (.inl ⟨ch, rfl⟩)) (bodyPost_M (show bodyPost c.P c.fn c.R (.panic ch) a w from h)) k
  | outgrown => exact postX_out (.inr (.inr rfl)) (bodyPost_M (show bodyPost c.P c.fn c.R .outgrown a w from h)) k
  | exit id => exact (show bodyPost c.P c.fn c.R (.exit id) a w from h).elim
  | goto l => exact (show bodyPost c.P c.fn c.R (.goto l) a w from h).elim
 | p :: ps, e, a, w, h => by
  cases e with
  | normal => exact wpIn_mono (wpIn_wide.2 (show p.wp c.P _ a w from h)) (fun e a w => postI_X hk ps e a w)
  | _ => exact postI_X hk ps _ a w h
theorem ARX_of_AR {c : Ctx} {gen : Nat} {J : St → Prop} {k : List It} {σ : St} (ps : List Code) (hok : okStk c.n (ps.map .code ++ [.inv J]) = true) (hm : c.P.follows .mixedOrders = true)
  (h : AR c gen (ps.map .code ++ [.inv J]) .normal σ) (hk : ∀ σ', J σ' → ARX c (xF c) gen k .normal σ') : ARX c (xF c) gen (ps.map .code ++ k) .normal σ :=
 fun g a w hx _ r => postI_X hk ps .normal a w (h hok hm g a w hx r.st)
theorem ret_of_walkX {P : Program} {env : Nat → Option (List V)} {f : FuncId} {fn : Func} {body : Code} {args : List V} {h : H} {v : V} {h' : H}
  (hf : P.funcs[f]? = some fn) (hb : fn.body = some body) (hname : (fn.name == "runtime.NumGoroutine") = false)
  (walk : ∀ (g : G) (w : World) (gen : Nat), Rel env g w h → (∀ id, h id ≠ none → id.gen < gen) →
   ARX ⟨P, env, fn.ntmps, fn, g, w, h, v, h'⟩ (xF ⟨P, env, fn.ntmps, fn, g, w, h, v, h'⟩) gen [.code body] .normal ⟨argTm args, h⟩) : Ret P env f args h v h' := by
 refine ⟨⟨fn, hf, by rw [hb]; rfl, hname⟩, fun g w vs hr hv => ?_⟩
 have hw := walk g w g.top hr (fun id hid => hr.top id hid)
 refine callsIn_wide.1 (callsIn_of_wp_marks (n := 0) hf hb trivial ?_)
 have hst : RelSt env fn.ntmps g w { tmps := vs ++ Array.replicate (fn.ntmps - vs.size) undef, defers := [] } ⟨argTm args, h⟩ := by
  refine ⟨hr, fun t => ?_, by simp; omega, rfl⟩
  simp only [argTm]
  cases ha : args[t]? with
  | none => exact .undef _
  | some v =>
   obtain ⟨c0, h1, h2⟩ := hv.at ha
   have hlt : t < vs.size := (Array.getElem?_eq_some_iff.1 h1).1
   have : (vs ++ Array.replicate (fn.ntmps - vs.size) undef).getD t undef = c0 := by
    simp [Array.getElem?_append_left hlt, h1]
   rw [this]; exact h2
 have := hw g _ w (Ext.refl g w) trivial (RelD.of hst)
 refine wpIn_mono (show body.wpIn _ _ _ _ _ _ from this) ?_
 intro e a' w' hp
 cases e <;> exact hp
structure Turned (B : Nat) (W W' : World) : Prop where
 size : W.heap.size ≤ W'.heap.size
 os : W'.os = W.os
 tape : W'.tape = W.tape
 output : W'.output = W.output
 same : ∀ b, b < B → W'.heap[b]? = W.heap[b]?
 cell : ∀ b o, b < W.heap.size → W'.cell? ⟨b, o, none⟩ = W.cell? ⟨b, o, none⟩
 keep : ∀ (b : Nat) (vs : Array Value) (ty : TypeId), W.heap[b]? = some (Go.Obj.cells vs ty (0, 0)) → W'.heap[b]? = some (Go.Obj.cells vs ty (0, 0))
theorem turned_alloc {B : Nat} {W : World} {o : Go.Obj} (hB : B ≤ W.heap.size) : Turned B W (W.alloc o) := by
 have hold : ∀ b, b < W.heap.size → (W.alloc o).heap[b]? = W.heap[b]? := fun b hb => Go.RowKit.Below.heap_alloc W o b hb
 refine ⟨by simp, rfl, rfl, rfl, fun b hb => hold b (by omega), fun b off hb => ?_, fun b vs ty h => ?_⟩
 ·simp only [World.cell?, hold b hb]
 ·rw [hold b (Array.getElem?_eq_some_iff.1 h).1]; exact h
theorem turned_put {B l : Nat} {W : World} {o o' : Go.Obj} (hB : B ≤ l) (h : W.heap[l]? = some o) (ho : o.isCells = false) (ho' : o'.isCells = false) : Turned B W (W.putObj l o') := by
 have hl : l < W.heap.size := (Array.getElem?_eq_some_iff.1 h).1
 refine ⟨by simp, rfl, rfl, rfl, fun b hb => World.putObj_heap_other (by omega), fun b off hb => ?_, fun b vs ty hb => ?_⟩
 ·by_cases e : b = l
  ·subst e
   simp only [World.cell?, World.putObj_heap_same hl, h]
   cases o <;> simp [Go.Obj.isCells] at ho <;> cases o' <;> simp [Go.Obj.isCells] at ho' <;> rfl
  ·simp only [World.cell?, World.putObj_heap_other e]
 ·have e : b ≠ l := by
   intro e; subst e; rw [h] at hb; cases hb; simp [Go.Obj.isCells] at ho
  rw [World.putObj_heap_other e]; exact hb
def G.wrs (g : G) (f : Nat → Bool) : G := { g with wr := f }
theorem RV.wrs {g : G} {w : World} {c : Value} {v : V} (h : RV g w c v) (f : Nat → Bool) : RV (g.wrs f) w c v :=
 RV.freeze (g := g) (g' := g.wrs f) (S := fun id => g.dom id = true) (fun b => Nat.le_refl _) (fun id hid => ⟨hid, rfl, rfl⟩) h h.inV
def G.up (g : G) (B : Nat) : G := g.wrs fun b => g.wr b || decide (B ≤ b)
theorem Turned.ext {g gi : G} {w W W' : World} {B : Nat} (t : Turned B W W') (hB : w.heap.size ≤ B) (hl : ∀ b, w.heap.size ≤ b → g.lim b = 0) (x : Ext g w gi W) : Ext g w (gi.up B) W' := by
 refine ⟨t.os.trans x.os, t.tape.trans x.tape, t.output.trans x.output, Nat.le_trans x.size t.size, x.lim, fun b o h => ?_, fun b hb hw => ?_, x.dom, x.top⟩
 ·by_cases hs : b < W.heap.size
  ·rw [t.cell b o hs]; exact x.cells b o h
  ·have hw : w.heap.size ≤ b := by have := x.size; omega
   rw [hl b hw] at h; omega
 ·obtain ⟨h1, h2⟩ := x.wr b hb hw
  refine ⟨(t.same b (by omega)).trans h1, ?_⟩
  show (gi.wr b || decide (B ≤ b)) = false
  rw [h2]; simp; omega
theorem Turned.here {gi : G} {W W' : World} {B : Nat} (t : Turned B W W') (hl : ∀ b, W.heap.size ≤ b → gi.lim b = 0) : Ext (gi.up B) W (gi.up B) W' := by
 refine ⟨t.os, t.tape, t.output, t.size, fun _ => Nat.le_refl _, fun b o h => ?_, fun b hb hw => ?_, fun id h => ⟨h, rfl, .inl rfl⟩, Nat.le_refl _⟩
 ·by_cases hs : b < W.heap.size
  ·exact t.cell b o hs
  ·have : (gi.up B).lim b = gi.lim b := rfl
   rw [this, hl b (by omega)] at h; omega
 ·refine ⟨t.same b ?_, hw⟩
  have hw' : (gi.wr b || decide (B ≤ b)) = false := hw
  simp at hw'; omega
theorem Rel.wrs {env : Nat → Option (List V)} {g : G} {w : World} {h : H} (r : Rel env g w h) (f : Nat → Bool) (hf : ∀ b vs ty, w.heap[b]? = some (Go.Obj.cells vs ty (0, 0)) → g.wr b = true → f b = true) : Rel env (g.wrs f) w h := by
 refine ⟨r.dom, r.top, fun id cs e => ?_, r.inj, fun id n k e => ?_, r.apart, r.apart2, r.limnew, fun k cs e => (r.glob k cs e).wrs f⟩
 ·obtain ⟨vs, ⟨ty, h1⟩, h2, h3, h4, h5⟩ := r.box id cs e
  exact ⟨vs, ⟨ty, h1⟩, h2, fun i c v x y => (h3 i c v x y).wrs f, h4, hf _ vs ty h1 h5⟩
 ·obtain ⟨h1, h2, h3, h4⟩ := r.tok id n k e
  refine ⟨h1, h2, fun hlt => ?_, h4⟩
  obtain ⟨b, off, vs, s1, ⟨ty, s2⟩, s3, s4, s5⟩ := h3 hlt
  exact ⟨b, off, vs, s1, ⟨ty, s2⟩, s3, s4, hf _ vs ty s2 s5⟩
theorem Turned.rel {env : Nat → Option (List V)} {gi : G} {W W' : World} {B : Nat} {h : H} (t : Turned B W W') (r0 : Rel env gi W h) : Rel env (gi.up B) W' h := by
 have r : Rel env (gi.up B) W h := r0.wrs _ (fun b vs ty _ hw => by rw [hw]; rfl)
 have hx : Ext (gi.up B) W (gi.up B) W' := t.here r0.limnew
 refine ⟨r.dom, r.top, fun id cs e => ?_, r.inj, fun id n k e => ?_, r.apart, r.apart2, fun b hb => r.limnew b (Nat.le_trans t.size hb), fun k cs e => (r.glob k cs e).mono hx⟩
 ·obtain ⟨vs, ⟨ty, h1⟩, h2, h3, h4, h5⟩ := r.box id cs e
  exact ⟨vs, ⟨ty, t.keep _ _ _ h1⟩, h2, fun i c v x y => (h3 i c v x y).mono hx, h4, h5⟩
 ·obtain ⟨h1, h2, h3, h4⟩ := r.tok id n k e
  refine ⟨h1, h2, fun hlt => ?_, h4⟩
  obtain ⟨b, off, vs, s1, ⟨ty, s2⟩, s3, s4, s5⟩ := h3 hlt
  exact ⟨b, off, vs, s1, ⟨ty, t.keep _ _ _ s2⟩, s3, s4, s5⟩
def G.dn (g : G) (w : World) : G := g.wrs fun b => g.wr b && (match w.heap[b]? with | some o => o.isCells | none => true)
theorem Rel.dn {env : Nat → Option (List V)} {g : G} {w : World} {h : H} (r : Rel env g w h) : Rel env (g.dn w) w h :=
 r.wrs _ (fun b vs ty hb hw => by rw [hw, hb]; rfl)
theorem Ext.dn {g gi : G} {w W : World} (x : Ext g w gi W) : Ext g w (gi.dn W) W := by
 refine ⟨x.os, x.tape, x.output, x.size, x.lim, x.cells, fun b hb hw => ?_, x.dom, x.top⟩
 obtain ⟨h1, h2⟩ := x.wr b hb hw
 exact ⟨h1, by show (gi.wr b && _) = false; rw [h2]; rfl⟩
theorem dn_kept {g g' : G} {w w' : World} (x : Ext (g.dn w) w g' w') {b : Nat} {o : Go.Obj} (h : w.heap[b]? = some o) (ho : o.isCells = false) : w'.heap[b]? = some o ∧ g'.wr b = false := by
 have hw : (g.dn w).wr b = false := by
  show (g.wr b && (match w.heap[b]? with | some o => o.isCells | none => true)) = false
  rw [h]; simp [ho]
 obtain ⟨h1, h2⟩ := x.wr b (Array.getElem?_eq_some_iff.1 h).1 hw
 exact ⟨h1.trans h, h2⟩
def markD (D : Nat) : Deferred := { target := .collected D, args := #[] }
def XD (c : Ctx) (D : Nat) (g : G) (w : World) : Prop := c.w0.heap.size ≤ D ∧ g.wr D = false ∧ w.heap[D]? = some (.deferred (some []))
def xD (c : Ctx) (D : Nat) : XC := ⟨Fence.wide, [markD D], XD c D, bodyPostM Fence.wide 0 c.P c.fn c.R⟩
theorem xD_ok (c : Ctx) (D : Nat) : XOk c.P (xD c D) := ⟨fun _ => trivial, rfl, fun k args w R h => callsIn_wide.2 h, fun g w g' w' x ⟨h1, h2, h3⟩ => by
 obtain ⟨a1, a2⟩ := x.wr D (Array.getElem?_eq_some_iff.1 h3).1 h2
 exact ⟨h1, a2, a1.trans h3⟩⟩
theorem ARX_doneD {c : Ctx} {D gen : Nat} {σ : St} (hm : c.P.follows .mixedOrders = true) (hl0 : ∀ b, c.w0.heap.size ≤ b → c.g0.lim b = 0) (h : AR c gen [] .ret σ) : ARX c (xD c D) gen [] .ret σ := by
 intro g a w hx ⟨h1, h2, h3⟩ r
 have t : Turned D w (w.putObj D (.deferred none)) := turned_put (Nat.le_refl _) h3 rfl rfl
 have hx' : Ext c.g0 c.w0 (g.up D) (w.putObj D (.deferred none)) := t.ext h1 hl0 hx
 have hr : Rel c.env (g.up D) (w.putObj D (.deferred none)) σ.h := t.rel r.1.rel
 have hst : RelSt c.env c.n (g.up D) (w.putObj D (.deferred none)) { a with defers := [] } σ :=
  ⟨hr, fun t' => ((r.1.tm t').wrs _).mono (t.here r.1.rel.limnew), r.1.size, rfl⟩
 obtain ⟨_, v, q1, q2⟩ := h rfl hm _ _ _ hx' hst
 show LeavesInM Fence.wide 0 c.P c.fn a.tmps c.R a.defers .returning w
 rw [r.2]
 refine ⟨by simp, .inl ⟨D, _, rfl, run_takeDeferred h3, ?_⟩⟩
 exact ⟨v, q1, q2⟩
structure BackOk (P : Program) (gf : Nat) : Prop where
 call : Callable P gf
 go : ∀ (l pb po : Nat) (a : Option Addr) (len cap : Nat) (elm : Nat → Value) (K : Nat → World → Prop) (Kx : World → Prop), len * 8 ≤ 140737488351232 →
  (len ≠ 0 → ∃ b off, a = some ⟨b, off, none⟩) →
  (∀ i W, i ≤ len → K i W → W.cell? ⟨pb, po, none⟩ = some (.slice a len cap) ∧ ∀ b off, a = some ⟨b, off, none⟩ → ∀ j, j < len → W.cell? ⟨b, off + j, none⟩ = some (elm j)) →
  (∀ (i : Nat) W, i < len → K (i + 1) W → YieldAt Fence.wide (0 - 1) P l #[.int .i64 (i : Int), elm i] W fun e W' => (e = .returned (.bool true) ∧ K i W') ∨ (e = .returned (.bool false) ∧ Kx W')) →
  ∀ W, K len W → CallsIn Fence.wide 0 P gf #[.func (.yield l) #[] #[], .pointer (some ⟨pb, po, none⟩)] W fun e W' => (∃ v, e = .returned v) ∧ (K 0 W' ∨ Kx W')
theorem rv_anyCap {g : G} {w : World} {c : Value} {cc : Cap} {es : List (List V)} (h : RV g w c (.sl cc es)) : RV g w c (.sl .any es) := by
 cases h with
 | sl a cap _ _ k cell hk hcap hrun hr hc => exact .sl a cap .any es k cell hk hcap hrun hr trivial
theorem pure_boxFn {P : Program} {env : Nat → Option (List V)} {f gf : Nat} {ty : TypeId} {cc : Cap} {es : List (List V)} (hf : Callable P f)
  (h : ∀ a len cap w, Calls P f #[.slice a len cap] w fun e w' => e = .returned (.func (.func gf) #[] #[.pointer (some ⟨w.heap.size, 0, none⟩)]) ∧ w' = w.alloc (.cells #[.slice a len cap] ty)) :
  Pure P env f [.sl cc es] (.fn (.func gf) [] [.el [.sl .any es] 0]) := by
 intro hh
 refine ⟨hf, fun g w vs r hv => ?_⟩
 obtain ⟨c0, h1, h2⟩ := hv.at (show ([V.sl cc es] : List V)[0]? = some _ from rfl)
 have hvs : vs = #[c0] := by
  have := hv.1
  apply Array.ext
  ·simpa using this
  ·intro i hi hi2
   simp at hi2
   subst hi2
   have := (Array.getElem?_eq_some_iff.1 h1).2
   simpa using this
 subst hvs
 have h2' := rv_anyCap h2
 cases h2 with
 | sl a cap _ _ k cell hk hcap hrun hr hc =>
  refine (h a es.length cap w).mono ?_
  rintro e w' ⟨rfl, rfl⟩
  obtain ⟨g', hx, hr', hl⟩ := new_row r #[Value.slice a es.length cap] ty
  refine ⟨_, g', rfl, hx, hr', .fn _ _ _ _ _ (by simp) (by simp) (fun i c v h _ => by simp at h) (fun i c v hc hv => ?_)⟩
  match i with
  | 0 =>
   simp at hc hv
   subst hc; subst hv
   refine .el w.heap.size 0 _ 0 (fun _ => .slice a es.length cap) (by rw [hl]; simp) (fun i hi => ?_) (fun i v hv => ?_)
   ·simp at hi
    subst hi
    rw [World.cell?_alloc_new]; rfl
   ·match i with
    | 0 => simp at hv; subst hv; exact h2'.mono hx
    | i + 1 => simp at hv
  | i + 1 => simp at hc
theorem pure_boxFn2 {P : Program} {env : Nat → Option (List V)} {f gf : Nat} {ty : TypeId} {cs : List V} (hf : Callable P f)
  (h : ∀ (vs : Array Value), vs.size = cs.length → ∀ w, Calls P f #[.agg vs] w fun e w' => e = .returned (.func (.func gf) #[] #[.pointer (some ⟨w.heap.size, 0, none⟩)]) ∧ w' = w.alloc (.cells vs ty)) :
  Pure P env f [.agg cs] (.fn (.func gf) [] [.el cs 0]) := by
 intro hh
 refine ⟨hf, fun g w vs r hv => ?_⟩
 obtain ⟨c0, h1, h2⟩ := hv.at (show ([V.agg cs] : List V)[0]? = some _ from rfl)
 have hvs : vs = #[c0] := by
  have := hv.1
  apply Array.ext
  ·simpa using this
  ·intro i hi hi2
   simp at hi2
   subst hi2
   have := (Array.getElem?_eq_some_iff.1 h1).2
   simpa using this
 subst hvs
 cases h2 with
 | agg us _ hs hr =>
  refine (h us hs w).mono ?_
  rintro e w' ⟨rfl, rfl⟩
  obtain ⟨g', hx, hr', hl⟩ := new_row r us ty
  refine ⟨_, g', rfl, hx, hr', .fn _ _ _ _ _ (by simp) (by simp) (fun i c v h _ => by simp at h) (fun i c v hc hv => ?_)⟩
  match i with
  | 0 =>
   simp at hc hv
   subst hc; subst hv
   refine .el w.heap.size 0 _ 0 (fun i => us[i]?.getD undef) (by rw [hl, hs]; omega) (fun i hi => ?_) (fun i v hv => ?_)
   ·rw [Nat.zero_add, World.cell?_alloc_new, Array.getElem?_eq_getElem (by rw [hs]; exact hi)]; simp
   ·have hlt := (List.getElem?_eq_some_iff.1 hv).1
    have hu : us[i]? = some us[i] := Array.getElem?_eq_getElem (by rw [hs]; exact hlt)
    rw [hu]
    exact (hr i _ v hu hv).mono hx
  | i + 1 => simp at hc
theorem flat_ones : ∀ l : List V, (l.map fun v => [v]).flatten = l
 | [] => rfl
 | v :: l => by rw [List.map_cons, List.flatten_cons, flat_ones l]; rfl
def XR (g : G) (w : World) (D : Nat) (r : Loop) (g' : G) (w' : World) : Prop :=
 Ext g w g' w' ∧ g'.wr D = false ∧ g'.wr (D + 1) = false ∧ w'.heap[D]? = some (.deferred (some [])) ∧ w'.heap[D + 1]? = some (.loop r)
theorem XR.ext {g : G} {w : World} {D : Nat} {r : Loop} {g1 : G} {w1 : World} {g2 : G} {w2 : World} (x : Ext g1 w1 g2 w2) (h : XR g w D r g1 w1) : XR g w D r g2 w2 := by
 obtain ⟨h0, h1, h2, h3, h4⟩ := h
 obtain ⟨a1, a2⟩ := x.wr D (Array.getElem?_eq_some_iff.1 h3).1 h1
 obtain ⟨b1, b2⟩ := x.wr (D + 1) (Array.getElem?_eq_some_iff.1 h4).1 h2
 exact ⟨h0.trans x, a2, b2, a1.trans h3, b1.trans h4⟩
theorem XR.of {g : G} {w : World} {D : Nat} {r : Loop} {g1 : G} {w1 : World} (x : Ext g w g1 w1) (h3 : w1.heap[D]? = some (.deferred (some []))) (h4 : w1.heap[D + 1]? = some (.loop r)) : XR g w D r (g1.dn w1) w1 := by
 refine ⟨x.dn, ?_, ?_, h3, h4⟩
 ·exact (dn_kept (Ext.refl _ _) h3 rfl).2
 ·exact (dn_kept (Ext.refl _ _) h4 rfl).2
def xRound (c : Ctx) (g : G) (w : World) (D : Nat) (r : Loop) (E : Exit → Act → World → Prop) : XC := ⟨Fence.wide.inRound (D + 1), [], XR g w D r, E⟩
theorem xRound_ok (c : Ctx) (g : G) (w : World) (D : Nat) (r : Loop) (E : Exit → Act → World → Prop) : XOk c.P (xRound c g w D r E) :=
 ⟨fun _ => trivial, rfl, fun k args w R h => (show CallsIn Fence.wide (0 - 1) c.P k args w R from callsIn_wide.2 h), fun _ _ _ _ x h => h.ext x⟩
def endA (c : Ctx) (xb : XC) (g : G) (w : World) (D : Nat) (r : Loop) (gn : Nat) (body : Code) : Exit → Act → World → Prop :=
 fun e a w' => e = .normal ∧ ∃ g' σ', Ext c.g0 c.w0 g' w' ∧ XR g w D r g' w' ∧ RelD [] c.env c.n g' w' a σ' ∧ ARX c xb gn [.code body] .normal σ'
def endB (c : Ctx) (g : G) (w : World) (D : Nat) (r : Loop) (J : H → Prop) (Jx : Option Nat → H → Prop) : Exit → Act → World → Prop :=
 fun e a w' => ∃ g' h', XR g w D r g' w' ∧ Rel c.env g' w' h' ∧ (match e with | .normal => J h' | .exit id => Jx (some id) h' | .ret => Jx none h' | _ => False)
def jumpC : Option Nat → Code
 | some id => .exit id
 | none => .ret
def jumpE : Option Nat → Exit
 | some id => .exit id
 | none => .ret
def ItOk (P : Program) (gf : Nat) (lb : Array Value) (g : G) (w : World) (n : Nat) (vals : Nat → List Value) : Prop :=
 ∀ (l : Nat) (K : Nat → World → Prop) (Kx : World → Prop), (∀ i W, K i W → ∃ gi, Ext g w gi W) → (∀ i W o, K i W → K i (W.alloc o)) → (∀ i W, K i W → K i W.drew) →
  (∀ (i : Nat) W, i < n → K (i + 1) W → YieldAt Fence.wide (0 - 1) P l (vals i).toArray W fun e W' => (e = .returned (.bool true) ∧ K i W') ∨ (e = .returned (.bool false) ∧ Kx W')) →
  ∀ W, K n W → CallsIn Fence.wide 0 P gf (#[.func (.yield l) #[] #[]] ++ lb) W fun e W' => (∃ v, e = .returned v) ∧ (K 0 W' ∨ Kx W')
def updL (tm : Nat → V) : List Nat → List V → (Nat → V)
 | p :: ps, v :: vs => updL (upd tm (some p) v) ps vs
 | _, _ => tm
theorem RelSt.putL {env : Nat → Option (List V)} {n : Nat} {g : G} {w : World} : ∀ (ps : List Nat) (xs : List Value) (vs : List V) {a : Act} {tm : Nat → V} {h : H}, RelSt env n g w a ⟨tm, h⟩ → (∀ p ∈ ps, p < n) → xs.length = ps.length →
  (∀ (j : Nat) x v, xs[j]? = some x → vs[j]? = some v → RV g w x v) → vs.length = ps.length → RelSt env n g w { a with tmps := (ps.zip xs).foldl (fun tmps (t, a) => tmps.setIfInBounds t a) a.tmps } ⟨updL tm ps vs, h⟩
 | [], _, _, a, tm, h, r, _, _, _, _ => r
 | p :: ps, [], _, a, tm, h, r, _, hl, _, _ => by simp at hl
 | p :: ps, x :: xs, [], a, tm, h, r, _, _, _, hl => by simp at hl
 | p :: ps, x :: xs, v :: vs, a, tm, h, r, hp, hl, hv, hl2 => by
  have r1 := r.put (d := some p) (Ext.refl _ _) (by intro t e; cases e; exact hp p (by simp)) r.rel (hv 0 x v rfl rfl)
  have := RelSt.putL ps xs vs r1 (fun q hq => hp q (by simp [hq])) (by simpa using hl) (fun j y u hy hu => hv (j + 1) y u (by simpa using hy) (by simpa using hu)) (by simpa using hl2)
  exact this
theorem ext_drew {g : G} {w : World} : Ext g w g w.drew :=
 ⟨rfl, rfl, rfl, Nat.le_refl _, fun _ => Nat.le_refl _, fun _ _ _ => rfl, fun _ _ h => ⟨rfl, h⟩, fun _ h => ⟨h, rfl, .inl rfl⟩, Nat.le_refl _⟩
theorem ARX_rf {c : Ctx} {gen : Nat} {k : List It} {σ : St} {f gf n : Nat} {ps : List Nat} {vv : Nat → List V} {assign body : Code} (hcall : Callable c.P gf)
  (hps : ∀ p ∈ ps, p < c.n) (hvv : ∀ i, i < n → (vv i).length = ps.length)
  (hit : ∀ g w x, RV g w x (σ.tm f) → ∃ lb vals, x = .func (.func gf) #[] lb ∧ (∀ i, i < n → (vals i).length = ps.length ∧ ∀ (j : Nat) x v, (vals i)[j]? = some x → (vv i)[j]? = some v → RV g w x v) ∧ ItOk c.P gf lb g w n vals)
  (J : Nat → H → Prop) (Jx : Option Nat → H → Prop) (h0 : J n σ.h)
  (hround : ∀ (xa xb : XC) (gn i : Nat) (hi : H), XOk c.P xa → XOk c.P xb → gen ≤ gn → i < n → J (i + 1) hi →
   (∀ σ' gn', ARX c xb gn' [.code body] .normal σ' → ARX c xa gn' [] .normal σ') → (∀ gn' σ', J i σ'.h → ARX c xb gn' [] .normal σ') → (∀ gn' id σ', Jx id σ'.h → ARX c xb gn' [] (jumpE id) σ') →
   ARX c xa gn [.code assign] .normal ⟨updL σ.tm ps (vv i), hi⟩)
  (hdone : ∀ D h', J 0 h' → ARX c (xD c D) gen k .normal ⟨σ.tm, h'⟩)
  (hstop : ∀ D id h', Jx id h' → ARX c (xD c D) gen k (jumpE id) ⟨σ.tm, h'⟩) :
  ARX c (xF c) gen (.code (.rangeFunc (.tmp f) ps.toArray assign body) :: k) .normal σ := by
 intro g a w hx _ r0
 have r := r0.st
 obtain ⟨fn0, hc1, hc2, hc3⟩ := hcall
 have hc3' : ¬ (fn0.name = "runtime.NumGoroutine") := by simpa using hc3
 have hc2' : fn0.body ≠ none := by intro e; simp [e] at hc2
 obtain ⟨lb, vals, hev, hvals, hgo⟩ := hit g w _ (r.tm f)
 have hdef : a.defers = [] := r.defers
 have hlim0 : ∀ b, w.heap.size ≤ b → g.lim b = 0 := r.rel.limnew
 refine wpIn_rangeFunc ?_
 intro fn hfn
 obtain ⟨D, hD⟩ : ∃ D, w.heap.size = D := ⟨_, rfl⟩
 obtain ⟨rec, hrec⟩ : ∃ rec : LoopState → Option Code → Loop, rec = fun st pe => { state := st, pending := pe, fn, tmps := a.tmps, params := ps.toArray, assign, body, defers := D } := ⟨_, rfl⟩
 obtain ⟨W1, hW1⟩ : ∃ W1, (w.alloc (.deferred (some []))).alloc (.loop (rec .ready none)) = W1 := ⟨_, rfl⟩
 obtain ⟨K, hK⟩ : ∃ K : Nat → World → Prop, K = fun i W => ∃ gi hi, Ext g w gi W ∧ Rel c.env gi W hi ∧ J i hi ∧ W.heap[D]? = some (.deferred (some [])) ∧ W.heap[D + 1]? = some (.loop (rec .ready none)) := ⟨_, rfl⟩
 obtain ⟨Kx, hKx⟩ : ∃ Kx : World → Prop, Kx = fun W => ∃ id gi hi, Ext g w gi W ∧ Rel c.env gi W hi ∧ Jx id hi ∧ W.heap[D]? = some (.deferred (some [])) ∧ W.heap[D + 1]? = some (.loop (rec .done (some (jumpC id)))) := ⟨_, rfl⟩
 have hK1 : K n W1 := by
  have t1 : Turned D w (w.alloc (.deferred (some []))) := turned_alloc (by omega)
  have x1 := t1.ext (by omega) hlim0 (Ext.refl g w)
  have q1 := t1.rel r.rel
  have t2 : Turned D (w.alloc (.deferred (some []))) W1 := by rw [← hW1]; exact turned_alloc (by simp; omega)
  have x2 := t2.ext (by omega) hlim0 x1
  have q2 := t2.rel q1
  rw [hK]
  refine ⟨_, _, x2, q2, h0, ?_, ?_⟩
  ·rw [← hW1]
   refine (Go.RowKit.Below.heap_alloc _ _ _ (by simp; omega)).trans ?_
   rw [← hD]; exact World.alloc_heap_new w _
  ·rw [← hW1]
   have := World.alloc_heap_new (w.alloc (.deferred (some []))) (.loop (rec .ready none))
   rwa [World.size_alloc, hD] at this
 refine ⟨D + 1, [markD D], W1, { target := .fn (.func gf) lb, args := #[.func (.yield (D + 1)) #[] #[]] }, W1, gf,
  #[.func (.yield (D + 1)) #[] #[]] ++ lb, W1, ?_, ?_, fun _ _ => trivial, ?_, fun h => by simp [xF, Fence.wide] at h, ?_⟩
 ·rw [← hW1, hrec, ← hD]; exact run_enterLoop_outer _ _ _ _ _
 ·have he : a.eval (.tmp f) = .func (.func gf) #[] lb := hev
  simp only [resolve, he]
  simp [go_sem, Deferred.ofValue, Act.eval]
 ·simp [invoke, callFunc, hc1, hc2', hc3']
 ·refine (hgo (D + 1) K Kx ?_ ?_ ?_ ?_ W1 hK1).mono ?_
  ·intro i W hKi
   rw [hK] at hKi
   obtain ⟨gi, hh, x, _⟩ := hKi
   exact ⟨gi, x⟩
  ·intro i W o hKi
   rw [hK] at hKi ⊢
   obtain ⟨gi, hh, x, q, hJ, hdf, hlp⟩ := hKi
   have hsz := (Array.getElem?_eq_some_iff.1 hlp).1
   have t : Turned D W (W.alloc o) := turned_alloc (by omega)
   exact ⟨_, hh, t.ext (by omega) hlim0 x, t.rel q, hJ, (Go.RowKit.Below.heap_alloc W o _ (Array.getElem?_eq_some_iff.1 hdf).1).trans hdf, (Go.RowKit.Below.heap_alloc W o _ hsz).trans hlp⟩
  ·intro i W hKi
   rw [hK] at hKi ⊢
   obtain ⟨gi, hh, x, q, hJ, hdf, hlp⟩ := hKi
   exact ⟨gi, hh, x.trans ext_drew, q.drew, hJ, hdf, hlp⟩
  ·
   intro i W hi hKi
   rw [hK] at hKi
   obtain ⟨gi, hh, x, q, hJ, hdf, hlp⟩ := hKi
   obtain ⟨hv1, hv2⟩ := hvals i hi
   have hy := run_yield (P := c.P) (args := (vals i).toArray) hlp (by rw [hrec]; simpa using hv1)
   refine ⟨(rec .ready none).fn, _, (rec .ready none).assign, (rec .ready none).body, hy, roundIn_of_wpIn trivial ?_⟩
   clear hy
   obtain ⟨xb, hxb⟩ : ∃ xb, xb = xRound c g w D { rec .ready none with state := .busy } (endB c g w D { rec .ready none with state := .busy } (J i) Jx) := ⟨_, rfl⟩
   have hokb : XOk c.P xb := by rw [hxb]; exact xRound_ok _ _ _ _ _ _
   have h1 := hround (xRound c g w D (rec .ready none) (endA c xb g w D (rec .ready none) gen body)) xb gen i hh (xRound_ok _ _ _ _ _ _) hokb (Nat.le_refl _) hi hJ
    (fun σ' gn' h g' a' w' hx' hX' r' => ⟨rfl, g', σ', hx', hX', r', h⟩)
    (fun gn' σ' h g' a' w' hx' hX' r' => by
     rw [hxb] at hX' ⊢
     exact ⟨g', σ'.h, hX', r'.1.rel, h⟩)
    (fun gn' id σ' h g' a' w' hx' hX' r' => by
     rw [hxb] at hX' ⊢
     cases id <;> exact ⟨g', σ'.h, hX', r'.1.rel, h⟩)
   have hX0 : XR g w D (rec .ready none) (gi.dn W) W := XR.of x hdf hlp
   have hst : RelD [] c.env c.n (gi.dn W) W { tmps := (ps.zip (vals i)).foldl (fun tmps (t, a) => tmps.setIfInBounds t a) a.tmps, defers := [] } ⟨updL σ.tm ps (vv i), hh⟩ := by
    have s0 : RelSt c.env c.n (gi.dn W) W a ⟨σ.tm, hh⟩ := ⟨q.dn, fun t => (r.tm t).mono hX0.1, r.size, hdef⟩
    have s1 := RelSt.putL ps (vals i) (vv i) s0 hps hv1 (fun j x v hx hv => (hv2 j x v hx hv).mono hX0.1) (hvv i hi)
    rw [hdef] at s1
    exact RelD.of s1
   have h2 := h1 _ _ W (hx.trans hX0.1) hX0 hst
   have etm : (((rec .ready none).params.zip (vals i).toArray).foldl (fun tmps (t, a) => tmps.setIfInBounds t a) (rec .ready none).tmps) = (ps.zip (vals i)).foldl (fun tmps (t, a) => tmps.setIfInBounds t a) a.tmps := by
    rw [hrec]; simp
   have eas : (rec .ready none).assign = assign := by rw [hrec]
   have ebo : (rec .ready none).body = body := by rw [hrec]
   rw [etm, eas, ebo]
   refine wpIn_mono (show assign.wpIn (Fence.wide.inRound (D + 1)) 0 c.P _ _ _ from h2) ?_
   intro e a1 w1 hp
   have hp' : endA c xb g w D (rec .ready none) gen body e a1 w1 := by cases e <;> exact hp
   obtain ⟨rfl, g1, σ1, hx1, hX1, r1, hbody⟩ := hp'
   obtain ⟨y0, y1, y2, y3, y4⟩ := hX1
   refine ⟨_, run_beginRound y4 (by rw [hrec]), ?_⟩
   have hD1 : D + 1 < w1.heap.size := (Array.getElem?_eq_some_iff.1 y4).1
   have t : Turned D w1 (w1.putObj (D + 1) (.loop { rec .ready none with state := .busy })) := turned_put (by omega) y4 rfl rfl
   have x3 := t.ext (by omega) hlim0 y0
   have q3 := t.rel r1.1.rel
   have l3 : (w1.putObj (D + 1) (.loop { rec .ready none with state := .busy })).heap[D + 1]? = some (.loop { rec .ready none with state := .busy }) := World.putObj_heap_same hD1
   have d3 : (w1.putObj (D + 1) (.loop { rec .ready none with state := .busy })).heap[D]? = some (.deferred (some [])) := (World.putObj_heap_other (by omega)).trans y3
   have X3 := XR.of x3 d3 l3
   have hst3 : RelD [] c.env c.n ((g1.up D).dn (w1.putObj (D + 1) (.loop { rec .ready none with state := .busy }))) (w1.putObj (D + 1) (.loop { rec .ready none with state := .busy })) a1 σ1 := by
    have r1' := r1.st
    refine RelD.of ⟨q3.dn, fun t' => ?_, r1'.size, r1'.defers⟩
    exact (((r1'.tm t').wrs _).mono (t.here r1'.rel.limnew)).mono (Ext.refl _ _).dn
   have h4 := hbody _ a1 _ (hx.trans X3.1) (by rw [hxb]; exact X3) (by rw [hxb]; exact hst3)
   rw [hxb] at h4
   refine wpIn_mono (show body.wpIn (Fence.wide.inRound (D + 1)) 0 c.P _ _ _ from h4) ?_
   intro e a4 w4 hp4
   have hp4' : endB c g w D { rec .ready none with state := .busy } (J i) Jx e a4 w4 := by cases e <;> exact hp4
   obtain ⟨g4, h4', ⟨z0, z1, z2, z3, z4⟩, q4, hJ4⟩ := hp4'
   have hD4 : D + 1 < w4.heap.size := (Array.getElem?_eq_some_iff.1 z4).1
   have fin : ∀ (jump : Option Code) (rr : Loop), rr = { ({ rec .ready none with state := .busy } : Loop) with state := if jump.isNone then .ready else .done, pending := jump } →
     (Instr.endRound (D + 1) jump).run c.P w4 = .ok (.bool jump.isNone) (w4.putObj (D + 1) (.loop rr)) ∧ Ext g w (g4.up D) (w4.putObj (D + 1) (.loop rr)) ∧ Rel c.env (g4.up D) (w4.putObj (D + 1) (.loop rr)) h4' ∧
     (w4.putObj (D + 1) (.loop rr)).heap[D]? = some (.deferred (some [])) ∧ (w4.putObj (D + 1) (.loop rr)).heap[D + 1]? = some (.loop rr) := by
    intro jump rr hrr
    have t4 : Turned D w4 (w4.putObj (D + 1) (.loop rr)) := turned_put (by omega) z4 rfl rfl
    refine ⟨?_, t4.ext (by omega) hlim0 z0, t4.rel q4, (World.putObj_heap_other (by omega)).trans z3, World.putObj_heap_same hD4⟩
    rw [hrr]; exact run_endRound jump z4
   cases e with
   | normal =>
    obtain ⟨f1, f2, f3, f4, f5⟩ := fin none (rec .ready none) (by rw [hrec]; rfl)
    refine ⟨_, _, f1, .inl ⟨rfl, ?_⟩⟩
    rw [hK]
    exact ⟨_, _, f2, f3, hJ4, f4, f5⟩
   | exit id =>
    obtain ⟨f1, f2, f3, f4, f5⟩ := fin (some (.exit id)) (rec .done (some (.exit id))) (by rw [hrec]; rfl)
    refine ⟨_, _, f1, .inr ⟨rfl, ?_⟩⟩
    rw [hKx]
    exact ⟨some id, _, _, f2, f3, hJ4, f4, f5⟩
   | ret =>
    obtain ⟨f1, f2, f3, f4, f5⟩ := fin (some .ret) (rec .done (some .ret)) (by rw [hrec]; rfl)
    refine ⟨_, _, f1, .inr ⟨rfl, ?_⟩⟩
    rw [hKx]
    exact ⟨none, _, _, f2, f3, hJ4, f4, f5⟩
   | goto t => exact hJ4.elim
   | panic ch => exact hJ4.elim
   | outgrown => exact hJ4.elim
  ·
   rintro e W2 ⟨⟨v, rfl⟩, hend⟩
   have hw0 : c.w0.heap.size ≤ D := by rw [← hD]; exact hx.size
   have tail : ∀ (gi : G) (hi : H) (rr : Loop) , Ext g w gi W2 → Rel c.env gi W2 hi → W2.heap[D]? = some (.deferred (some [])) → W2.heap[D + 1]? = some (.loop rr) → rr.state ≠ .busy →
     ∃ g5 w5, (Instr.endLoop (D + 1)).run c.P W2 = .ok rr.pending w5 ∧ Ext c.g0 c.w0 g5 w5 ∧ XD c D g5 w5 ∧ RelD [markD D] c.env c.n g5 w5 { a with defers := [markD D] ++ a.defers } ⟨σ.tm, hi⟩ := by
    intro gi hi rr x q hdf hlp hst
    have hD2 : D + 1 < W2.heap.size := (Array.getElem?_eq_some_iff.1 hlp).1
    have t5 : Turned D W2 (W2.putObj (D + 1) (.loop { rr with state := .exhausted })) := turned_put (by omega) hlp rfl rfl
    have x5 := (t5.ext (by omega) hlim0 x).dn
    have q5 := (t5.rel q).dn
    have d5 : (W2.putObj (D + 1) (.loop { rr with state := .exhausted })).heap[D]? = some (.deferred (some [])) := (World.putObj_heap_other (by omega)).trans hdf
    refine ⟨_, _, run_endLoop hlp hst, hx.trans x5, ⟨hw0, (dn_kept (Ext.refl _ _) d5 rfl).2, d5⟩, ⟨⟨q5, fun t' => (r.tm t').mono x5, r.size, rfl⟩, by simp [hdef]⟩⟩
   rcases hend with hend | hend
   ·rw [hK] at hend
    obtain ⟨gi, hi, x, q, hJ, hdf, hlp⟩ := hend
    obtain ⟨g5, w5, e1, e2, e3, e4⟩ := tail gi hi _ x q hdf hlp (by rw [hrec]; simp)
    have e1' : (Instr.endLoop (D + 1)).run c.P W2 = .ok none w5 := by rw [e1, hrec]
    exact ⟨none, w5, e1', hdone D hi hJ g5 _ w5 e2 e3 e4⟩
   ·rw [hKx] at hend
    obtain ⟨id, gi, hi, x, q, hJ, hdf, hlp⟩ := hend
    obtain ⟨g5, w5, e1, e2, e3, e4⟩ := tail gi hi _ x q hdf hlp (by rw [hrec]; simp)
    have e1' : (Instr.endLoop (D + 1)).run c.P W2 = .ok (some (jumpC id)) w5 := by rw [e1, hrec]
    refine ⟨some (jumpC id), w5, e1', ?_⟩
    have := hstop D id hi hJ g5 _ w5 e2 e3 e4
    cases id with
    | some id => exact wpIn_exit this
    | none => exact wpIn_ret this
theorem ARX_back {c : Ctx} {gen : Nat} {k : List It} {σ : St} {f p1 p2 gf : Nat} {vs : List V} {assign body : Code} (hb : BackOk c.P gf)
  (hf : σ.tm f = .fn (.func gf) [] [.el [.sl .any (vs.map fun v => [v])] 0]) (hlen : vs.length ≤ 1000000) (hp1 : p1 < c.n) (hp2 : p2 < c.n)
  (J : Nat → H → Prop) (Jx : Option Nat → H → Prop) (h0 : J vs.length σ.h)
  (hround : ∀ (xa xb : XC) (gn i : Nat) (v : V) (hi : H), XOk c.P xa → XOk c.P xb → gen ≤ gn → i < vs.length → vs[i]? = some v → J (i + 1) hi →
   (∀ σ' gn', ARX c xb gn' [.code body] .normal σ' → ARX c xa gn' [] .normal σ') → (∀ gn' σ', J i σ'.h → ARX c xb gn' [] .normal σ') → (∀ gn' id σ', Jx id σ'.h → ARX c xb gn' [] (jumpE id) σ') →
   ARX c xa gn [.code assign] .normal ⟨upd (upd σ.tm (some p1) (.int .i64 i)) (some p2) v, hi⟩)
  (hdone : ∀ D h', J 0 h' → ARX c (xD c D) gen k .normal ⟨σ.tm, h'⟩)
  (hstop : ∀ D id h', Jx id h' → ARX c (xD c D) gen k (jumpE id) ⟨σ.tm, h'⟩) :
  ARX c (xF c) gen (.code (.rangeFunc (.tmp f) #[p1, p2] assign body) :: k) .normal σ := by
 refine ARX_rf (ps := [p1, p2]) (n := vs.length) (vv := fun i => [.int .i64 i, vs.getD i .undef]) hb.call (by simp [hp1, hp2]) (fun i hi => rfl) ?_ J Jx h0
  (fun xa xb gn i hi oa ob hg hlt hJ h1 h2 h3 => ?_) hdone hstop
 ·intro g w cv hfv
  rw [hf] at hfv
  obtain ⟨pb, po, ao, cap, hev, hlim, hpc, hne, elm, hel, helv⟩ : ∃ pb po ao cap, cv = .func (.func gf) #[] #[.pointer (some ⟨pb, po, none⟩)] ∧ po < g.lim pb ∧ w.cell? ⟨pb, po, none⟩ = some (.slice ao vs.length cap) ∧
    (vs.length ≠ 0 → ∃ b off, ao = some ⟨b, off, none⟩) ∧
    ∃ elm : Nat → Value, (∀ b off, ao = some ⟨b, off, none⟩ → ∀ j, j < vs.length → off + j < g.lim b ∧ w.cell? ⟨b, off + j, none⟩ = some (elm j)) ∧ ∀ j v, vs[j]? = some v → RV g w (elm j) v := by
   cases hfv with
   | fn _ fs cs _ _ h1 h2 _ r2 =>
    have e1 : fs = #[] := by simpa using h1
    subst e1
    obtain ⟨c1, rfl⟩ : ∃ c1, cs = #[c1] := by
     have h2' : cs.size = 1 := h2
     refine ⟨cs[0], ?_⟩
     apply Array.ext
     ·simpa using h2'
     ·intro i hi hi2; simp at hi2; subst hi2; rfl
    have hq := r2 0 c1 _ rfl rfl
    cases hq with
    | el b off cs o cell hl hrun hr =>
     have hz := hrun 0 (by simp)
     have hrz := hr 0 _ rfl
     generalize hcz : cell 0 = cz at hz hrz
     cases hrz with
     | sl ao cap _ _ kk cell2 hk hcap hrun2 hr2 hc =>
      have hlenv : (vs.map fun v => [v]).length = vs.length := by simp
      have hfl : (vs.map fun v => [v]).flatten = vs := flat_ones vs
      rw [hfl] at hr2
      rw [hlenv] at hcap hrun2 hz
      have hk1 : vs ≠ [] → kk = 1 := by
       intro hne
       cases vs with
       | nil => exact absurd rfl hne
       | cons v l => exact (hk [v] (by simp)).symm
      refine ⟨b, off + 0, ao, cap, by simp, by simp at hl; omega, by simpa using hz, ?_, cell2, ?_, fun j v h => hr2 j v h⟩
      ·intro hne
       have hne' : vs ≠ [] := by intro e; subst e; simp at hne
       obtain ⟨b2, off2, e, _, _⟩ := hrun2 (by simpa using hne')
       exact ⟨b2, off2, e⟩
      ·intro b2 off2 e j hj
       have hne' : vs ≠ [] := by intro e; subst e; simp at hj
       obtain ⟨b3, off3, e3, h4, h5⟩ := hrun2 (by simpa using hne')
       rw [hk1 hne', Nat.mul_one] at h4 h5
       rw [e] at e3
       cases e3
       exact ⟨by omega, h5 j hj⟩
  refine ⟨_, fun i => [.int .i64 (i : Int), elm i], hev, fun i hi => ⟨rfl, fun j x v hx hv => ?_⟩, ?_⟩
  ·match j with
   | 0 => simp at hx hv; subst hx; subst hv; exact .int _ _
   | 1 =>
    simp [List.getElem?_eq_getElem hi] at hx hv
    subst hx; subst hv
    exact helv i _ (List.getElem?_eq_getElem hi)
   | j + 2 => simp at hx
  ·intro l K Kx hext _ _ hY W hK
   refine hb.go l pb po ao vs.length cap elm K Kx (by omega) hne (fun i W hi hKi => ?_) hY W hK
   obtain ⟨gi, x⟩ := hext i W hKi
   refine ⟨(x.cells _ _ hlim).trans hpc, fun b off e j hj => ?_⟩
   obtain ⟨h1, h2⟩ := hel b off e j hj
   exact (x.cells _ _ h1).trans h2
 ·have hv : vs[i]? = some vs[i] := List.getElem?_eq_getElem hlt
  have := hround xa xb gn i vs[i] hi oa ob hg hlt hv hJ h1 h2 h3
  have e : vs.getD i .undef = vs[i] := by simp [hlt]
  simp only [updL, e]
  exact this
structure NodeOk (P : Program) (gf : Nat) : Prop where
 call : Callable P gf
 go : ∀ (l pb po : Nat) (a : Option Addr) (cap : Nat) (K : Nat → World → Prop) (Kx : World → Prop), (∀ i W o, K i W → K i (W.alloc o)) → (∀ i W, K i W → K i W.drew) →
  (∀ i W, K i W → W.cell? ⟨pb, po, none⟩ = some (.int .i64 1) ∧ W.cell? ⟨pb, po + 1, none⟩ = some (.slice a 0 cap)) →
  (∀ W, K 1 W → YieldAt Fence.wide (0 - 1) P l #[.agg #[.int .i64 1, .slice a 0 cap]] W fun e W' => (e = .returned (.bool true) ∧ K 0 W') ∨ (e = .returned (.bool false) ∧ Kx W')) →
  ∀ W, K 1 W → CallsIn Fence.wide 0 P gf #[.func (.yield l) #[] #[], .pointer (some ⟨pb, po, none⟩)] W fun e W' => (∃ v, e = .returned v) ∧ (K 0 W' ∨ Kx W')
theorem ARX_node {c : Ctx} {gen : Nat} {k : List It} {σ : St} {f p gf : Nat} {assign body : Code} (hb : NodeOk c.P gf)
  (hf : σ.tm f = .fn (.func gf) [] [.el [.int .i64 1, .sl .any []] 0]) (hp : p < c.n)
  (J : Nat → H → Prop) (Jx : Option Nat → H → Prop) (h0 : J 1 σ.h)
  (hround : ∀ (xa xb : XC) (gn : Nat) (hi : H), XOk c.P xa → XOk c.P xb → gen ≤ gn → J 1 hi →
   (∀ σ' gn', ARX c xb gn' [.code body] .normal σ' → ARX c xa gn' [] .normal σ') → (∀ gn' σ', J 0 σ'.h → ARX c xb gn' [] .normal σ') → (∀ gn' id σ', Jx id σ'.h → ARX c xb gn' [] (jumpE id) σ') →
   ARX c xa gn [.code assign] .normal ⟨upd σ.tm (some p) (.agg [.int .i64 1, .sl .any []]), hi⟩)
  (hdone : ∀ D h', J 0 h' → ARX c (xD c D) gen k .normal ⟨σ.tm, h'⟩)
  (hstop : ∀ D id h', Jx id h' → ARX c (xD c D) gen k (jumpE id) ⟨σ.tm, h'⟩) :
  ARX c (xF c) gen (.code (.rangeFunc (.tmp f) #[p] assign body) :: k) .normal σ := by
 refine ARX_rf (ps := [p]) (n := 1) (vv := fun i => [.agg [.int .i64 1, .sl .any []]]) hb.call (by simp [hp]) (fun i hi => rfl) ?_ J Jx h0
  (fun xa xb gn i hi oa ob hg hlt hJ h1 h2 h3 => by
   obtain rfl : i = 0 := by omega
   exact hround xa xb gn hi oa ob hg hJ h1 h2 h3) hdone hstop
 intro g w cv hfv
 rw [hf] at hfv
 cases hfv with
 | fn _ fs cs _ _ h1 h2 _ r2 =>
  have e1 : fs = #[] := by simpa using h1
  subst e1
  obtain ⟨c1, rfl⟩ : ∃ c1, cs = #[c1] := by
   have h2' : cs.size = 1 := h2
   refine ⟨cs[0], ?_⟩
   apply Array.ext
   ·simpa using h2'
   ·intro i hi hi2; simp at hi2; subst hi2; rfl
  have hq := r2 0 c1 _ rfl rfl
  cases hq with
  | el b off cs o cell hl hrun hr =>
   have hz := hrun 0 (by simp)
   have hz1 := hrun 1 (by simp)
   have hrz := hr 0 _ rfl
   have hrz1 := hr 1 _ rfl
   generalize cell 0 = c0 at hz hrz
   generalize cell 1 = c1 at hz1 hrz1
   cases hrz
   cases hrz1 with
   | sl ao cap _ _ kk cell2 hk hcap hrun2 hr2 hc =>
    simp only [List.length_nil] at hz1
    refine ⟨_, fun _ => [.agg #[.int .i64 1, .slice ao 0 cap]], rfl, fun i hi => ⟨rfl, fun j x v hx hv => ?_⟩, ?_⟩
    ·match j with
     | 0 =>
      simp at hx hv
      subst hx; subst hv
      refine .agg _ _ rfl fun j x v hx hv => ?_
      match j with
      | 0 => simp at hx hv; subst hx; subst hv; exact .int _ _
      | 1 => simp at hx hv; subst hx; subst hv; exact .sl ao cap .any [] 0 (fun _ => undef) (by simp) (by simp) (by simp) (by simp) trivial
      | j + 2 => simp at hx
     | j + 1 => simp at hx
    ·intro l K Kx hext hal hdr hY W hK
     simp only [List.length_cons, List.length_nil] at hl
     refine hb.go l b (off + 0) ao cap K Kx hal hdr (fun i W hKi => ?_) (fun W hK => hY 0 W (by omega) hK) W hK
     obtain ⟨gi, x⟩ := hext i W hKi
     exact ⟨(x.cells _ _ (by omega)).trans hz, (x.cells _ _ (by omega)).trans hz1⟩
def flatC : Code → List Code
 | .seq a b => flatC a ++ flatC b
 | c => [c]
@[go_sem] theorem flatC_seq {a b : Code} : flatC (.seq a b) = flatC a ++ flatC b := by rw [flatC]
@[go_sem] theorem flatC_region {id : Nat} {ops : Array Oper} {draw : Bool} : flatC (.region id ops draw) = [.region id ops draw] := by rw [flatC] <;> simp
@[go_sem] theorem flatC_block {id : Nat} {b : Code} : flatC (.block id b) = [.block id b] := by rw [flatC] <;> simp
@[go_sem] theorem flatC_ret : flatC .ret = [.ret] := by rw [flatC] <;> simp
@[go_sem] theorem flatC_cond {t : Operand} {a b : Code} : flatC (.cond t a b) = [.cond t a b] := by rw [flatC] <;> simp
@[go_sem] theorem flatC_skip : flatC .skip = [.skip] := by rw [flatC] <;> simp
@[go_sem] theorem flatC_exit {id : Nat} : flatC (.exit id) = [.exit id] := by rw [flatC] <;> simp
@[go_sem] theorem flatC_loop {b : Code} : flatC (.loop b) = [.loop b] := by rw [flatC] <;> simp
@[go_sem] theorem flatC_rangeFunc {g : Operand} {ps : Array Tmp} {a b : Code} : flatC (.rangeFunc g ps a b) = [.rangeFunc g ps a b] := by rw [flatC] <;> simp
theorem postX_pass {P : Program} {F : Fence} {E : Exit → Act → World → Prop} {k : List It} : ∀ (l : List Code) (e : Exit) (a : Act) (w : World), e ≠ .normal → postX P F E (l.map .code ++ k) e a w → postX P F E k e a w
 | [], _, _, _, _, h => h
 | c :: l, e, a, w, he, h => by
  refine postX_pass l e a w he ?_
  cases e <;> first|exact h|exact absurd rfl he
theorem postX_flat {P : Program} {F : Fence} {E : Exit → Act → World → Prop} : ∀ (c : Code) (k : List It) (a : Act) (w : World), postX P F E ((flatC c).map .code ++ k) .normal a w → c.wpIn F 0 P (postX P F E k) a w := by
 intro c
 induction c with
 | seq x y ihx ihy =>
  intro k a w h
  rw [flatC_seq, List.map_append, List.append_assoc] at h
  refine wpIn_seq (wpIn_mono (ihx _ a w h) ?_)
  intro e a' w' hp
  cases e with
  | normal => exact ihy k a' w' hp
  | _ => exact postX_pass _ _ a' w' (by simp) hp
 | _ => intro k a w h; rw [flatC] at h <;> first|exact h | (intro _ _ e; cases e)
theorem ARX_pieces {c : Ctx} {x : XC} {gen : Nat} {k : List It} {σ : St} {y : Code} (h : ARX c x gen ((flatC y).map .code ++ k) .normal σ) : ARX c x gen (.code y :: k) .normal σ :=
 fun g a w hx hX r => postX_flat y k a w (h g a w hx hX r)
@[congr] theorem ARX_congr {c : Ctx} {x : XC} {gen : Nat} {k : List It} {e : Exit} {σ σ' : St} (h : σ = σ') : ARX c x gen k e σ = ARX c x gen k e σ' := by rw [h]
theorem ARX_condP {c : Ctx} {x : XC} {gen : Nat} {k : List It} {σ : St} {y z : Code} {t : Operand} (h : condP (av c.env σ.tm t) (ARX c x gen (.code y :: k) .normal σ) (ARX c x gen (.code z :: k) .normal σ)) :
  ARX c x gen (.code (.cond t y z) :: k) .normal σ := by
 generalize hv : av c.env σ.tm t = v at h
 cases v with
 | bool b => exact ARX_cond hv h.1 h.2
 | _ => exact h.elim
def hK (lim n : Nat) (f : Fm) (k : Nat) : Ans :=
 if 4096 ≤ k then (false, 0, 4) else if (putR f (numT k)).2 != 0 then (false, 0, (putR f (numT k)).2)
 else if (dT lim n 0 (putR f (numT k)).1).2.2 != 0 then (false, 0, (dT lim n 0 (putR f (numT k)).1).2.2) else dT lim n 0 (putR f (numT k)).1
theorem dT_shift {lim n w : Nat} {f : Fm} (hw : w ≤ lim) (h1 : (dT lim n w f).2.1 ≤ lim) (h2 : (dT (lim - w) n 0 f).2.1 ≤ lim - w) :
  (dT lim n w f).2.2 = (dT (lim - w) n 0 f).2.2 ∧ ((dT (lim - w) n 0 f).2.2 = 0 → (dT lim n w f).1 = (dT (lim - w) n 0 f).1 ∧ (dT lim n w f).2.1 = w + (dT (lim - w) n 0 f).2.1) := by
 obtain ⟨a1, _, a3⟩ := dT_rT (lim := lim) n f w
 obtain ⟨b1, _, b3⟩ := dT_rT (lim := lim - w) n f 0
 rw [Nat.sub_zero] at b1 b3
 refine ⟨by rw [← a1, b1], fun h => ?_⟩
 obtain ⟨c1, c2⟩ := a3 (by rw [← a1, b1]; exact h)
 obtain ⟨d1, d2⟩ := b3 h
 refine ⟨by rw [← c1, d1], by omega⟩
theorem dW_hK {lim n w k : Nat} {f : Fm} (hw : w ≤ lim) (h1 : (putR f (numT k)).2 = 0 → k < 4096 → (dT lim n w (putR f (numT k)).1).2.1 ≤ lim) (h2 : (putR f (numT k)).2 = 0 → k < 4096 → (dT (lim - w) n 0 (putR f (numT k)).1).2.1 ≤ lim - w) :
  (dW (fun w f => dT lim n w f) f k w).2.2 = (hK (lim - w) n f k).2.2 ∧ ((hK (lim - w) n f k).2.2 = 0 → (dW (fun w f => dT lim n w f) f k w).1 = (hK (lim - w) n f k).1 ∧ (dW (fun w f => dT lim n w f) f k w).2.1 = w + (hK (lim - w) n f k).2.1 ∧
   w + (hK (lim - w) n f k).2.1 ≤ lim) := by
 unfold dW hK
 by_cases hk : 4096 ≤ k
 ·simp only [if_pos hk]
  exact ⟨trivial, fun h => absurd h (by simp)⟩
 simp only [if_neg hk]
 cases hp : ((putR f (numT k)).2 != 0) with
 | true =>
  simp only [if_true]
  exact ⟨trivial, fun h => absurd h (by simpa using hp)⟩
 | false =>
  simp only [Bool.false_eq_true, if_false]
  have hp0 : (putR f (numT k)).2 = 0 := by simpa using hp
  replace h1 := h1 hp0 (by omega)
  replace h2 := h2 hp0 (by omega)
  obtain ⟨s1, s2⟩ := dT_shift hw h1 h2
  generalize dT lim n w (putR f (numT k)).1 = p at *
  generalize dT (lim - w) n 0 (putR f (numT k)).1 = q at *
  obtain ⟨pb, pw, pe⟩ := p
  obtain ⟨qb, qw, qe⟩ := q
  simp only at *
  subst s1
  cases he : (pe != 0) with
  | true => simp only [if_true]; exact ⟨trivial, fun h => absurd h (by simpa using he)⟩
  | false =>
   simp only [Bool.false_eq_true, if_false]
   obtain ⟨rfl, rfl⟩ := s2 (by simpa using he)
   exact ⟨trivial, fun _ => ⟨rfl, rfl, by omega⟩⟩
end GoAbs
