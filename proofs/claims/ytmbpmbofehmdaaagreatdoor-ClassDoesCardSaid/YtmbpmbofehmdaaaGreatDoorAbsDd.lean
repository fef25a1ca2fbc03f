/-
 The abstract layer: plain laws, further ones.
-/
import Derived.Test.YtmbpmbofehmdaaaGreatDoorAbsDc
import Derived.Test.YtmbpmbofehmdaaaGreatDoorAbsDb
import Derived.Test.YtmbpmbofehmdaaaGreatDoorAbsD
import Derived.Test.YtmbpmbofehmdaaaGreatDoorAbsC
import Derived.Test.YtmbpmbofehmdaaaGreatDoorAbsB
import Derived.RangeFuncNested
import Derived.RangeFuncLeaves
import Derived.RangeFuncCalls
import Derived.OrdersIn
import Derived.OwnWalkIn
set_option linter.unusedSimpArgs false
set_option linter.unusedVariables false
set_option linter.unusedSectionVars false
namespace GoAbs
open Go
theorem I64_of {n : Int} (h0 : 0 ≤ n) (h1 : n ≤ 1000000000) : I64 n := by
 unfold I64 Lit.wf
 have e1 : IntKind.i64.min = -9223372036854775808 := rfl
 have e2 : IntKind.i64.max = 9223372036854775807 := rfl
 simp only [e1, e2, Bool.and_eq_true, decide_eq_true_eq]
 omega
theorem TyF.N {t : Ty} (h : TyF t) : TyN t := by
 induction h with
 | nat => exact .mk (I64_of (by omega) (by omega)) (by simp)
 | list => exact .mk (I64_of (by omega) (by omega)) (by simp)
 | unit => exact .mk (I64_of (by omega) (by omega)) (by simp)
 | pair _ _ h1 h2 => exact .mk (I64_of (by omega) (by omega)) (by simp; exact ⟨h1, h2⟩)
 | func _ _ h1 h2 => exact .mk (I64_of (by omega) (by omega)) (by simp; exact ⟨h1, h2⟩)
theorem arity_small {k a : Int} (h : arity k = some a) : 0 ≤ k ∧ k ≤ 13 := by
 unfold arity at h
 split at h
 ·cases h
 ·rename_i hc
  simp at hc
  omega
theorem TmG.N {t : Tm} (h : TmG t) : t.least 536870912 = true → TmN t := by
 induction h with
 | @plain k l a ha hl ht _ ih =>
  intro hm
  rw [tm0, Tm.least_eq, Bool.and_eq_true] at hm
  have := arity_small ha
  exact .mk (I64_of (by omega) (by omega)) (I64_of (by omega) (by omega)) (.mk (I64_of (by omega) (by omega)) (by simp)) (fun x hx => ih x hx (Tm.leastL_iff.1 hm.2 x hx))
 | @var i hi =>
  intro hm
  rw [tmVar, Tm.least_eq, Bool.and_eq_true] at hm
  have : i ≤ 536870912 := of_decide_eq_true hm.1
  exact .mk (I64_of (by omega) (by omega)) (I64_of hi (by omega)) (.mk (I64_of (by omega) (by omega)) (by simp)) (by simp)
 | @typd k t l a ha hl ht hg _ ih =>
  intro hm
  rw [tmT, Tm.least_eq, Bool.and_eq_true] at hm
  have := arity_small ha
  exact .mk (I64_of (by omega) (by omega)) (I64_of (by omega) (by omega)) hg.1.N (fun x hx => ih x hx (Tm.leastL_iff.1 hm.2 x hx))
theorem tmSz_argU {f x : Tm} (h : x ∈ f.args) : tmSz x < tmSz f := by
 obtain ⟨k, i, t, l⟩ := f
 rw [tmSz]
 have key : ∀ l : List Tm, x ∈ l → tmSz x ≤ tmSzL l := by
  intro l
  induction l with
  | nil => intro h; cases h
  | cons y l ih =>
   intro h
   rw [tmSzL]
   rcases List.mem_cons.1 h with rfl | h
   ·omega
   ·have := ih h; omega
 have := key l h
 omega
theorem i64_pred {i : Int} (h : I64 i) (h0 : 0 ≤ i) : addW i (-1) = i - 1 ∧ subW i 1 = i - 1 := by
 have h1 := h.hi
 exact ⟨wrap_eq (by omega) (by omega) (by omega), wrap_eq (by omega) (by omega) (by omega)⟩
theorem put_no : ∀ (n : Nat) (t : Tm), tmSz t ≤ n → t.good = true → TmN t → ∀ d : Int, 0 ≤ d → d + n ≤ 1000000 → t.hasV d = false → t.rb (putG 0 zeroT) d = t.up (-1) (1 + d)
 | 0, t, hn, _, _, _, _, _, _ => by have := tmSz_pos t; omega
 | n + 1, .mk k i ty l, hn, hg, hN, d, h0, hd, hv => by
  rw [Tm.good_eq] at hg
  rw [Tm.hasV_eq] at hv
  rw [Tm.rb, Tm.up, Tm.rbL_map, Tm.upL_map]
  have hsz : ∀ x ∈ l, tmSz x ≤ n := fun x hx => by have := tmSz_argU (f := .mk k i ty l) hx; omega
  simp only [Tm.kind, Tm.index, Tm.type, Tm.args] at *
  cases hN with | mk hk hi hty hr => ?_
  rw [Bool.and_eq_true] at hg
  obtain ⟨hh, hga⟩ := hg
  rw [Bool.or_eq_false_iff] at hv
  obtain ⟨hv1, hv2⟩ := hv
  by_cases k1 : (k == 1) = true
  ·obtain rfl : k = 1 := by simpa using k1
   unfold tmHead at hh
   have ha : arity 1 = some 0 := rfl
   have ht1 : typed 1 = false := rfl
   rw [ha, ht1] at hh
   simp [noType] at hh
   obtain ⟨⟨rfl, hi0⟩, hty0, hty1⟩ := hh
   obtain rfl : ty = .mk 0 [] := by
    obtain ⟨a, b⟩ := ty
    simp only [Ty.kind, Ty.args] at hty0 hty1
    rw [hty0, hty1]
   have hne : i ≠ d := by simpa using hv1
   have hiu := hi.hi
   obtain ⟨p1, p2⟩ := i64_pred hi hi0
   have p3 : subW i d = i - d := wrap_eq rfl (by omega) (by omega)
   unfold putG
   rw [p1, p2, p3]
   have q0 : (i - d == 0) = false := by simp; omega
   rw [q0]
   rw [show decide (i - d > 0) = decide (i ≥ 1 + d) from by rw [decide_eq_decide]; omega]
   cases decide (i ≥ 1 + d) <;> rfl
  ·replace k1 : (k == 1) = false := by simpa using k1
   have hb : (if k == 2 then addW d 1 else d) = d + tmBelow k ∧ addW (1 + d) (tmBelow k) = 1 + (d + tmBelow k) ∧ addW d (tmBelow k) = d + tmBelow k ∧ (tmBelow k = 0 ∨ tmBelow k = 1) := by
    cases k2 : (k == 2) with
    | true =>
     have e0 : tmBelow k = 1 := by unfold tmBelow; rw [k2]; rfl
     rw [e0]
     refine ⟨?_, ?_, ?_, .inr rfl⟩
     ·rw [if_pos rfl]; exact addW_eq (by omega) (by omega) (by omega) (by omega)
     ·rw [addW_eq (by omega) (by omega) (by omega) (by omega)]; omega
     ·exact addW_eq (by omega) (by omega) (by omega) (by omega)
    | false =>
     have e0 : tmBelow k = 0 := by unfold tmBelow; rw [k2]; rfl
     rw [e0]
     refine ⟨by simp, ?_, ?_, .inl rfl⟩
     ·rw [addW_eq (by omega) (by omega) (by omega) (by omega)]; omega
     ·exact addW_eq (by omega) (by omega) (by omega) (by omega)
   obtain ⟨b1, b2, b3, b4⟩ := hb
   rw [k1, b1, b2]
   simp only [Bool.false_eq_true, if_false, Bool.false_and]
   rw [b3] at hv2
   congr 1
   refine List.map_congr_left fun x hx => ?_
   refine put_no n x (hsz x hx) ?_ (hr x hx) (d + tmBelow k) (by omega) (by omega) ?_
   ·exact List.all_eq_true.1 hga x hx
   ·have := List.any_eq_false.1 hv2 x hx
    simpa using this
theorem tPut_no {t : Tm} (hg : t.good = true) (hN : TmN t) (hz : tmSz t ≤ 900000) (h : t.hasV 0 = false) : tPut t 0 zeroT = t.up (-1) 1 := put_no _ t (Nat.le_refl _) hg hN 0 (by omega) (by omega) h
mutual
def Ty.cnt : Ty → Nat → Nat
 | .mk _ l, m => Ty.cntL m 1 l
def Ty.cntL (m : Nat) : Nat → List Ty → Nat
 | n, [] => n
 | n, t :: l => if n ≤ m then Ty.cntL m (n + t.cnt (m - n)) l else n
end
theorem Ty.cnt_eq (t : Ty) (m : Nat) : t.cnt m = Ty.cntL m 1 t.args := by cases t; rw [Ty.cnt]; rfl
theorem Ty.cntL_nil {m n : Nat} : Ty.cntL m n [] = n := by rw [Ty.cntL]
theorem Ty.cntL_cons {m n : Nat} {t : Ty} {l : List Ty} (h : n ≤ m) : Ty.cntL m n (t :: l) = Ty.cntL m (n + t.cnt (m - n)) l := by rw [Ty.cntL, if_pos h]
theorem Ty.cntL_stop {m n : Nat} {l : List Ty} (h : ¬ n ≤ m) : Ty.cntL m n l = n := by cases l <;> rw [Ty.cntL]; rw [if_neg h]
def tyCnt (t : Ty) (m : Nat) : Nat := if m = 0 then 1 else t.cnt (m - 1)
mutual
def Tm.cnt : Tm → Nat → Nat
 | .mk _ _ ty l, m => Tm.cntL m (1 + tyCnt ty m) l
def Tm.cntL (m : Nat) : Nat → List Tm → Nat
 | n, [] => n
 | n, t :: l => if n ≤ m then Tm.cntL m (n + t.cnt (m - n)) l else n
end
theorem Tm.cnt_eq (t : Tm) (m : Nat) : t.cnt m = Tm.cntL m (1 + tyCnt t.type m) t.args := by cases t; rw [Tm.cnt]; rfl
theorem Tm.cntL_nil {m n : Nat} : Tm.cntL m n [] = n := by rw [Tm.cntL]
theorem Tm.cntL_cons {m n : Nat} {t : Tm} {l : List Tm} (h : n ≤ m) : Tm.cntL m n (t :: l) = Tm.cntL m (n + t.cnt (m - n)) l := by rw [Tm.cntL, if_pos h]
theorem Tm.cntL_stop {m n : Nat} {l : List Tm} (h : ¬ n ≤ m) : Tm.cntL m n l = n := by cases l <;> rw [Tm.cntL]; rw [if_neg h]
theorem Ty.cntL_ge : ∀ (l : List Ty) (m n : Nat), n ≤ Ty.cntL m n l
 | [], m, n => by rw [Ty.cntL]; omega
 | t :: l, m, n => by
  rw [Ty.cntL]; split
  ·have := Ty.cntL_ge l m (n + t.cnt (m - n)); omega
  ·omega
theorem Ty.cnt_pos (t : Ty) (m : Nat) : 1 ≤ t.cnt m := by rw [Ty.cnt_eq]; exact Ty.cntL_ge _ _ _
mutual
theorem Ty.cnt_le : ∀ (t : Ty) (m : Nat), t.cnt m ≤ m + 2
 | .mk _ l, m => by rw [Ty.cnt]; exact Ty.cntL_le l m 1 (by omega)
theorem Ty.cntL_le : ∀ (l : List Ty) (m n : Nat), n ≤ m + 2 → Ty.cntL m n l ≤ m + 2
 | [], m, n, h => by rw [Ty.cntL]; exact h
 | t :: l, m, n, h => by
  rw [Ty.cntL]; split
  ·have := Ty.cnt_le t (m - n)
   exact Ty.cntL_le l m _ (by omega)
  ·exact h
end
theorem tyCnt_le (t : Ty) (m : Nat) : tyCnt t m ≤ m + 1 := by
 unfold tyCnt; split
 ·omega
 ·have := t.cnt_le (m - 1); omega
theorem tyCnt_pos (t : Ty) (m : Nat) : 1 ≤ tyCnt t m := by
 unfold tyCnt; split
 ·omega
 ·exact t.cnt_pos _
theorem Tm.cntL_ge : ∀ (l : List Tm) (m n : Nat), n ≤ Tm.cntL m n l
 | [], m, n => by rw [Tm.cntL]; omega
 | t :: l, m, n => by
  rw [Tm.cntL]; split
  ·have := Tm.cntL_ge l m (n + t.cnt (m - n)); omega
  ·omega
theorem Tm.cnt_pos (t : Tm) (m : Nat) : 1 ≤ t.cnt m := by rw [Tm.cnt_eq]; have := Tm.cntL_ge t.args m (1 + tyCnt t.type m); omega
mutual
theorem Tm.cnt_le : ∀ (t : Tm) (m : Nat), t.cnt m ≤ m + 2
 | .mk _ _ ty l, m => by rw [Tm.cnt]; exact Tm.cntL_le l m _ (by have := tyCnt_le ty m; omega)
theorem Tm.cntL_le : ∀ (l : List Tm) (m n : Nat), n ≤ m + 2 → Tm.cntL m n l ≤ m + 2
 | [], m, n, h => by rw [Tm.cntL]; exact h
 | t :: l, m, n, h => by
  rw [Tm.cntL]; split
  ·have := Tm.cnt_le t (m - n)
   exact Tm.cntL_le l m _ (by omega)
  ·exact h
end
theorem Ty.cntL_fits : ∀ (l : List Ty) (m n : Nat), Ty.cntL m n l ≤ m → (∀ x ∈ l, ∃ m', m' ≤ m ∧ x.cnt m' ≤ m') ∧ n + l.length ≤ m
 | [], m, n, h => by rw [Ty.cntL] at h; exact ⟨by simp, by simpa using h⟩
 | t :: l, m, n, h => by
  rw [Ty.cntL] at h
  split at h
  ·obtain ⟨h1, h2⟩ := Ty.cntL_fits l m _ h
   have := t.cnt_pos (m - n)
   refine ⟨fun x hx => ?_, by simp only [List.length_cons]; omega⟩
   rcases List.mem_cons.1 hx with rfl | hx
   ·exact ⟨m - n, by omega, by omega⟩
   ·exact h1 x hx
  ·omega
theorem Ty.cnt_W : ∀ (t : Ty) (m : Nat), m ≤ 100000 → t.cnt m ≤ m → TyW t := by
 intro t
 induction t using Ty.ind with | h t ih => ?_
 intro m hm h
 rw [Ty.cnt_eq] at h
 obtain ⟨h1, h2⟩ := Ty.cntL_fits _ _ _ h
 cases t with | mk k l =>
 refine .mk k l (show (Ty.mk k l).args.length ≤ 100000 by omega) fun x hx => ?_
 obtain ⟨m', a, b⟩ := h1 x hx
 exact ih x hx m' (by omega) b
theorem Tm.cntL_fits : ∀ (l : List Tm) (m n : Nat), Tm.cntL m n l ≤ m → (∀ x ∈ l, ∃ m', m' ≤ m ∧ x.cnt m' ≤ m') ∧ n + l.length ≤ m
 | [], m, n, h => by rw [Tm.cntL] at h; exact ⟨by simp, by simpa using h⟩
 | t :: l, m, n, h => by
  rw [Tm.cntL] at h
  split at h
  ·obtain ⟨h1, h2⟩ := Tm.cntL_fits l m _ h
   have := t.cnt_pos (m - n)
   refine ⟨fun x hx => ?_, by simp only [List.length_cons]; omega⟩
   rcases List.mem_cons.1 hx with rfl | hx
   ·exact ⟨m - n, by omega, by omega⟩
   ·exact h1 x hx
  ·omega
theorem Tm.cnt_W : ∀ (t : Tm) (m : Nat), m ≤ 100000 → t.cnt m ≤ m → TmW t := by
 intro t
 induction t using Tm.ind with | h t ih => ?_
 intro m hm h
 rw [Tm.cnt_eq] at h
 obtain ⟨h1, h2⟩ := Tm.cntL_fits _ _ _ h
 have hty : TyW t.type := by
  unfold tyCnt at h2
  split at h2
  ·omega
  ·exact Ty.cnt_W t.type (m - 1) (by omega) (by omega)
 cases t with | mk k i ty l =>
 refine .mk k i ty l hty (show (Tm.mk k i ty l).args.length ≤ 100000 by omega) fun x hx => ?_
 obtain ⟨m', a, b⟩ := h1 x hx
 exact ih x hx m' (by omega) b
mutual
def Fm.cnt : Fm → Nat → Nat
 | .mk _ ty ts l, m => Fm.cntL m (Tm.cntL m (1 + tyCnt ty m) ts) l
def Fm.cntL (m : Nat) : Nat → List Fm → Nat
 | n, [] => n
 | n, t :: l => if n ≤ m then Fm.cntL m (n + t.cnt (m - n)) l else n
end
theorem Fm.cnt_eq (t : Fm) (m : Nat) : t.cnt m = Fm.cntL m (Tm.cntL m (1 + tyCnt t.type m) t.terms) t.args := by cases t; rw [Fm.cnt]; rfl
theorem Fm.cntL_nil {m n : Nat} : Fm.cntL m n [] = n := by rw [Fm.cntL]
theorem Fm.cntL_cons {m n : Nat} {t : Fm} {l : List Fm} (h : n ≤ m) : Fm.cntL m n (t :: l) = Fm.cntL m (n + t.cnt (m - n)) l := by rw [Fm.cntL, if_pos h]
theorem Fm.cntL_stop {m n : Nat} {l : List Fm} (h : ¬ n ≤ m) : Fm.cntL m n l = n := by cases l <;> rw [Fm.cntL]; rw [if_neg h]
theorem Fm.cntL_ge : ∀ (l : List Fm) (m n : Nat), n ≤ Fm.cntL m n l
 | [], m, n => by rw [Fm.cntL]; omega
 | t :: l, m, n => by
  rw [Fm.cntL]; split
  ·have := Fm.cntL_ge l m (n + t.cnt (m - n)); omega
  ·omega
theorem Fm.cnt_pos (t : Fm) (m : Nat) : 1 ≤ t.cnt m := by
 rw [Fm.cnt_eq]
 have h1 := Fm.cntL_ge t.args m (Tm.cntL m (1 + tyCnt t.type m) t.terms)
 have h2 := Tm.cntL_ge t.terms m (1 + tyCnt t.type m)
 omega
mutual
theorem Fm.cnt_le : ∀ (t : Fm) (m : Nat), t.cnt m ≤ m + 2
 | .mk _ ty ts l, m => by
  rw [Fm.cnt]
  exact Fm.cntL_le l m _ (Tm.cntL_le ts m _ (by have := tyCnt_le ty m; omega))
theorem Fm.cntL_le : ∀ (l : List Fm) (m n : Nat), n ≤ m + 2 → Fm.cntL m n l ≤ m + 2
 | [], m, n, h => by rw [Fm.cntL]; exact h
 | t :: l, m, n, h => by
  rw [Fm.cntL]; split
  ·have := Fm.cnt_le t (m - n)
   exact Fm.cntL_le l m _ (by omega)
  ·exact h
end
theorem Fm.cntL_fits : ∀ (l : List Fm) (m n : Nat), Fm.cntL m n l ≤ m → (∀ x ∈ l, ∃ m', m' ≤ m ∧ x.cnt m' ≤ m') ∧ n + l.length ≤ m
 | [], m, n, h => by rw [Fm.cntL] at h; exact ⟨by simp, by simpa using h⟩
 | t :: l, m, n, h => by
  rw [Fm.cntL] at h
  split at h
  ·obtain ⟨h1, h2⟩ := Fm.cntL_fits l m _ h
   have := t.cnt_pos (m - n)
   refine ⟨fun x hx => ?_, by simp only [List.length_cons]; omega⟩
   rcases List.mem_cons.1 hx with rfl | hx
   ·exact ⟨m - n, by omega, by omega⟩
   ·exact h1 x hx
  ·omega
theorem Fm.cnt_W : ∀ (t : Fm) (m : Nat), m ≤ 100000 → t.cnt m ≤ m → FmW t := by
 intro t
 induction t using Fm.ind with | h t ih => ?_
 intro m hm h
 rw [Fm.cnt_eq] at h
 obtain ⟨h1, h2⟩ := Fm.cntL_fits _ _ _ h
 obtain ⟨h3, h4⟩ := Tm.cntL_fits t.terms m (1 + tyCnt t.type m) (by omega)
 have hty : TyW t.type := by
  unfold tyCnt at h4
  split at h4
  ·omega
  ·refine Ty.cnt_W t.type (m - 1) (by omega) (by omega)
 cases t with | mk k ty ts l =>
 refine .mk k ty ts l hty (show (Fm.mk k ty ts l).terms.length ≤ 100000 by omega) (fun x hx => ?_) (show (Fm.mk k ty ts l).args.length ≤ 100000 by omega) fun x hx => ?_
 ·obtain ⟨m', a, b⟩ := h3 x hx
  exact Tm.cnt_W x m' (by omega) b
 ·obtain ⟨m', a, b⟩ := h1 x hx
  exact ih x hx m' (by omega) b
mutual
theorem Ty.cnt_sz : ∀ (t : Ty) (m : Nat), t.cnt m ≤ m → tySz t ≤ t.cnt m
 | .mk _ l, m, h => by
  rw [Ty.cnt] at h ⊢
  rw [tySz]
  have := Ty.cntL_sz l m 1 h; omega
theorem Ty.cntL_sz : ∀ (l : List Ty) (m n : Nat), Ty.cntL m n l ≤ m → n + tySzL l ≤ Ty.cntL m n l
 | [], m, n, h => by rw [Ty.cntL, tySzL]; omega
 | t :: l, m, n, h => by
  rw [Ty.cntL] at h ⊢
  split at h
  ·rename_i h1
   rw [if_pos h1]
   have h2 := Ty.cntL_sz l m _ h
   have h3 := Ty.cnt_sz t (m - n) (by omega)
   rw [tySzL]; omega
  ·omega
end
mutual
theorem Tm.cnt_sz : ∀ (t : Tm) (m : Nat), t.cnt m ≤ m → tmSz t ≤ t.cnt m
 | .mk _ _ ty l, m, h => by
  rw [Tm.cnt] at h ⊢
  rw [tmSz]
  have := Tm.cntL_sz l m _ h; omega
theorem Tm.cntL_sz : ∀ (l : List Tm) (m n : Nat), Tm.cntL m n l ≤ m → n + tmSzL l ≤ Tm.cntL m n l
 | [], m, n, h => by rw [Tm.cntL, tmSzL]; omega
 | t :: l, m, n, h => by
  rw [Tm.cntL] at h ⊢
  split at h
  ·rename_i h1
   rw [if_pos h1]
   have h2 := Tm.cntL_sz l m _ h
   have h3 := Tm.cnt_sz t (m - n) (by omega)
   rw [tmSzL]; omega
  ·omega
end
mutual
theorem Fm.cnt_sz : ∀ (t : Fm) (m : Nat), t.cnt m ≤ m → fmSz t ≤ t.cnt m
 | .mk _ ty ts l, m, h => by
  rw [Fm.cnt] at h ⊢
  rw [fmSz]
  have h1 := Fm.cntL_sz l m _ h
  have h2 := Tm.cntL_sz ts m (1 + tyCnt ty m) (by omega)
  omega
theorem Fm.cntL_sz : ∀ (l : List Fm) (m n : Nat), Fm.cntL m n l ≤ m → n + fmSzL l ≤ Fm.cntL m n l
 | [], m, n, h => by rw [Fm.cntL, fmSzL]; omega
 | t :: l, m, n, h => by
  rw [Fm.cntL] at h ⊢
  split at h
  ·rename_i h1
   rw [if_pos h1]
   have h2 := Fm.cntL_sz l m _ h
   have h3 := Fm.cnt_sz t (m - n) (by omega)
   rw [fmSzL]; omega
  ·omega
end
theorem tyWant_cases {k w : Int} (h : tyWant k = some w) : (w = 0 ∧ (k = 1 ∨ k = 2 ∨ k = 5)) ∨ (w = 2 ∧ (k = 3 ∨ k = 4)) := by
 unfold tyWant at h
 split at h
 ·rename_i h1
  simp only [Option.some.injEq] at h
  simp only [Bool.or_eq_true, beq_iff_eq] at h1
  omega
 ·split at h
  ·rename_i h1
   simp only [Option.some.injEq] at h
   simp only [Bool.or_eq_true, beq_iff_eq] at h1
   omega
  ·cases h
theorem ilen0 {α : Type} {l : List α} (h : (l.length : Int) = 0) : l = [] := List.length_eq_zero_iff.1 (by omega)
theorem ilen1 {α : Type} {l : List α} (h : (l.length : Int) = 1) : ∃ a, l = [a] := lst1 (by omega)
theorem ilen2 {α : Type} {l : List α} (h : (l.length : Int) = 2) : ∃ a b, l = [a, b] := by
 match l, h with
 | [a, b], _ => exact ⟨a, b, rfl⟩
 | [], h => simp at h
 | [_], h => simp at h
 | _ :: _ :: _ :: _, h => simp at h; omega
theorem TyF_good : ∀ t : Ty, t.good = true → TyF t := by
 intro t
 induction t using Ty.ind with | h t ih => ?_
 intro h
 rw [Ty.good_eq] at h
 cases t with | mk k l =>
 simp only [Ty.kind, Ty.args] at h ih
 cases hw : tyWant k with
 | none => rw [hw] at h; cases h
 | some w =>
  rw [hw] at h
  simp only [Bool.and_eq_true, beq_iff_eq, List.all_eq_true] at h
  obtain ⟨h1, h2⟩ := h
  rcases tyWant_cases hw with ⟨rfl, hk⟩ | ⟨rfl, hk⟩
  ·obtain rfl := ilen0 h1
   rcases hk with rfl | rfl | rfl
   ·exact .nat
   ·exact .list
   ·exact .unit
  ·obtain ⟨a, b, rfl⟩ := ilen2 h1
   have ha := ih a (by simp) (h2 a (by simp))
   have hb := ih b (by simp) (h2 b (by simp))
   rcases hk with rfl | rfl
   ·exact .pair ha hb
   ·exact .func ha hb
theorem chk_good {m : Int} {o : Option Int} (h : (chk m o).2 = 0) : o.isSome = true := by
 cases o with
 | none => simp [chk] at h
 | some _ => rfl
theorem tyErr0 {t : Ty} {m : Nat} (hm : m ≤ 100000) (hc : t.cnt m ≤ m) (h : tyErr t = 0) : TyG t := by
 have h1 := TyF_good t (chk_good h)
 have h2 := Ty.cnt_sz t m hc
 rw [h1.err (by omega)] at h
 split at h
 ·exact ⟨h1, by assumption⟩
 ·cases h
theorem noType_eq {t : Ty} (h : noType t = true) : t = .mk 0 [] := by
 cases t with | mk k l =>
 simp only [noType, Ty.kind, Ty.args, Bool.and_eq_true, beq_iff_eq] at h
 obtain ⟨rfl, h2⟩ := h
 rw [ilen0 h2]
theorem TmG_good : ∀ (t : Tm) (m : Nat), m ≤ 100000 → t.cnt m ≤ m → t.good = true → TmG t := by
 intro t
 induction t using Tm.ind with | h t ih => ?_
 intro m hm hc h
 rw [Tm.cnt_eq] at hc
 obtain ⟨h1, h2⟩ := Tm.cntL_fits _ _ _ hc
 rw [Tm.good_eq] at h
 cases t with | mk k i ty l =>
 simp only [Tm.kind, Tm.index, Tm.type, Tm.args, Bool.and_eq_true, List.all_eq_true] at h ih h1 h2
 obtain ⟨hh, hr⟩ := h
 have hl : ∀ x ∈ l, TmG x := fun x hx => by
  obtain ⟨m', a, b⟩ := h1 x hx
  exact ih x hx m' (by omega) b (hr x hx)
 unfold tmHead at hh
 cases ha : arity k with
 | none => rw [ha] at hh; cases hh
 | some a =>
  rw [ha] at hh
  simp only [Bool.and_eq_true, Bool.or_eq_true, beq_iff_eq, decide_eq_true_eq] at hh
  obtain ⟨⟨⟨hn, h0⟩, hi⟩, ht⟩ := hh
  cases hty : typed k with
  | true =>
   rw [hty] at ht
   simp only [if_true, beq_iff_eq] at ht
   have hk : k ≠ 1 := by rintro rfl; cases hty
   obtain rfl : i = 0 := by rcases hi with h | h <;> omega
   have hg : TyG ty := by
    have hcc : tyCnt ty m ≤ m := by omega
    unfold tyCnt at h2 hcc
    split at h2
    ·omega
    ·exact tyErr0 (m := m - 1) (by omega) (by omega) ht
   exact .typd ha hn hty hg hl
  | false =>
   rw [hty] at ht
   simp only [Bool.false_eq_true, if_false] at ht
   obtain rfl := noType_eq ht
   by_cases hk : k = 1
   ·subst hk
    have : a = 0 := by rw [show arity 1 = some 0 from rfl] at ha; simpa using ha.symm
    subst this
    obtain rfl := ilen0 hn
    exact .var h0
   ·obtain rfl : i = 0 := by rcases hi with h | h <;> omega
    exact .plain ha hn hty hl
theorem fmWant_cases {k : Int} {p : Int × Int × Bool} (h : fmWant k = some p) : (k = 1 ∧ p = (2, 0, false)) ∨ ((k = 2 ∨ k = 3) ∧ p = (0, 2, false)) ∨ ((k = 4 ∨ k = 5 ∨ k = 6 ∨ k = 7) ∧ p = (0, 1, true)) := by
 unfold fmWant at h
 split at h
 ·rename_i h1
  simp only [Option.some.injEq] at h
  exact .inl ⟨by simpa using h1, h.symm⟩
 ·split at h
  ·rename_i h1
   simp only [Option.some.injEq] at h
   exact .inr (.inl ⟨by simpa using h1, h.symm⟩)
  ·split at h
   ·rename_i h1
    simp only [Option.some.injEq] at h
    refine .inr (.inr ⟨?_, h.symm⟩)
    simp only [Bool.or_eq_true, beq_iff_eq] at h1
    omega
   ·cases h
theorem FmG_good : ∀ (t : Fm) (m : Nat), m ≤ 100000 → t.cnt m ≤ m → t.good = true → FmG true t := by
 intro t
 induction t using Fm.ind with | h t ih => ?_
 intro m hm hc h
 rw [Fm.cnt_eq] at hc
 obtain ⟨h1, h2⟩ := Fm.cntL_fits _ _ _ hc
 obtain ⟨h3, h4⟩ := Tm.cntL_fits t.terms m (1 + tyCnt t.type m) (by omega)
 rw [Fm.good_eq] at h
 cases t with | mk k ty ts l =>
 simp only [Fm.kind, Fm.type, Fm.terms, Fm.args, Bool.and_eq_true, List.all_eq_true] at h ih h1 h2 h3 h4
 obtain ⟨⟨hh, hs⟩, hr⟩ := h
 have hl : ∀ x ∈ l, FmG true x := fun x hx => by
  obtain ⟨m', a, b⟩ := h1 x hx
  exact ih x hx m' (by omega) b (hr x hx)
 have ht : ∀ x ∈ ts, TmG x := fun x hx => by
  obtain ⟨m', a, b⟩ := h3 x hx
  exact TmG_good x m' (by omega) b (hs x hx)
 unfold formed at hh
 cases hw : fmWant k with
 | none => rw [hw] at hh; cases hh
 | some p =>
  rw [hw] at hh
  rcases fmWant_cases hw with ⟨hk, rfl⟩ | ⟨hk, rfl⟩ | ⟨hk, rfl⟩
  ·simp only [Bool.false_eq_true, if_false, Bool.and_eq_true, beq_iff_eq] at hh
   obtain ⟨⟨e1, e2⟩, e3⟩ := hh
   obtain rfl := noType_eq e1
   obtain ⟨x, y, rfl⟩ := ilen2 e2
   obtain rfl := ilen0 e3
   subst hk
   exact .eq (ht x (by simp)) (ht y (by simp))
  ·simp only [Bool.false_eq_true, if_false, Bool.and_eq_true, beq_iff_eq] at hh
   obtain ⟨⟨e1, e2⟩, e3⟩ := hh
   obtain rfl := noType_eq e1
   obtain rfl := ilen0 e2
   obtain ⟨x, y, rfl⟩ := ilen2 e3
   exact .two hk (hl x (by simp)) (hl y (by simp))
  ·simp only [if_true, Bool.and_eq_true, beq_iff_eq] at hh
   obtain ⟨⟨e1, e2⟩, e3⟩ := hh
   obtain rfl := ilen0 e2
   obtain ⟨x, rfl⟩ := ilen1 e3
   have hg : TyG ty := by
    have hcc : tyCnt ty m ≤ m := by omega
    unfold tyCnt at h4 hcc
    split at h4
    ·omega
    ·exact tyErr0 (m := m - 1) (by omega) (by omega) e1
   refine .q ?_ hg (hl x (by simp))
   rcases hk with h | h | h | h
   ·exact .inl h
   ·exact .inr (.inl h)
   ·exact .inr (.inr ⟨rfl, .inl h⟩)
   ·exact .inr (.inr ⟨rfl, .inr h⟩)
theorem FmTy.least {g : List Ty} {f : Fm} (h : FmTy TyG g f) : (g.length : Int) + fmSz f ≤ 100000 → f.least 536870912 = true := by
 induction h with
 | eq h1 h2 =>
  intro hb
  rw [fmSz_eq] at hb
  exact fleast_eq.2 ⟨h1.least _ (by omega) (by omega), h2.least _ (by omega) (by omega)⟩
 | two hk _ _ h1 h2 =>
  intro hb
  rw [fmSz_two] at hb
  exact fleast_two (h1 (by omega)) (h2 (by omega))
 | q hk _ h1 =>
  intro hb
  rw [fmSz_q] at hb
  exact least_q (h1 (by simp; omega))
theorem FmG.argG {u : Bool} {f x : Fm} (h : FmG u f) (hx : x ∈ f.args) : FmG u x := by
 cases h with
 | eq => simp [fmEq, Fm.args] at hx
 | two _ h1 h2 => simp [fmTwo, Fm.args] at hx; rcases hx with rfl | rfl <;> assumption
 | q _ _ h1 => simp [fmQ, Fm.args] at hx; subst hx; exact h1
theorem fmSz_term {f : Fm} {x : Tm} (h : x ∈ f.terms) : tmSz x < fmSz f := by
 obtain ⟨k, t, l, a⟩ := f
 rw [fmSz]
 have := tmSzL_mem (show x ∈ l from h)
 omega
theorem tmSz_arg {f x : Tm} (h : x ∈ f.args) : tmSz x < tmSz f := by
 obtain ⟨k, i, t, a⟩ := f
 rw [tmSz]
 have := tmSzL_mem (show x ∈ a from h)
 omega
structure TmA (N : Nat) (t : Tm) : Prop where
 w : TmW t
 n : TmN t
 z : tmSz t ≤ N
 g : t.good = true → TmG t
structure FmA (N : Nat) (f : Fm) : Prop where
 w : FmW f
 n : FmN f
 z : fmSz f ≤ N
 g : f.good = true → FmG true f
theorem TmA.raw {t : Tm} {m N : Nat} (hN : TmN t) (hm : m ≤ 100000) (hle : N ≤ m) (h : t.cnt m ≤ N) : TmA N t :=
 ⟨Tm.cnt_W t m hm (by omega), hN, by have := Tm.cnt_sz t m (by omega); omega, TmG_good t m hm (by omega)⟩
theorem FmA.raw {t : Fm} {m N : Nat} (hN : FmN t) (hm : m ≤ 100000) (hle : N ≤ m) (h : t.cnt m ≤ N) : FmA N t :=
 ⟨Fm.cnt_W t m hm (by omega), hN, by have := Fm.cnt_sz t m (by omega); omega, FmG_good t m hm (by omega)⟩
theorem TmA.mono {t : Tm} {N M : Nat} (h : TmA N t) (hM : N ≤ M) : TmA M t := ⟨h.w, h.n, by have := h.z; omega, h.g⟩
theorem FmA.mono {t : Fm} {N M : Nat} (h : FmA N t) (hM : N ≤ M) : FmA M t := ⟨h.w, h.n, by have := h.z; omega, h.g⟩
theorem FmN.arg {f x : Fm} (h : FmN f) (hx : x ∈ f.args) : FmN x := by cases h with | mk _ _ _ r => exact r x hx
theorem FmN.term {f : Fm} {x : Tm} (h : FmN f) (hx : x ∈ f.terms) : TmN x := by cases h with | mk _ _ r _ => exact r x hx
theorem TmN.arg {f x : Tm} (h : TmN f) (hx : x ∈ f.args) : TmN x := by cases h with | mk _ _ _ r => exact r x hx
theorem ok_good {t : Tm} (h : (tmErr t != 0) = false) : t.good = true := chk_good (by simpa [tmErr] using h)
theorem TmA.ok {N : Nat} {t : Tm} (h : TmA N t) (hN : N ≤ 100000) (he : (tmErr t != 0) = false) : TmG t ∧ tmSz t ≤ 4096 := by
 have hg := h.g (ok_good he)
 refine ⟨hg, ?_⟩
 rw [hg.err_val (by have := h.z; omega)] at he
 by_cases h9 : tmSz t ≤ 4096
 ·exact h9
 ·rw [if_neg h9] at he; cases he
theorem FmA.ok {N : Nat} {f : Fm} (h : FmA N f) (hN : N ≤ 100000) (he : (fmErr f != 0) = false) : FmG true f ∧ fmSz f ≤ 4096 := by
 have hg := h.g (Fm.ok_good he)
 refine ⟨hg, ?_⟩
 rw [hg.err_val (by have := h.z; omega)] at he
 by_cases h9 : fmSz f ≤ 4096
 ·exact h9
 ·rw [if_neg h9] at he; cases he
theorem FmN.hasQ {f : Fm} (nf : FmN f) (zf : fmSz f ≤ 50000) (a x u q : Fm × Tm) (ha : a.1 ∈ f.args) (hx : x.1 ∈ a.1.args) (hu : u.2 ∈ x.1.terms) (hq : q.2 ∈ u.2.args) :
  q.2.hasV 0 = decide (q.2.count 0 > 0) := by
 have h1 := fmSz_arg ha
 have h2 := fmSz_arg hx
 have h3 := fmSz_term hu
 have h4 := tmSz_arg hq
 exact has_count ((((nf.arg ha).arg hx).term hu).arg hq) (by omega)
def lessC (s t : Tm) : Fm × Int :=
 if tmErr s != 0 then (zeroF, tmErr s) else if tmErr t != 0 then (zeroF, tmErr t) else if fmErr (lessF s t) != 0 then (zeroF, 4) else (lessF s t, 0)
theorem less_side (s t : Tm) : ft (lessF s t) 0 = tm0 3 [tm0 3 [subT, tm0 5 [s]], t] := ft_at (by unfold lessF; rfl)
theorem lessC_eq {N : Nat} {s t : Tm} (hN : N ≤ 100000) (hs : TmA N s) (ht : TmA N t) : lessC s t = lessR s t := by
 unfold lessC lessR
 cases k1 : (tmErr s != 0) with
 | true => simp only [if_true]; try rfl
 | false =>
 cases k2 : (tmErr t != 0) with
 | true => simp only [if_true]; try rfl
 | false =>
 obtain ⟨gs, zs⟩ := hs.ok hN k1
 obtain ⟨gt, zt⟩ := ht.ok hN k2
 have gl : FmG true (lessF s t) := lessF_G gs gt
 have zl := lessF_sz (s := s) (t := t)
 have e1 := gl.err_val (by omega)
 have e2 := gl.szW (by omega)
 have e3 : (ft (lessF s t) 0).szW = (tmSz s + tmSz t + 19 : Nat) := by
  rw [less_side]
  have gT : TmG (tm0 3 [tm0 3 [subT, tm0 5 [s]], t]) := .t2 ar3 rfl (.t2 ar3 rfl subT_G (.t1 ar5 rfl gs)) gt
  have hz : tmSz (tm0 3 [tm0 3 [subT, tm0 5 [s]], t]) = tmSz s + tmSz t + 19 := by
   rw [tmSz_2, tmSz_2, tmSz_1, tmSz_sub]; omega
  rw [gT.szW (by omega), hz]
 simp only [Bool.false_eq_true, if_false]
 rw [e1, e2, e3, zl]
 by_cases h9 : tmSz s + tmSz t + 21 ≤ 4096
 ·have h1 : decide (((tmSz s + tmSz t + 19 : Nat) : Int) > 4096) = false := by simp; omega
  have h2 : decide (((tmSz s + tmSz t + 21 : Nat) : Int) > 4096) = false := by simp; omega
  rw [if_pos h9, h1, h2]; rfl
 ·have h2 : decide (((tmSz s + tmSz t + 21 : Nat) : Int) > 4096) = true := by simp; omega
  rw [if_neg h9, h2, Bool.or_true]; rfl
mutual
theorem near_all : ∀ (t : Tm) (b : Int) (s : Bool), t.good = true → t.eachF nearF b s = (s && t.least 536870912)
 | .mk k i ty l, b, s, h => by
  rw [Tm.good_eq] at h
  simp only [Tm.kind, Tm.index, Tm.type, Tm.args, Bool.and_eq_true, List.all_eq_true] at h
  obtain ⟨hh, hr⟩ := h
  rw [Tm.eachF, nearL_all l _ _ hr, Tm.least]
  by_cases hk : (k == 1) = true
  ·rw [if_pos hk]; unfold nearF; rw [Bool.and_assoc]
  ·have hk' : (k == 1) = false := by simpa using hk
   rw [if_neg hk]
   unfold tmHead at hh
   cases ha : arity k with
   | none => rw [ha] at hh; cases hh
   | some a =>
    rw [ha] at hh
    simp only [Bool.and_eq_true, Bool.or_eq_true, beq_iff_eq, decide_eq_true_eq] at hh
    obtain ⟨⟨⟨hn, h0⟩, hi⟩, ht⟩ := hh
    obtain rfl : i = 0 := by
     rcases hi with h | h
     ·exact h
     ·rw [h] at hk'; exact absurd hk' (by decide)
    simp
theorem nearL_all : ∀ (l : List Tm) (b : Int) (s : Bool), (∀ x ∈ l, x.good = true) → Tm.eachL nearF l b s = (s && Tm.leastL 536870912 l)
 | [], b, s, _ => by rw [Tm.eachL, Tm.leastL]; simp
 | t :: l, b, s, h => by
  rw [Tm.leastL, Tm.eachL, near_all t b s (h t (by simp)), nearL_all l b _ (fun x hx => h x (by simp [hx])), Bool.and_assoc]
end
theorem near_eq {t : Tm} (h : t.good = true) : t.near = t.least 536870912 := by
 unfold Tm.near; rw [near_all t 0 true h]; rfl
def liftC (t : Tm) : Tm × Int := if tmErr t != 0 then (zeroT, tmErr t) else if !t.near then (zeroT, 1) else (tLift t 0 1, 0)
theorem liftC_eq {N : Nat} {t : Tm} (hN : N ≤ 100000) (ht : TmA N t) : liftC t = tmLift t 0 1 := by
 unfold liftC tmLift
 cases k1 : (tmErr t != 0) with
 | true => simp only [if_true]; try rfl
 | false =>
 obtain ⟨gt, zt⟩ := ht.ok hN k1
 rw [near_eq (ok_good k1)]
 simp only [Bool.false_eq_true, if_false]
 have d1 : decide ((0 : Int) < 0) = false := rfl
 have d2 : decide ((0 : Int) > 4096) = false := rfl
 have d3 : decide ((1 : Int) < 0) = false := rfl
 have d4 : decide ((1 : Int) > 4096) = false := rfl
 rw [d1, d2, d3, d4]
 cases hl : t.least 536870912 with
 | false => rfl
 | true =>
  simp only [Bool.not_true, Bool.or_false, Bool.false_eq_true, if_false]
  rw [tLift_up gt (by omega) hl (by omega) (by omega) (by omega) (by omega)]
def bndC (all : Bool) (t : Tm) (f : Fm) : Fm × Int :=
 if (liftC t).2 != 0 then (zeroF, (liftC t).2) else if fmErr f != 0 then (zeroF, fmErr f)
 else if fmErr (bndF all (liftC t).1 f) != 0 then (zeroF, 4) else (bndF all (liftC t).1 f, 0)
theorem lift_ok {N : Nat} {t : Tm} (hN : N ≤ 100000) (ht : TmA N t) (h : ((tmLift t 0 1).2 != 0) = false) : TmG (tmLift t 0 1).1 ∧ tmSz (tmLift t 0 1).1 ≤ 4096 := by
 unfold tmLift at h ⊢
 cases k1 : (tmErr t != 0) with
 | true => rw [k1] at h; simp only [if_true] at h; rw [h] at k1; cases k1
 | false =>
  obtain ⟨gt, zt⟩ := ht.ok hN k1
  rw [k1] at h
  simp only [Bool.false_eq_true, if_false] at h ⊢
  split at h
  ·cases h
  ·rename_i h9
   have hl : t.least 536870912 = true := by
    simp only [Bool.or_eq_true, not_or] at h9
    have := h9.2
    revert this; cases t.least 536870912 <;> simp
   rw [if_neg h9]
   exact ⟨TmG.up (by omega) (by omega) _ gt (Nat.le_refl _) hl 0, by rw [tmSz_up]; exact zt⟩
theorem bndC_eq {N : Nat} {all : Bool} {t : Tm} {f : Fm} (hN : N ≤ 100000) (ht : TmA N t) (hf : FmA N f) : bndC all t f = bndR all t f := by
 unfold bndC bndR
 rw [liftC_eq hN ht]
 cases k1 : ((tmLift t 0 1).2 != 0) with
 | true => simp only [if_true]; try rfl
 | false =>
 cases k2 : (fmErr f != 0) with
 | true => simp only [if_true]; try rfl
 | false =>
 obtain ⟨gx, zx⟩ := lift_ok hN ht k1
 obtain ⟨gf, zf⟩ := hf.ok hN k2
 generalize (tmLift t 0 1).1 = x at *
 simp only [Bool.false_eq_true, if_false]
 have gb : FmG true (bndF all x f) := bndF_G gx gf
 have zb := bndF_sz (all := all) (x := x) (f := f)
 have zl := lessF_sz (s := tmVar 0) (t := x)
 rw [tmSz_v] at zl
 have gl : FmG true (lessF (tmVar 0) x) := lessF_G v0_G gx
 have e1 := gb.err_val (by omega)
 have e2 := gb.szW (by omega)
 have e3 := gl.szW (by omega)
 have e5 : (ft (lessF (tmVar 0) x) 0).szW = (1 + tmSz x + 19 : Nat) := by
  rw [less_side]
  have gT : TmG (tm0 3 [tm0 3 [subT, tm0 5 [tmVar 0]], x]) := .t2 ar3 rfl (.t2 ar3 rfl subT_G (.t1 ar5 rfl v0_G)) gx
  have hz : tmSz (tm0 3 [tm0 3 [subT, tm0 5 [tmVar 0]], x]) = 1 + tmSz x + 19 := by
   rw [tmSz_2, tmSz_2, tmSz_1, tmSz_sub, tmSz_v]; omega
  rw [gT.szW (by omega), hz]
 have e6 : tmErr (tmVar 0) = 0 := v0_G.err0 (by rw [tmSz_v]; omega)
 have e7 : tmErr x = 0 := gx.err0 zx
 unfold lessR
 rw [e1, e2, e3, e5, e6, e7, zb, zl]
 have n0 : ((0 : Int) != 0) = false := rfl
 simp only [n0, Bool.false_eq_true, if_false]
 by_cases h9 : tmSz x + fmSz f + 24 ≤ 4096
 ·have h1 : decide (((1 + tmSz x + 19 : Nat) : Int) > 4096) = false := by simp; omega
  have h2 : decide (((1 + tmSz x + 21 : Nat) : Int) > 4096) = false := by simp; omega
  have h3 : decide (((tmSz x + fmSz f + 24 : Nat) : Int) > 4096) = false := by simp; omega
  rw [if_pos h9, h1, h2, h3]; rfl
 ·have h3 : decide (((tmSz x + fmSz f + 24 : Nat) : Int) > 4096) = true := by simp; omega
  rw [if_neg h9, h3]
  cases h1 : decide (((1 + tmSz x + 19 : Nat) : Int) > 4096) <;> cases h2 : decide (((1 + tmSz x + 21 : Nat) : Int) > 4096) <;> rfl
def boundG (f : Fm) : V := if fmErr f != 0 || !isBnd f then .tup [.bool false, .agg zeroT.cells, .agg zeroF.cells, .bool false]
 else .tup [.bool (f.kind == 4), .agg ((bndTerm f).up (-1) 1).cells, .agg (bndBody f).cells, .bool true]
theorem bnd_low {f : Fm} (h : f.kind = 1 ∨ f.kind = 2 ∨ f.kind = 3) : isBnd f = false := by
 unfold isBnd bndHead
 rcases h with h | h | h <;> rw [h] <;> rfl
def univG (f : Fm) : V := if fmErr f != 0 then .tup [.sl .any [], .agg zeroF.cells, .int .i64 (fmErr f)] else .tup [.sl .any (f.univ.1.map Ty.cells), .agg f.univ.2.cells, .int .i64 0]
theorem Ext.drew (g : G) (w : World) : Ext g w g w.drew :=
 ⟨rfl, rfl, rfl, by simp, fun _ => Nat.le_refl _, fun _ _ _ => rfl, fun _ _ h => ⟨rfl, h⟩, fun id h => ⟨h, rfl, .inl rfl⟩, Nat.le_refl _⟩
theorem Rel.drew {env : Nat → Option (List V)} {g : G} {w : World} {h : H} (r : Rel env g w h) : Rel env g w.drew h := by
 have hx := Ext.drew g w
 refine ⟨r.dom, r.top, ?_, r.inj, ?_, r.apart, r.apart2, ?_, fun k cs' e => (r.glob k cs' e).mono hx⟩
 ·intro id cs e
  obtain ⟨vs, h1, h2, h3, h4, h5⟩ := r.box id cs e
  exact ⟨vs, h1, h2, fun i c v a b => (h3 i c v a b).mono hx, h4, h5⟩
 ·intro id n k e
  obtain ⟨h1, h2, h3, hk⟩ := r.tok id n k e
  exact ⟨h1, h2, fun hlt => by
   obtain ⟨b, off, vs', s1, s2, s3, s4, s5⟩ := h3 hlt
   exact ⟨b, off, vs', s1, s2, s3, s4, s5⟩, hk⟩
 ·intro b hb; simp only [World.size_drew] at hb; exact r.limnew b hb
theorem append_room {P : Program} {env : Nat → Option (List V)} {g : G} {w : World} {h : H} {ρc : Operand → Value} {ρ : Operand → V} (r : Rel env g w h) (hρ : ∀ x, RV g w (ρc x) (ρ x))
  {o : Oper} {x y : Operand} {t t2 : TypeId} {nid : Id} {i j : TyI} {xs : List (List V)} {cc : Cap}
  (ho : o.op = .call { callee := .builtin .append, args := #[x, y], argTypes := #[t, t2] }) (hi : tyi P t = some i) (hj : tyi P t2 = some j)
  (hx1 : ρ x = .sl .full []) (hy1 : ρ y = .sl cc xs) (hne : xs ≠ []) (hn : h nid = none)
  (hk1 : i.kind = 4) (hk2 : j.kind = 4) (hk3 : i.esize ≠ 0) (hk4 : i.ezero.length = i.esize) (hk6 : xs.all (fun e => e.length == i.esize) = true)
  (hk8 : xs.length * i.ebytes ≤ 140737488355328) (hk9 : xs.length ≤ 140737488355328) :
  ∃ (q : Nat) (c : Value) (w' : World) (g' : G), (execOp ρc o).run P w = .ok (.value c) w' ∧ Ext g w g' w' ∧ Rel env g' w' (hset h nid (.box (xs.flatten ++ List.replicate (q * i.esize) .undef))) ∧ RV g' w' c (.slr nid xs.length (xs.length + q)) := by
 obtain ⟨inf, d, z, i1, i2, i0, is, ib, ia, iz, _, ik4, _, _, _, _, _, iez⟩ := tyi_inv hi
 obtain ⟨e, rfl, hes, heb, _⟩ := ik4 hk1
 obtain ⟨inf2, d2, z2, j1, j2, j0, _, _, _, _, _, jk4, _⟩ := tyi_inv hj
 obtain ⟨e2, rfl, _⟩ := jk4 hk2
 obtain ⟨ie, de, he1, he2, he3⟩ := szOf_some (P := P) (t := e) (by rw [← hes]; exact hk3)
 have hez := (iez e (.inl rfl)).2 ie he1
 have hsz : ie.size = i.esize := by rw [he3, hes]
 obtain ⟨ze, hze, hzel⟩ : ∃ ze, ie.zero = some ze ∧ ze.cells.size = i.esize := by
  cases hz0 : ie.zero with
  | none => rw [hz0] at hez; rw [hez] at hk4; simp at hk4; exact absurd hk4.symm hk3
  | some ze => rw [hz0] at hez; rw [hez] at hk4; exact ⟨ze, rfl, by simpa using hk4⟩
 have hbytes : ie.bytes = i.ebytes := by rw [heb]; simp [bytesOf, he1]
 have hx := hρ x
 have hy := hρ y
 rw [hx1] at hx; rw [hy1] at hy
 generalize hcx : ρc x = vx at hx
 generalize hcy : ρc y = vy at hy
 cases hx with | sl a cap _ es k cs hke hcaps hruns hrs hccs => ?_
 cases hy with | sl a2 cap2 _ xs k2 cx hkx hcapx hrunx hrx hccx => ?_
 have hxs' : ∀ e ∈ xs, e.length = i.esize := by
  rw [List.all_eq_true] at hk6; intro e he; simpa using hk6 e he
 obtain ⟨b, off, rfl, hlx, hcellx⟩ := hrunx hne
 have hk2' : k2 = i.esize := by
  cases xs with
  | nil => exact absurd rfl hne
  | cons e0 _ => rw [← hkx e0 (by simp), hxs' e0 (by simp)]
 subst hk2'
 have hfx := flat_len xs i.esize hxs'
 have hc0 : cap = 0 := hccs
 subst hc0
 have hpos : 0 < xs.length := List.length_pos_iff.2 hne
 have hnc := nextcap_le xs.length 0 hpos
 generalize hq : w.tape w.drawn (.appendCap xs.length 0 e) % (9223372036854775808 - xs.length) = q
 let arr : Array Value := ((List.range (xs.length * ie.size)).map cx).toArray ++ Builtin.zeroCells ze.cells q
 have hrun : (execOp ρc o).run P w = .ok (.value (.slice (some ⟨w.heap.size, 0, none⟩) xs.length (xs.length + q))) (w.drew.alloc (.cells arr e)) := by
  have b1 : ¬ ((9223372036854775807 : Int) < (xs.length : Int) ∧ ie.bytes = 0) := by omega
  have b2 : ¬ (281474976710656 < Builtin.nextslicecap xs.length 0 * ie.bytes) := by
   rw [hbytes]
   have : Builtin.nextslicecap xs.length 0 * i.ebytes ≤ 2 * xs.length * i.ebytes := Nat.mul_le_mul_right _ hnc
   rw [Nat.mul_assoc] at this; omega
  have b3 : ¬ (xs.length ≤ 0) := by omega
  have f1 : (Builtin.firstCells ie.size 0 (.slice a 0 0)).run P w.drew = .ok #[] w.drew := by
   cases a with
   | none => simp [Builtin.firstCells]
   | some a => simp [Builtin.firstCells, loadCells, loadCellsFrom]
  have f2 := run_first (P := P) (g := g) (w := w) (a := some ⟨b, off, none⟩) (cap := cap2) (k := i.esize) (es := xs) (cell := cx) (fun _ => ⟨b, off, rfl, hlx, hcellx⟩) w.drew (fun _ => rfl)
  rw [← hsz] at f2
  simp [execOp, ho, resolve, invoke, builtin, Builtin.append_, run_underlying i2, run_underlying j2, run_sizeOf' he1, hcx, hcy, Builtin.lenOf, typeInfo, he1, b3, Question.forced, Question.cut]
  rw [if_neg (by omega)]
  rw [if_neg b1, if_neg b2, f1]
  simp only [Result.andThen_ok]
  rw [f2]
  simp [zeroValue, typeInfo, he1, hze, newRow, hq, arr]
 have hv : RVL g w.drew arr (xs.flatten ++ List.replicate (q * i.esize) .undef) := by
  have hx' := Ext.drew g w
  refine ⟨by simp only [arr, Array.size_append, zero_size, hzel, hsz]; simp [hfx], fun n c v hc hv => ?_⟩
  by_cases hlt : n < xs.flatten.length
  ·rw [List.getElem?_append_left hlt] at hv
   simp only [arr] at hc
   rw [Array.getElem?_append_left (by simp; rw [hsz]; omega)] at hc
   simp only [List.getElem?_toArray, List.getElem?_map] at hc
   rw [List.getElem?_range (by rw [hsz]; omega)] at hc
   simp only [Option.map_some, Option.some.injEq] at hc
   subst hc
   exact (hrx n v hv).mono hx'
  ·rw [List.getElem?_append_right (by omega), List.getElem?_replicate] at hv
   split at hv
   ·cases hv; exact .undef _
   ·cases hv
 obtain ⟨g', hx', hr', hv'⟩ := new_box (r.drew) hn hv e
 refine ⟨q, _, _, g', hrun, (Ext.drew g w).trans hx', hr', ?_⟩
 generalize hp : Value.pointer (some ⟨w.drew.heap.size, 0, none⟩) = p at hv'
 cases hv' with
 | ptr _ _ hd =>
  simp only [Value.pointer.injEq, Option.some.injEq, Addr.mk.injEq] at hp
  rw [show w.heap.size = g'.loc nid from hp.1]
  exact .slr nid xs.length (xs.length + q) hd (by omega)
theorem RV.freeze {g g' : G} {w : World} {S : Id → Prop} (hl : ∀ b, g.lim b ≤ g'.lim b) (hS : ∀ id, S id → g'.dom id = true ∧ g'.loc id = g.loc id ∧ g'.buf id = g.buf id)
  {c : Value} {v : V} (h : RV g w c v) (hin : InV S v) : RV g' w c v := by
 induction h with
 | undef c => exact .undef c
 | bool b => exact .bool b
 | int k n => exact .int k n
 | str s => exact .str s
 | agg vs cs h _ ih => rw [InV] at hin; exact .agg vs cs h fun i c v hc hv => ih i c v hc hv (InL_get hin hv)
 | tup vs cs h _ ih => rw [InV] at hin; exact .tup vs cs h fun i c v hc hv => ih i c v hc hv (InL_get hin hv)
 | sl a cap c es k cell hk hcap hrun _ hc ih =>
  rw [InV] at hin
  refine .sl a cap c es k cell hk hcap (fun hne => ?_) (fun i v hv => ih i v hv (InL_get (InLL_flat.1 hin.2) hv)) ?_
  ·obtain ⟨b, off, e, h1, h2⟩ := hrun hne
   exact ⟨b, off, e, Nat.le_trans h1 (hl b), h2⟩
  cases c with
  | any => trivial
  | full => exact hc
  | own id =>
   obtain ⟨a1, a2, a3⟩ := hS id hin.1
   exact ⟨a1, by rw [a3]; exact hc.2⟩
 | ptr id off h => rw [InV] at hin; rw [← (hS id hin).2.1]; exact .ptr id off (hS id hin).1
 | slb id n cap h h2 => rw [InV] at hin; rw [← (hS id hin).2.1]; exact .slb id n cap (hS id hin).1 h2
 | slr id n cap h h2 => rw [InV] at hin; rw [← (hS id hin).2.1]; exact .slr id n cap (hS id hin).1 h2
 | el b off cs o cell hlm hrun _ ih => rw [InV] at hin; exact .el b off cs o cell (Nat.le_trans hlm (hl b)) hrun fun i v hv => ih i v hv (InL_get hin hv)
 | nilp => exact .nilp
 | fn f fs cs fs' cs' h1 h2 _ _ ih1 ih2 =>
  rw [InV] at hin
  exact .fn f fs cs fs' cs' h1 h2 (fun i c v hc hv => ih1 i c v hc hv (InL_get hin.1 hv)) (fun i c v hc hv => ih2 i c v hc hv (InL_get hin.2 hv))
 | nilf => exact .nilf
 | iface t c v _ ih => rw [InV] at hin; exact .iface t c v (ih hin)
 | nili => exact .nili
theorem append_slr {P : Program} {env : Nat → Option (List V)} {g : G} {w : World} {h : H} {ρc : Operand → Value} {ρ : Operand → V} (r : Rel env g w h) (hρ : ∀ x, RV g w (ρc x) (ρ x))
  {o : Oper} {x y : Operand} {t t2 : TypeId} {id nid : Id} {i j : TyI} {xs : List (List V)} {cc : Cap} {n cap : Nat} {bs : List V}
  (ho : o.op = .call { callee := .builtin .append, args := #[x, y], argTypes := #[t, t2] }) (hi : tyi P t = some i) (hj : tyi P t2 = some j)
  (hx1 : ρ x = .slr id n cap) (hy1 : ρ y = .sl cc xs) (hne : xs ≠ []) (hb : h id = some (.box bs)) (hbl : bs.length = cap * i.esize) (hn : h nid = none)
  (hk1 : i.kind = 4) (hk2 : j.kind = 4) (hk3 : i.esize ≠ 0) (hk4 : i.ezero.length = i.esize) (hk6 : xs.all (fun e => e.length == i.esize) = true) (hone : xs.flatten.all oneV = true)
  (hk8 : (n + xs.length) * i.ebytes ≤ 140737488355328) (hk9 : n + xs.length ≤ 140737488355328) :
  (n + xs.length ≤ cap ∧ ∃ (c : Value) (w' : World), (execOp ρc o).run P w = .ok (.value c) w' ∧ Ext g w g w' ∧ Rel env g w' (hset h id (.box (splice bs (n * i.esize) xs.flatten))) ∧ RV g w' c (.slr id (n + xs.length) cap)) ∨
  (∃ (q : Nat) (c : Value) (w' : World) (g' : G), (execOp ρc o).run P w = .ok (.value c) w' ∧ Ext g w g' w' ∧
   Rel env g' w' (hset h nid (.box (bs.take (n * i.esize) ++ xs.flatten ++ List.replicate (q * i.esize) .undef))) ∧ RV g' w' c (.slr nid (n + xs.length) (n + xs.length + q))) := by
 obtain ⟨inf, d, z, i1, i2, i0, is, ib, ia, iz, _, ik4, _, _, _, _, _, iez⟩ := tyi_inv hi
 obtain ⟨e, rfl, hes, heb, _⟩ := ik4 hk1
 obtain ⟨inf2, d2, z2, j1, j2, j0, _, _, _, _, _, jk4, _⟩ := tyi_inv hj
 obtain ⟨e2, rfl, _⟩ := jk4 hk2
 obtain ⟨ie, de, he1, he2, he3⟩ := szOf_some (P := P) (t := e) (by rw [← hes]; exact hk3)
 have hez := (iez e (.inl rfl)).2 ie he1
 have hsz : ie.size = i.esize := by rw [he3, hes]
 obtain ⟨ze, hze, hzel⟩ : ∃ ze, ie.zero = some ze ∧ ze.cells.size = i.esize := by
  cases hz0 : ie.zero with
  | none => rw [hz0] at hez; rw [hez] at hk4; simp at hk4; exact absurd hk4.symm hk3
  | some ze => rw [hz0] at hez; rw [hez] at hk4; exact ⟨ze, rfl, by simpa using hk4⟩
 have hbytes : ie.bytes = i.ebytes := by rw [heb]; simp [bytesOf, he1]
 have hx := hρ x
 have hy := hρ y
 rw [hx1] at hx; rw [hy1] at hy
 generalize hcx : ρc x = vx at hx
 generalize hcy : ρc y = vy at hy
 cases hx with | slr _ _ _ hdom hcap => ?_
 cases hy with | sl a2 cap2 _ xs k2 cx hkx hcapx hrunx hrx hccx => ?_
 have hxs' : ∀ e ∈ xs, e.length = i.esize := by
  rw [List.all_eq_true] at hk6; intro e he; simpa using hk6 e he
 obtain ⟨b, off, rfl, hlx, hcellx⟩ := hrunx hne
 have hk2' : k2 = i.esize := by
  cases xs with
  | nil => exact absurd rfl hne
  | cons e0 _ => rw [← hkx e0 (by simp), hxs' e0 (by simp)]
 subst hk2'
 have hfx := flat_len xs i.esize hxs'
 have hpos : 0 < xs.length := List.length_pos_iff.2 hne
 obtain ⟨vs, ⟨ty, hb1⟩, hb2, hb3, hb4, hb5⟩ := r.box id bs hb
 have hmul : (n + xs.length) * i.esize = n * i.esize + xs.length * i.esize := Nat.add_mul _ _ _
 have hncap : n * i.esize ≤ cap * i.esize := Nat.mul_le_mul_right _ hcap
 have f2 := fun w0 hw0 => run_first (P := P) (g := g) (w := w) (a := some ⟨b, off, none⟩) (cap := cap2) (k := i.esize) (es := xs) (cell := cx) (fun _ => ⟨b, off, rfl, hlx, hcellx⟩) w0 hw0
 rw [← hsz] at f2
 have hRx : RVL g w ((List.range (xs.length * ie.size)).map cx).toArray xs.flatten := by
  refine ⟨by simp [hfx, hsz], fun m c v hc hv => ?_⟩
  have hlt : m < xs.flatten.length := (List.getElem?_eq_some_iff.1 hv).1
  simp only [List.getElem?_toArray, List.getElem?_map] at hc
  rw [List.getElem?_range (by rw [hsz]; omega)] at hc
  simp only [Option.map_some, Option.some.injEq] at hc
  subst hc
  exact hrx m v hv
 by_cases hle : n + xs.length ≤ cap
 ·left
  refine ⟨hle, ?_⟩
  have hcm : (n + xs.length) * i.esize ≤ cap * i.esize := Nat.mul_le_mul_right _ hle
  have hone' : ∀ v ∈ (List.range (xs.length * ie.size)).map cx, v.oneCell' = true := by
   intro v hv
   obtain ⟨m, hm, rfl⟩ := List.mem_map.1 hv
   rw [List.mem_range, hsz] at hm
   have hm' : m < xs.flatten.length := by omega
   have := hrx m xs.flatten[m] (List.getElem?_eq_getElem hm')
   rw [List.all_eq_true] at hone
   exact oneCell_of this (hone _ (List.getElem_mem hm'))
  have hst := run_storeCells_at (P := P) (g.loc id) (n * ie.size) ty ((List.range (xs.length * ie.size)).map cx) 0 vs w hb1 (by rw [hsz]; simp; omega) hone'
  have hnew := rvl_spliceP (off := n * ie.size) ⟨hb2, hb3⟩ hRx (by rw [hsz]; omega)
  obtain ⟨hx', hr'⟩ := set_boxP r hb hnew
  have e9 : splice bs (n * ie.size) xs.flatten = splice bs (n * i.esize) xs.flatten := by rw [hsz]
  rw [e9] at hr'
  refine ⟨.slice (some ⟨g.loc id, 0, none⟩) (n + xs.length) cap, _, ?_, hx', hr', ?_⟩
  ·simp only [Nat.add_zero] at hst
   simp [execOp, ho, resolve, invoke, builtin, Builtin.append_, run_underlying i2, run_underlying j2, run_sizeOf' he1, hcx, hcy, Builtin.lenOf, hle, add_off]
   rw [f2 w (fun _ => rfl)]
   simp only [Result.andThen_ok]
   simp at hst
   rw [hst]
   simp
  ·exact .slr id (n + xs.length) cap hdom hle
 ·right
  have hnc := nextcap_le (n + xs.length) cap (by omega)
  generalize hq : w.tape w.drawn (.appendCap (n + xs.length) cap e) % (9223372036854775808 - (n + xs.length)) = q
  have b1 : ¬ ((9223372036854775807 : Int) < ((n : Int) + (xs.length : Int)) ∧ ie.bytes = 0) := by omega
  have b2 : ¬ (281474976710656 < Builtin.nextslicecap (n + xs.length) cap * ie.bytes) := by
   rw [hbytes]
   have : Builtin.nextslicecap (n + xs.length) cap * i.ebytes ≤ 2 * (n + xs.length) * i.ebytes := Nat.mul_le_mul_right _ hnc
   rw [Nat.mul_assoc] at this; omega
  let cell : Nat → Value := fun m => vs[m]?.getD undef
  have hold : ∀ m, m < n * i.esize → w.cell? ⟨g.loc id, 0 + m, none⟩ = some (cell m) := fun m hm => by
   have : m < vs.size := by omega
   simp [World.cell?, hb1, cell, this]
  have f1 := fun w0 hw0 => run_first (P := P) (g := { g with lim := fun _ => n * i.esize }) (w := w) (a := some ⟨g.loc id, 0, none⟩) (cap := cap) (k := i.esize) (es := List.replicate n []) (cell := cell)
   (fun _ => ⟨g.loc id, 0, rfl, by simp, by simpa using hold⟩) w0 hw0
  rw [← hsz, List.length_replicate] at f1
  let arr : Array Value := ((List.range (n * ie.size)).map cell).toArray ++ ((List.range (xs.length * ie.size)).map cx).toArray ++ Builtin.zeroCells ze.cells q
  have hrun : (execOp ρc o).run P w = .ok (.value (.slice (some ⟨w.heap.size, 0, none⟩) (n + xs.length) (n + xs.length + q))) (w.drew.alloc (.cells arr e)) := by
   simp [execOp, ho, resolve, invoke, builtin, Builtin.append_, run_underlying i2, run_underlying j2, run_sizeOf' he1, hcx, hcy, Builtin.lenOf, typeInfo, he1, hle, Question.forced, Question.cut]
   rw [if_neg (by omega)]
   rw [if_neg b2, f1 w.drew (fun _ => rfl)]
   simp only [Result.andThen_ok]
   rw [f2 w.drew (fun _ => rfl)]
   simp [zeroValue, typeInfo, he1, hze, newRow, hq, arr]
  have hRo : RVL g w ((List.range (n * ie.size)).map cell).toArray (bs.take (n * i.esize)) := by
   refine ⟨by simp [hsz]; omega, fun m c v hc hv => ?_⟩
   have hlt : m < n * i.esize := by
    have := (List.getElem?_eq_some_iff.1 hv).1
    rw [List.length_take] at this; omega
   rw [List.getElem?_take, if_pos hlt] at hv
   simp only [List.getElem?_toArray, List.getElem?_map] at hc
   rw [List.getElem?_range (by rw [hsz]; omega)] at hc
   simp only [Option.map_some, Option.some.injEq] at hc
   subst hc
   have hm : m < vs.size := by omega
   have : cell m = vs[m] := by simp [cell, hm]
   rw [this]
   exact hb3 m _ v (by simp [hm]) hv
  have hv : RVL g w.drew arr (bs.take (n * i.esize) ++ xs.flatten ++ List.replicate (q * i.esize) .undef) := by
   have hx' := Ext.drew g w
   have ea : ((List.range (n * ie.size)).map cell).toArray.size = n * i.esize := by simp [hsz]
   have ex : ((List.range (xs.length * ie.size)).map cx).toArray.size = xs.length * i.esize := by simp [hsz]
   have eb : (bs.take (n * i.esize)).length = n * i.esize := by simp; omega
   refine ⟨by simp only [arr, Array.size_append, zero_size, hzel, ea, ex]; simp [hfx]; omega, fun m c v hc hv => ?_⟩
   simp only [arr] at hc
   by_cases h1 : m < n * i.esize
   ·rw [List.append_assoc, List.getElem?_append_left (by omega)] at hv
    rw [Array.append_assoc, Array.getElem?_append_left (by omega)] at hc
    exact (hRo.2 m c v hc hv).mono hx'
   ·rw [List.append_assoc, List.getElem?_append_right (by omega), eb] at hv
    rw [Array.append_assoc, Array.getElem?_append_right (by omega), ea] at hc
    by_cases h2 : m - n * i.esize < xs.length * i.esize
    ·rw [List.getElem?_append_left (by omega)] at hv
     rw [Array.getElem?_append_left (by omega)] at hc
     exact (hRx.2 _ c v hc hv).mono hx'
    ·rw [List.getElem?_append_right (by omega), List.getElem?_replicate] at hv
     split at hv
     ·cases hv; exact .undef _
     ·cases hv
  obtain ⟨g', hx', hr', hv'⟩ := new_box (r.drew) hn hv e
  refine ⟨q, _, _, g', hrun, (Ext.drew g w).trans hx', hr', ?_⟩
  generalize hp : Value.pointer (some ⟨w.drew.heap.size, 0, none⟩) = p at hv'
  cases hv' with
  | ptr _ _ hd =>
   simp only [Value.pointer.injEq, Option.some.injEq, Addr.mk.injEq] at hp
   rw [show w.heap.size = g'.loc nid from hp.1]
   exact .slr nid (n + xs.length) (n + xs.length + q) hd (by omega)
def RelD (ds : List Deferred) (env : Nat → Option (List V)) (n : Nat) (g : G) (w : World) (a : Act) (σ : St) : Prop := RelSt env n g w { a with defers := [] } σ ∧ a.defers = ds
theorem RelD.of {env : Nat → Option (List V)} {n : Nat} {g : G} {w : World} {a : Act} {σ : St} (r : RelSt env n g w a σ) : RelD [] env n g w a σ := by
 have h := r.defers
 obtain ⟨t, d⟩ := a
 simp only at h
 subst h
 exact ⟨r, rfl⟩
theorem RelD.st {env : Nat → Option (List V)} {n : Nat} {g : G} {w : World} {a : Act} {σ : St} (r : RelD [] env n g w a σ) : RelSt env n g w a σ := by
 obtain ⟨r, h⟩ := r
 obtain ⟨t, d⟩ := a
 simp only at h
 subst h
 exact r
theorem RelD.av {ds : List Deferred} {env : Nat → Option (List V)} {n : Nat} {g : G} {w : World} {a : Act} {σ : St} (r : RelD ds env n g w a σ) (x : Operand) : RV g w (a.eval x) (av env σ.tm x) := rv_av r.1 x
theorem put_defers {a : Act} {d : Option Tmp} {v : Value} : { a.put d v with defers := [] } = ({ a with defers := [] } : Act).put d v ∧ (a.put d v).defers = a.defers := by
 cases d <;> exact ⟨rfl, rfl⟩
theorem RelD.put {ds : List Deferred} {env : Nat → Option (List V)} {n : Nat} {g : G} {w : World} {a : Act} {σ : St} (r : RelD ds env n g w a σ) {g' : G} {w' : World} (x : Ext g w g' w')
  {d : Option Nat} (hd : ∀ t, d = some t → t < n) {c : Value} {v : V} {h' : H} (hr : Rel env g' w' h') (hv : RV g' w' c v) : RelD ds env n g' w' (a.put d c) ⟨upd σ.tm d v, h'⟩ :=
 ⟨by rw [put_defers.1]; exact r.1.put x hd hr hv, by rw [put_defers.2]; exact r.2⟩
section
variable {F : Fence} (hF : ∀ f, F.fn f) (hdp : F.depth = none) {m : Nat} {ds : List Deferred}
include hF hdp
theorem stp_wpIn {P : Program} {env : Nat → Option (List V)} {n : Nat} {g : G} {w : World} {a : Act} {σ : St} {nid : Id} {o : Oper} {eff : Eff}
  (hc : ∀ k args w R, Calls P k args w R → CallsIn F (m - 1) P k args w R)
  (hs : Stp P env (av env σ.tm) σ.h nid o.op eff) (r : RelD ds env n g w a σ) (hd : ∀ t, o.dst = some t → t < n) {next : Act → World → Prop} {Q : Exit → Act → World → Prop}
  (hn : ∀ g' a' w', Ext g w g' w' → RelD ds env n g' w' a' (σ.put o.dst eff) → next a' w') : o.wpIn F m P a w next Q := by
 have hnd : ∀ c, o.op ≠ .defer c := by
  intro c hc
  rcases hs with hs | ⟨c', hc', _⟩
  ·rw [hc] at hs; simp [prim, primH, primV] at hs
  ·rw [hc] at hc'; cases hc'
 refine ⟨fun f _ => hF f, ?_⟩
 rw [Oper.semAt_plain F _ _ hnd]
 rcases hs with hs | ⟨c, hc0, hs⟩
 ·obtain ⟨cv, w', g', hrun, hx, hr, hv⟩ := prim_sound r.1.rel (fun x => r.av x) hs
  have := hn g' (a.put o.dst cv) w' hx (r.put hx hd hr hv)
  rcases hrun with hrun | ⟨hrun, rfl⟩
  ·simpa only [hrun, Oper.uponIn_value] using this
  ·simpa only [hrun, Oper.uponIn_skip] using this
 ·obtain ⟨k, vs, hrun, hcall⟩ := callEff_run r.1.rel (fun x => r.av x) hc0 hs
  simp only [hrun, Oper.uponIn_enter]
  refine ⟨fun h => by rw [hdp] at h; simp at h, (hc _ _ _ _ hcall).mono ?_⟩
  rintro e w' ⟨cv, g', rfl, hx', hr', hv'⟩
  exact hn g' _ w' hx' (r.put hx' hd hr' hv')
end
section
variable {F : Fence} (hF : ∀ f, F.fn f) (hdp : F.depth = none) {m : Nat} {ds : List Deferred}
variable {P : Program} (hcl : ∀ k args w R, Calls P k args w R → CallsIn F (m - 1) P k args w R)
variable {env : Nat → Option (List V)} {ops : Array Oper} {gen reg n : Nat} (hn : dstOk n ops = true)
include hF hdp hcl hn
theorem cstep_wpIn {x : Nat × Option Eff} {σ σ' : St} (h : CStep P env ops gen reg x σ σ') {g : G} {w : World} {a : Act} (r : RelD ds env n g w a σ)
  {K : Act → World → Prop} {Q : Exit → Act → World → Prop} (hk : ∀ g' a' w', Ext g w g' w' → RelD ds env n g' w' a' σ' → K a' w') : wpOpIn F m P ops Q x.1 K a w := by
 obtain ⟨o, ho, h⟩ := h
 unfold wpOpIn
 rw [ho]
 simp only
 cases hx : x.2 with
 | some e =>
  rw [hx] at h
  obtain ⟨hg, hs, rfl⟩ := h
  rw [gwant_sound r.1 hg]
  simp only [if_true]
  exact stp_wpIn hF hdp hcl hs r (dstOk_at hn ho) hk
 | none =>
  rw [hx] at h
  obtain ⟨hg, rfl⟩ := h
  rw [gwant_sound r.1 hg]
  simp only [Bool.false_eq_true, if_false]
  exact ⟨fun f _ => hF f, hk g _ w (Ext.refl g w) (r.put (Ext.refl g w) (dstOk_at hn ho) r.1.rel (.tup _ _ rfl (by simp)))⟩
end
section
variable {F : Fence} (hF : ∀ f, F.fn f) (hdp : F.depth = none) {m : Nat} {ds : List Deferred}
variable {P : Program} (hcl : ∀ k args w R, Calls P k args w R → CallsIn F (m - 1) P k args w R)
variable {env : Nat → Option (List V)} {ops : Array Oper} {gen reg n : Nat} (hn : dstOk n ops = true) (hok : drawOk ops = true)
include hF hdp hcl hn hok
end
structure XC where
 F : Fence
 ds : List Deferred
 X : G → World → Prop
 E : Exit → Act → World → Prop
section
variable {c : Ctx} {x : XC} {gen : Nat} {k : List It} {σ : St}
end
section
variable {P : Program} {env : Nat → Option (List V)} {g : G} {w : World} {h : H} {ρc : Operand → Value} (r : Rel env g w h)
include r
end
theorem aops_preD {P : Program} {env : Nat → Option (List V)} {ops : Array Oper} {draw : Bool} {gen reg : Nat} {K : St → Prop} :
  ∀ (rest : List Oper) (i : Nat) (log : List LogE) (σ : St) (done : List (Nat × Option Eff)), (∀ j o, rest[j]? = some o → ops[i + j]? = some o) →
   (∀ x ∈ done, ∀ e, x.2 = some e → e.reads = [] ∨ (x.1, e.reads, e.writes.map (·.1)) ∈ log) → (∀ x ∈ done, ∀ e, x.2 = some e → ∀ p ∈ e.writes, p.1 ∈ e.reads) →
   aops P env ops draw gen reg rest i log K σ →
   ∃ l σe, l.map (·.1) = (List.range rest.length).map (i + ·) ∧ Chain P env ops gen reg l σ σe ∧ K σe ∧
    (draw = true → l.Pairwise (PairOk ops) ∧ ∀ x ∈ done, ∀ y ∈ l, PairOk ops x y)
 | [], i, log, σ, done, _, _, _, h => ⟨[], σ, rfl, .nil σ, h, fun _ => ⟨.nil, by simp⟩⟩
 | o :: rest, i, log, σ, done, hr, hl, hw, h => by
  have ho : ops[i]? = some o := by have := hr 0 o; simpa using this
  have hr' : ∀ j p, rest[j]? = some p → ops[i + 1 + j]? = some p := fun j p hp => by
   have := hr (j + 1) p (by simpa using hp)
   rw [show i + (j + 1) = i + 1 + j by omega] at this
   exact this
  have hidx : i :: (List.range rest.length).map (i + 1 + ·) = (List.range (o :: rest).length).map (i + ·) := by
   rw [List.length_cons, List.range_succ_eq_map, List.map_cons, List.map_map]
   simp only [Nat.add_zero]
   congr 1
   apply List.map_congr_left
   intro j _; simp; omega
  rcases aops_stp h with ⟨hg, h'⟩ | ⟨hg, e, hs, hlog, h'⟩
  ·obtain ⟨l, σe, h1, h2, h3, h4⟩ := aops_preD rest (i + 1) log _ ((i, none) :: done) hr'
    (fun x hx e he => by
     rcases List.mem_cons.1 hx with rfl | hx
     ·simp at he
     ·exact hl x hx e he)
    (fun x hx e he => by
     rcases List.mem_cons.1 hx with rfl | hx
     ·simp at he
     ·exact hw x hx e he) h'
   refine ⟨(i, none) :: l, σe, by rw [List.map_cons, h1]; exact hidx, .cons _ _ _ _ _ ⟨o, ho, hg, rfl⟩ h2, h3, fun hd => ?_⟩
   obtain ⟨h5, h6⟩ := h4 hd
   refine ⟨List.pairwise_cons.2 ⟨fun y hy => h6 _ (by simp) y hy, h5⟩, fun x hx y hy => ?_⟩
   rcases List.mem_cons.1 hy with rfl | hy
   ·right
    unfold indepE
    cases x.2 <;> trivial
   ·exact h6 x (by simp [hx]) y hy
  ·have hws := stp_writes hs
   obtain ⟨l, σe, h1, h2, h3, h4⟩ := aops_preD rest (i + 1) (addLog i e log) _ ((i, some e) :: done) hr'
    (fun x hx e' he => by
     unfold addLog
     rcases List.mem_cons.1 hx with rfl | hx
     ·cases he
      cases hre : e.reads with
      | nil => exact .inl rfl
      | cons r rs => right; simp
     ·rcases hl x hx e' he with h | h
      ·exact .inl h
      ·right
       split
       ·exact h
       ·simp [h])
    (fun x hx e' he => by
     rcases List.mem_cons.1 hx with rfl | hx
     ·cases he; exact hws
     ·exact hw x hx e' he) h'
   refine ⟨(i, some e) :: l, σe, by rw [List.map_cons, h1]; exact hidx, .cons _ _ _ _ _ ⟨o, ho, hg, hs, rfl⟩ h2, h3, fun hd => ?_⟩
   obtain ⟨h5, h6⟩ := h4 hd
   refine ⟨List.pairwise_cons.2 ⟨fun y hy => h6 _ (by simp) y hy, h5⟩, fun x hx y hy => ?_⟩
   rcases List.mem_cons.1 hy with rfl | hy
   ·unfold PairOk indepE
    cases hx2 : x.2 with
    | none => right; trivial
    | some ex =>
     simp only
     rcases hl x hx ex hx2 with he | hm
     ·right
      have hwx := hw x hx ex hx2
      refine ⟨fun p hp => ?_, fun p hp => ?_⟩
      ·have := hwx p hp; rw [he] at this; simp at this
      ·rw [he]; simp
     ·rcases logOk_spec (hlog hd) _ _ _ hm with h | ⟨ha, hb⟩
      ·exact .inl h
      ·right
       exact ⟨fun p hp => hb p.1 (List.mem_map.2 ⟨p, hp, rfl⟩), ha⟩
   ·exact h6 x (by simp [hx]) y hy
def TailW (ops : Array Oper) (t0 : Nat) : Prop := ∀ listed : Array Bool, (∀ j o, ops[j]? = some o → listed.getD j false = true → ∀ e ∈ o.after, Region.binds .any e = true → listed.getD e.on false = true) →
 ∀ i o, t0 ≤ i → ops[i]? = some o → (∀ e ∈ o.after, Region.binds .any e = true → listed.getD e.on false = true) → ∀ j, j < t0 → j < ops.size → listed.getD j false = true
def frontL (n t0 : Nat) : Array Bool := ((List.range n).map fun i => decide (i < t0)).toArray
theorem frontL_of {listed : Array Bool} {n t0 : Nat} (hs : listed.size = n) (h : ∀ i, i < n → (listed.getD i true = false ↔ t0 ≤ i)) : listed = frontL n t0 := by
 apply Array.ext
 ·simp [frontL, hs]
 ·intro i h1 h2
  have := h i (by omega)
  simp [h1] at this
  simp only [frontL, List.getElem_toArray, List.getElem_map, List.getElem_range]
  by_cases hi : t0 ≤ i
  ·have e := this.2 hi
   rw [e]; simp; omega
  ·cases e : listed[i] with
   | false => exact absurd (this.1 e) hi
   | true => simp; omega
section
variable {F : Fence} (hF : ∀ f, F.fn f) (hdp : F.depth = none) {m : Nat} {ds : List Deferred}
variable {P : Program} (hcl : ∀ k args w R, Calls P k args w R → CallsIn F (m - 1) P k args w R)
variable {env : Nat → Option (List V)} {ops : Array Oper} {gen reg n : Nat} (hn : dstOk n ops = true) (hok : drawOk ops = true)
include hF hdp hcl hn hok
theorem chain_preG {t0 : Nat} (ht : TailW ops t0) (hle : t0 ≤ ops.size) {Q : Exit → Act → World → Prop} {σe : St} {g0 : G} {w0 : World}
  (hk : ∀ fuel g' a' w', ops.size - t0 ≤ fuel → Ext g0 w0 g' w' → RelD ds env n g' w' a' σe → wpAnyIn F m P .any ops Q fuel (frontL ops.size t0) a' w') :
  ∀ (fuel : Nat) (l : List (Nat × Option Eff)) (listed : Array Bool) (σ : St) (g : G) (w : World) (a : Act), l.length + (ops.size - t0) ≤ fuel → listed.size = ops.size →
   (∀ i, (∃ x ∈ l, x.1 = i) ↔ (i < t0 ∧ listed.getD i true = false)) → (∀ i, t0 ≤ i → i < ops.size → listed.getD i true = false) → l.Pairwise (fun x y => x.1 < y.1) → l.Pairwise (PairOk ops) →
   (∀ j o, ops[j]? = some o → listed.getD j false = true → ∀ e ∈ o.after, Region.binds .any e = true → listed.getD e.on false = true) →
   Chain P env ops gen reg l σ σe → Ext g0 w0 g w → RelD ds env n g w a σ → wpAnyIn F m P .any ops Q fuel listed a w := by
 obtain ⟨htab, hsp⟩ := drawOk_spec hok
 intro fuel
 induction fuel with
 | zero =>
  intro l listed σ g w a hl hsz hm htl hp hpo hc hch hx r
  have : l = [] := List.eq_nil_of_length_eq_zero (by omega)
  subst this
  cases hch
  have e : listed = frontL ops.size t0 := frontL_of hsz fun i hi => ⟨fun h => Nat.le_of_not_lt fun hlt => by
   obtain ⟨x, hx, _⟩ := (hm i).2 ⟨hlt, h⟩; simp at hx, fun h => htl i h hi⟩
  rw [e]
  exact hk 0 g a w (by omega) hx r
 | succ fuel ih =>
  intro l listed σ g w a hl hsz hm htl hp hpo hc hch hx r
  cases l with
  | nil =>
   cases hch
   have e : listed = frontL ops.size t0 := frontL_of hsz fun i hi => ⟨fun h => Nat.le_of_not_lt fun hlt => by
    obtain ⟨x, hx, _⟩ := (hm i).2 ⟨hlt, h⟩; simp at hx, fun h => htl i h hi⟩
   rw [e]
   exact hk (fuel + 1) g a w (by simpa using hl) hx r
  | cons x0 l0 =>
  have hx0 := (hm x0.1).1 ⟨x0, by simp, rfl⟩
  have hx0sz : x0.1 < ops.size := by omega
  have hrd : x0.1 ∈ Region.ready .any ops listed := by
   rw [mem_ready]
   refine ⟨hx0.2, ops[x0.1]'hx0sz, Array.getElem?_eq_getElem hx0sz, fun e he hb => ?_⟩
   have hlt := (hsp x0.1 _ (Array.getElem?_eq_getElem hx0sz)).1 e he hb
   cases hq : listed.getD e.on false with
   | true => rfl
   | false =>
    have hsz' : e.on < listed.size := by omega
    have : listed.getD e.on true = false := by
     simp [hsz'] at hq ⊢; exact hq
    obtain ⟨y, hy, e1⟩ := (hm e.on).2 ⟨by omega, this⟩
    rcases List.mem_cons.1 hy with rfl | hy
    ·omega
    ·have := (List.pairwise_cons.1 hp).1 y hy; omega
  refine ⟨fun hr => by rw [hr] at hrd; simp at hrd, fun i hi => ?_⟩
  ·have hi' := mem_ready.1 hi
   obtain ⟨h1, o, ho, hd⟩ := hi'
   have hisz : i < ops.size := (Array.getElem?_eq_some_iff.1 ho).1
   have hit : i < t0 := by
    refine Nat.lt_of_not_le fun hge => ?_
    have h2 := ht listed hc i o hge ho hd x0.1 hx0.1 hx0sz
    have h3 := hx0.2
    have hsz' : x0.1 < listed.size := by omega
    simp [hsz'] at h2 h3
    rw [h2] at h3; exact Bool.noConfusion h3
   obtain ⟨x, hxl, rfl⟩ := (hm i).2 ⟨hit, h1⟩
   obtain ⟨pre, post, hpp⟩ := List.append_of_mem hxl
   rw [hpp] at hl hm hp hpo hch
   have hpull := pull (P := P) (env := env) (gen := gen) (reg := reg) ho pre post σ σe (fun y hy => by
    have hy' := (hm y.1).1 ⟨y, by simp [hy], rfl⟩
    have hysz : y.1 < ops.size := by omega
    have hlt : y.1 < x.1 := (List.pairwise_append.1 hp).2.2 y hy x (by simp)
    have hpk : PairOk ops y x := (List.pairwise_append.1 hpo).2.2 y hy x (by simp)
    have hnord : ordB ops y.1 x.1 ≠ true := by
     intro hb
     have := ord_listed htab hc x.1 o ho hd y.1 hysz hb
     have h2 := hy'.2
     have hsz' : y.1 < listed.size := by rw [hsz]; exact hysz
     simp [hsz'] at this h2
     rw [this] at h2; exact Bool.noConfusion h2
    refine ⟨ops[y.1]'hysz, Array.getElem?_eq_getElem hysz, ?_, ?_⟩
    ·exact ((hsp x.1 o ho).2 y.1 _ hlt (Array.getElem?_eq_getElem hysz)).resolve_left hnord
    ·exact hpk.resolve_left hnord) hch
   cases hpull with
   | cons _ _ _ σ1 _ hs t =>
    refine cstep_wpIn hF hdp hcl hn hs r fun g' a' w' hx' r' => ?_
    have hsub : (pre ++ post).Sublist (pre ++ x :: post) := List.Sublist.append_left (List.sublist_cons_self x post) pre
    refine ih (pre ++ post) (listed.setIfInBounds x.1 true) σ1 g' w' a' (by simp at hl ⊢; omega) (by simpa using hsz) ?_ ?_ (hp.sublist hsub) (hpo.sublist hsub) ?_ t (hx.trans hx') r'
    ·intro i
     constructor
     ·rintro ⟨y, hy, rfl⟩
      have hy2 := (hm y.1).1 ⟨y, hsub.subset hy, rfl⟩
      have hne : x.1 ≠ y.1 := by
       rcases List.mem_append.1 hy with hy | hy
       ·have := (List.pairwise_append.1 hp).2.2 y hy x (by simp); omega
       ·have := (List.pairwise_cons.1 (List.pairwise_append.1 hp).2.1).1 y hy; omega
      exact ⟨hy2.1, by rw [getD_set_ne true hne]; exact hy2.2⟩
     ·rintro ⟨hi1, hi2⟩
      have hne : x.1 ≠ i := by
       intro e; subst e
       have : x.1 < listed.size := by rw [hsz]; exact hisz
       simp [this] at hi2
      rw [getD_set_ne true hne] at hi2
      obtain ⟨y, hy, rfl⟩ := (hm i).2 ⟨hi1, hi2⟩
      rcases List.mem_append.1 hy with hy | hy
      ·exact ⟨y, by simp [hy], rfl⟩
      ·rcases List.mem_cons.1 hy with rfl | hy
       ·exact absurd rfl hne
       ·exact ⟨y, by simp [hy], rfl⟩
    ·intro i hi1 hi2
     rw [getD_set_ne true (by omega)]
     exact htl i hi1 hi2
    ·intro j o' ho' hj e he hb
     by_cases hjx : x.1 = j
     ·subst hjx
      rw [ho] at ho'; cases ho'
      exact getD_set_true (hd e he hb)
     ·rw [getD_set_ne false hjx] at hj
      exact getD_set_true (hc j o' ho' hj e he hb)
end
section
variable {F : Fence} (hF : ∀ f, F.fn f) {m : Nat} {P : Program} {ops : Array Oper}
include hF
theorem plain_wpIn {o : Oper} {a : Act} {w : World} {K : Act → World → Prop} {Q : Exit → Act → World → Prop} {v : Value} {w' : World} (hnd : ∀ c, o.op ≠ .defer c)
  (hrun : (execOp a.eval o).run P w = .ok (.value v) w' ∨ ((execOp a.eval o).run P w = .ok .skip w' ∧ v = undef)) (h : K (a.put o.dst v) w') : o.wpIn F m P a w K Q := by
 refine ⟨fun f _ => hF f, ?_⟩
 rw [Oper.semAt_plain F _ _ hnd]
 rcases hrun with hr | ⟨hr, rfl⟩
 ·rw [hr]; exact h
 ·rw [hr]; exact h
theorem any_one {i : Nat} {o : Oper} {a : Act} {w : World} {Q : Exit → Act → World → Prop} {fuel : Nat} {listed : Array Bool} {v : Value} {w' : World} (hr : i ∈ Region.ready .any ops listed) (ho : ops[i]? = some o) (hg : o.guard = none) (hnd : ∀ c, o.op ≠ .defer c)
  (hrun : (execOp a.eval o).run P w = .ok (.value v) w' ∨ ((execOp a.eval o).run P w = .ok .skip w' ∧ v = undef)) (h : wpAnyIn F m P .any ops Q fuel (listed.setIfInBounds i true) (a.put o.dst v) w') :
  wpOpIn F m P ops Q i (wpAnyIn F m P .any ops Q fuel (listed.setIfInBounds i true)) a w := by
 unfold wpOpIn
 rw [ho]
 have hw : Region.wanted o (yielded ops a.tmps) = true := by unfold Region.wanted; rw [hg]
 simp only [hw, if_true]
 exact plain_wpIn hF hnd hrun h
end
section
variable {F : Fence} (hF : ∀ f, F.fn f) {m : Nat} {ds : List Deferred} {P : Program} {env : Nat → Option (List V)} {ops : Array Oper} {n : Nat}
include hF
end
end GoAbs
