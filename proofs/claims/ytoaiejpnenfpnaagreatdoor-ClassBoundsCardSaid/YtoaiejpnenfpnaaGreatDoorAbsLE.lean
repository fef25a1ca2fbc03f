/-
  The abstract layer: plain laws.
-/
import Derived.Test.YtoaiejpnenfpnaaGreatDoorAbsLD
set_option linter.unusedSimpArgs false
set_option linter.unusedVariables false
set_option linter.unusedSectionVars false
namespace GoAbs
open Go

mutual
def Tm.same : Tm → Tm → Bool
  | .mk k i t l, .mk k' i' t' l' => k == k' && i == i' && Ty.same t t' && Tm.sameL l l'
def Tm.sameL : List Tm → List Tm → Bool
  | [], [] => true
  | a :: l, b :: l' => Tm.same a b && Tm.sameL l l'
  | _, _ => false
end
theorem Tm.same_eq (a b : Tm) : Tm.same a b = (a.kind == b.kind && a.index == b.index && Ty.same a.type b.type && Tm.sameL a.args b.args) := by
  cases a; cases b; simp [Tm.same, Tm.kind, Tm.index, Tm.type, Tm.args]
mutual
def Fm.same : Fm → Fm → Bool
  | .mk k t l a, .mk k' t' l' a' => k == k' && Ty.same t t' && Tm.sameL l l' && Fm.sameL a a'
def Fm.sameL : List Fm → List Fm → Bool
  | [], [] => true
  | a :: l, b :: l' => Fm.same a b && Fm.sameL l l'
  | _, _ => false
end
theorem Fm.same_eq (a b : Fm) : Fm.same a b = (a.kind == b.kind && Ty.same a.type b.type && Tm.sameL a.terms b.terms && Fm.sameL a.args b.args) := by
  cases a; cases b; simp [Fm.same, Fm.kind, Fm.type, Fm.terms, Fm.args]
mutual
theorem Tm.same_refl : ∀ a : Tm, Tm.same a a = true
  | .mk k i t l => by simp [Tm.same, Ty.same_refl, Tm.sameL_refl l]
theorem Tm.sameL_refl : ∀ l : List Tm, Tm.sameL l l = true
  | [] => by simp [Tm.sameL]
  | x :: l => by simp [Tm.sameL, Tm.same_refl x, Tm.sameL_refl l]
end
mutual
theorem Fm.same_refl : ∀ a : Fm, Fm.same a a = true
  | .mk k t l a => by simp [Fm.same, Ty.same_refl, Tm.sameL_refl, Fm.sameL_refl a]
theorem Fm.sameL_refl : ∀ l : List Fm, Fm.sameL l l = true
  | [] => by simp [Fm.sameL]
  | x :: l => by simp [Fm.sameL, Fm.same_refl x, Fm.sameL_refl l]
end
mutual
theorem Tm.same_true : ∀ {a b : Tm}, Tm.same a b = true → a = b
  | .mk k i t l, .mk k' i' t' l', h => by
    simp only [Tm.same, Bool.and_eq_true, beq_iff_eq] at h
    rw [h.1.1.1, h.1.1.2, Ty.same_true h.1.2, Tm.sameL_true h.2]
theorem Tm.sameL_true : ∀ {a b : List Tm}, Tm.sameL a b = true → a = b
  | [], [], _ => rfl
  | x :: l, y :: l', h => by
    simp only [Tm.sameL, Bool.and_eq_true] at h
    rw [Tm.same_true h.1, Tm.sameL_true h.2]
  | [], _ :: _, h => by simp [Tm.sameL] at h
  | _ :: _, [], h => by simp [Tm.sameL] at h
end
mutual
theorem Fm.same_true : ∀ {a b : Fm}, Fm.same a b = true → a = b
  | .mk k t l a, .mk k' t' l' a', h => by
    simp only [Fm.same, Bool.and_eq_true, beq_iff_eq] at h
    rw [h.1.1.1, Ty.same_true h.1.1.2, Tm.sameL_true h.1.2, Fm.sameL_true h.2]
theorem Fm.sameL_true : ∀ {a b : List Fm}, Fm.sameL a b = true → a = b
  | [], [], _ => rfl
  | x :: l, y :: l', h => by
    simp only [Fm.sameL, Bool.and_eq_true] at h
    rw [Fm.same_true h.1, Fm.sameL_true h.2]
  | [], _ :: _, h => by simp [Fm.sameL] at h
  | _ :: _, [], h => by simp [Fm.sameL] at h
end

mutual
/-- A fold over the variables of a term, with the number of functions that each is below. -/
def Tm.eachF {α : Type} (F : Int → Int → α → α) : Tm → Int → α → α
  | .mk k i _ l, b, s => Tm.eachL F l (if k == 2 then addW b 1 else b) (if k == 1 then F i b s else s)
def Tm.eachL {α : Type} (F : Int → Int → α → α) : List Tm → Int → α → α
  | [], _, s => s
  | t :: l, b, s => Tm.eachL F l b (Tm.eachF F t b s)
end
theorem Tm.eachF_eq {α : Type} (F : Int → Int → α → α) (t : Tm) (b : Int) (s : α) :
    t.eachF F b s = Tm.eachL F t.args (if t.kind == 2 then addW b 1 else b) (if t.kind == 1 then F t.index b s else s) := by cases t; rw [Tm.eachF]; rfl
theorem Tm.eachL_nil {α : Type} {F : Int → Int → α → α} {b : Int} {s : α} : Tm.eachL F [] b s = s := by rw [Tm.eachL]
theorem Tm.eachL_cons {α : Type} {F : Int → Int → α → α} {b : Int} {s : α} {t : Tm} {l : List Tm} : Tm.eachL F (t :: l) b s = Tm.eachL F l b (t.eachF F b s) := by rw [Tm.eachL]
def countF (a i b n : Int) : Int := if subW i b == a then addW n 1 else n
def Tm.count (t : Tm) (a : Int) : Int := t.eachF (countF a) 0 0
def nearF (i _b : Int) (s : Bool) : Bool := s && decide (i ≤ 536870912)
def Tm.near (t : Tm) : Bool := t.eachF nearF 0 true

def zeroT : Tm := .mk 0 0 (.mk 0 []) []
theorem zeroT_W : TmW zeroT := .mk _ _ _ _ tZero_W (by simp) (by simp)
def fa (f : Fm) (i : Nat) : Fm := f.args.getD i zeroF
def ft (f : Fm) (i : Nat) : Tm := f.terms.getD i zeroT
def ta (t : Tm) (i : Nat) : Tm := t.args.getD i zeroT
theorem fa_at {f x : Fm} {i : Nat} (h : f.args[i]? = some x) : fa f i = x := by unfold fa; rw [List.getD_eq_getElem?_getD, h]; rfl
theorem ft_at {f : Fm} {x : Tm} {i : Nat} (h : f.terms[i]? = some x) : ft f i = x := by unfold ft; rw [List.getD_eq_getElem?_getD, h]; rfl
theorem ta_at {t x : Tm} {i : Nat} (h : t.args[i]? = some x) : ta t i = x := by unfold ta; rw [List.getD_eq_getElem?_getD, h]; rfl

def lessF (s t : Tm) : Fm := fmEq (tm0 3 [tm0 3 [subT, tm0 5 [s]], t]) (tm0 4 [])
theorem lessF_W {s t : Tm} (hs : TmW s) (ht : TmW t) : FmW (lessF s t) := fmEq_W (tm0_W2 (tm0_W2 subT_W (tm0_W1 hs)) ht) tm0_W0

/-- Is the formula a bounded quantifier, as far as its head? -/
def bndHead (f : Fm) : Bool :=
  !(f.kind != (if f.kind == 4 then 4 else 5)) && !(f.type.kind != 1) && !((fa f 0).kind != (if f.kind == 4 then 3 else 2)) && !((fa (fa f 0) 0).kind != 1)
def bndSide (f : Fm) : Tm := ft (fa (fa f 0) 0) 0
def bndTerm (f : Fm) : Tm := ta (bndSide f) 1
def bndBody (f : Fm) : Fm := fa (fa f 0) 1
def bndRest (f : Fm) : Bool := !((bndSide f).kind != 3) && !decide ((bndTerm f).count 0 > 0) && Fm.same (fa (fa f 0) 0) (lessF (tmVar 0) (bndTerm f))
def isBnd (f : Fm) : Bool := bndHead f && bndRest f
/-- What 'bound' returns. -/
def boundV (f : Fm) : V := if isBnd f then .tup [.bool (f.kind == 4), .agg (bndTerm f).cells, .agg (bndBody f).cells, .bool true]
  else .tup [.bool false, .agg zeroT.cells, .agg zeroF.cells, .bool false]

structure Fl where
  c : Bool
  f : Bool
  d : Bool
def Fl.z : Fl := ⟨false, false, false⟩
def Fl.n (x : Fl) : Int := (if x.c then 1 else 0) + (if x.f then 2 else 0) + (if x.d then 4 else 0)
theorem Fl.and (x y : Fl) : bandI .u8 x.n y.n = (Fl.mk (x.c && y.c) (x.f && y.f) (x.d && y.d)).n := by
  obtain ⟨a, b, c⟩ := x; obtain ⟨d, e, f⟩ := y
  revert a b c d e f; decide
theorem Fl.or (x y : Fl) : borI .u8 x.n y.n = (Fl.mk (x.c || y.c) (x.f || y.f) (x.d || y.d)).n := by
  obtain ⟨a, b, c⟩ := x; obtain ⟨d, e, f⟩ := y
  revert a b c d e f; decide
theorem Fl.and6 (x : Fl) : bandI .u8 x.n 6 = (Fl.mk false x.f x.d).n := by have := Fl.and x ⟨false, true, true⟩; simpa [Fl.n] using this
theorem Fl.and1 (x : Fl) : bandI .u8 x.n 1 = (Fl.mk x.c false false).n := by have := Fl.and x ⟨true, false, false⟩; simpa [Fl.n] using this
theorem Fl.and2 (x : Fl) : bandI .u8 x.n 2 = (Fl.mk false x.f false).n := by have := Fl.and x ⟨false, true, false⟩; simpa [Fl.n] using this
theorem Fl.and4 (x : Fl) : bandI .u8 x.n 4 = (Fl.mk false false x.d).n := by have := Fl.and x ⟨false, false, true⟩; simpa [Fl.n] using this
theorem Fl.or1 (x : Fl) : borI .u8 x.n 1 = (Fl.mk true x.f x.d).n := by have := Fl.or x ⟨true, false, false⟩; simpa [Fl.n] using this

/-- The classes of a formula out of those of its parts and of the parts of these. -/
def flag (k : Int) (b : Bool) (is : List (Fl × List Fl)) : Fl :=
  if k == 1 then ⟨false, true, true⟩
  else if k == 2 || k == 3 then
    ⟨(is.getD 1 (.z, [])).1.c || (k == 2 && (is.getD 0 (.z, [])).1.c), (is.getD 0 (.z, [])).1.f && (is.getD 1 (.z, [])).1.f, (is.getD 0 (.z, [])).1.d && (is.getD 1 (.z, [])).1.d⟩
  else ⟨(is.getD 0 (.z, [])).1.c || k == 5, false, b && ((is.getD 0 (.z, [])).2.getD 1 .z).d⟩
mutual
def Fm.info : Fm → Fl × List Fl
  | .mk k t l a => (flag k (isBnd (.mk k t l a)) (Fm.infoL a), (Fm.infoL a).map (·.1))
def Fm.infoL : List Fm → List (Fl × List Fl)
  | [] => []
  | f :: l => f.info :: Fm.infoL l
end
def Fm.fl (f : Fm) : Fl := f.info.1
theorem Fm.fl_eqn {x y : Tm} : (fmEq x y).fl = ⟨false, true, true⟩ := by simp [Fm.fl, fmEq, Fm.info, flag]
theorem Fm.fl_1 {f : Fm} (h : f.kind = 1) : f.fl = ⟨false, true, true⟩ := by cases f; simp only [Fm.kind] at h; subst h; simp [Fm.fl, Fm.info, flag]
theorem Fm.fl_2 {f a b : Fm} (h : f.kind = 2 ∨ f.kind = 3) (ha : f.args = [a, b]) :
    f.fl = ⟨b.fl.c || (f.kind == 2 && a.fl.c), a.fl.f && b.fl.f, a.fl.d && b.fl.d⟩ := by
  obtain ⟨k, t, l, ar⟩ := f
  simp only [Fm.kind, Fm.args] at h ha ⊢
  subst ha
  rcases h with rfl | rfl <;> simp [Fm.fl, Fm.info, Fm.infoL, flag]
theorem Fm.fl_q {f a : Fm} (h : 4 ≤ f.kind) (ha : f.args = [a]) :
    f.fl = ⟨a.fl.c || f.kind == 5, false, isBnd f && (((Fm.infoL a.args).map (fun p => p.1)).getD 1 Fl.z).d⟩ := by
  obtain ⟨k, t, l, ar⟩ := f
  simp only [Fm.kind, Fm.args] at h ha ⊢
  subst ha
  have h1 : (k == 1) = false := by simp; omega
  have h2 : (k == 2) = false := by simp; omega
  have h3 : (k == 3) = false := by simp; omega
  cases a
  simp [Fm.fl, Fm.info, Fm.infoL, flag, h1, h2, h3, Fm.args]
theorem Fm.fl_qn {f a : Fm} (h : 4 ≤ f.kind) (ha : f.args = [a]) (hb : isBnd f = false) : f.fl = ⟨a.fl.c || f.kind == 5, false, false⟩ := by rw [Fm.fl_q h ha, hb]; simp
theorem Fm.fl_qb {f a x y : Fm} (h : 4 ≤ f.kind) (ha : f.args = [a]) (hb : isBnd f = true) (hy : a.args = [x, y]) : f.fl = ⟨a.fl.c || f.kind == 5, false, y.fl.d⟩ := by
  rw [Fm.fl_q h ha, hb, hy]; simp [Fm.infoL, Fm.fl]
theorem Fm.fl_two {k : Int} {a b : Fm} (h : k = 2 ∨ k = 3) : (fmTwo k a b).fl = ⟨b.fl.c || (k == 2 && a.fl.c), a.fl.f && b.fl.f, a.fl.d && b.fl.d⟩ := Fm.fl_2 (f := fmTwo k a b) h rfl
theorem Fm.fl_qc {k : Int} {t : Ty} {a : Fm} (h : 4 ≤ k) : (fmQ k t a).fl.c = (a.fl.c || k == 5) := by rw [Fm.fl_q (f := fmQ k t a) h rfl]; rfl

/-- Content and the like, with the error of the formula. -/
def Fm.has (f : Fm) (k : Int) : Bool × Int := if fmErr f != 0 then (false, fmErr f) else ((if k == 1 then f.fl.c else if k == 2 then f.fl.f else f.fl.d), 0)
@[go_sem] def boolErrV (p : Bool × Int) : V := .tup [.bool p.1, .int .i64 p.2]
end GoAbs
