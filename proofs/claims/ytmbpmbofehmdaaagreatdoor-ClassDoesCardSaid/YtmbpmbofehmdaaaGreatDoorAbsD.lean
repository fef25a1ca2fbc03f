/-
 The abstract layer: plain laws.
-/
import Derived.Test.YtmbpmbofehmdaaaGreatDoorAbsC
set_option linter.unusedSimpArgs false
set_option linter.unusedVariables false
set_option linter.unusedSectionVars false
namespace GoAbs
open Go
theorem Ty.nodes_mk (k : Int) (l : List Ty) : (Ty.mk k l).nodes = match tyWant k with | none => none | some w => if (l.length : Int) == w then Ty.nodesL 1 l else none := by rw [Ty.nodes]; rfl
theorem Tm.nodes_mk (k i : Int) (t : Ty) (l : List Tm) : (Tm.mk k i t l).nodes = if tmHead k i t l.length then Tm.nodesL 1 l else none := by rw [Tm.nodes]
theorem Fm.nodes_mk (k : Int) (t : Ty) (l : List Tm) (a : List Fm) :
  (Fm.mk k t l a).nodes = if formed k t l.length a.length then (match Tm.nodesL 1 l with | none => none | some n => Fm.nodesL n a) else none := by rw [Fm.nodes]; rfl
mutual
def tySz : Ty → Nat
 | .mk _ l => tySzL l + 1
def tySzL : List Ty → Nat
 | [] => 0
 | t :: l => tySz t + tySzL l
end
theorem tySz_nat : tySz tNat = 1 := by simp [tNat, tySz, tySzL]
theorem tySz_list : tySz tList = 1 := by simp [tList, tySz, tySzL]
theorem tySz_unit : tySz tUnit = 1 := by simp [tUnit, tySz, tySzL]
theorem tySz_pair {a b : Ty} : tySz (tPair a b) = tySz a + tySz b + 1 := by simp [tPair, tySz, tySzL]
theorem tySz_fun {a b : Ty} : tySz (tFun a b) = tySz a + tySz b + 1 := by simp [tFun, tySz, tySzL]
theorem tySz_pos (t : Ty) : 1 ≤ tySz t := by cases t; simp [tySz]
theorem nodes_two {k : Int} {a b : Ty} {x y : Nat} (hk : k = 3 ∨ k = 4) (ha : a.nodes = some (x : Int)) (hb : b.nodes = some (y : Int)) (h : x + y + 1 ≤ 1000000) :
  (Ty.mk k [a, b]).nodes = some ((x + y + 1 : Nat) : Int) := by
 have hw : tyWant k = some 2 := by rcases hk with rfl | rfl <;> rfl
 rw [Ty.nodes_mk, hw]
 have hl : (([a, b] : List Ty).length : Int) = 2 := rfl
 simp only [hl, beq_self_eq_true, if_true]
 have e1 : IntKind.i64.wrap (1 + (x : Int)) = ((x + 1 : Nat) : Int) := wrap_eq (by omega) (by omega) (by omega)
 have e2 : IntKind.i64.wrap (((x + 1 : Nat) : Int) + (y : Int)) = ((x + y + 1 : Nat) : Int) := wrap_eq (by omega) (by omega) (by omega)
 rw [Ty.nodesL_some ha, Ty.nodesL_some hb, Ty.nodesL_nil, e1, e2]
theorem TyF.nodes {t : Ty} (h : TyF t) : tySz t ≤ 1000000 → t.nodes = some (tySz t : Int) := by
 induction h with
 | nat => intro _; rfl
 | list => intro _; rfl
 | unit => intro _; rfl
 | pair _ _ h1 h2 => intro hs; rw [tySz_pair] at hs ⊢; exact nodes_two (.inl rfl) (h1 (by omega)) (h2 (by omega)) (by omega)
 | func _ _ h1 h2 => intro hs; rw [tySz_fun] at hs ⊢; exact nodes_two (.inr rfl) (h1 (by omega)) (h2 (by omega)) (by omega)
def TyG (t : Ty) : Prop := TyF t ∧ tySz t ≤ 64
theorem TyF.err {t : Ty} (h : TyF t) (hs : tySz t ≤ 1000000) : tyErr t = if tySz t ≤ 64 then 0 else 4 := by
 unfold tyErr
 rw [h.nodes hs, chk]
 by_cases h64 : tySz t ≤ 64
 ·rw [if_neg (by omega), if_pos h64]
 ·rw [if_pos (by omega), if_neg h64]
theorem TyG.err {t : Ty} (h : TyG t) : tyErr t = 0 := by rw [h.1.err (by have := h.2; omega), if_pos h.2]
theorem TyG.nat : TyG tNat := ⟨.nat, by rw [tySz_nat]; omega⟩
theorem TyG.list : TyG tList := ⟨.list, by rw [tySz_list]; omega⟩
theorem TyG.unit : TyG tUnit := ⟨.unit, by rw [tySz_unit]; omega⟩
theorem TyG.pair1 {a b : Ty} (h : TyG (tPair a b)) : TyG a ∧ TyG b := by
 obtain ⟨h1, h2⟩ := h
 rw [tySz_pair] at h2
 cases h1 with | pair ha hb => exact ⟨⟨ha, by omega⟩, ⟨hb, by omega⟩⟩
theorem TyG.fun1 {a b : Ty} (h : TyG (tFun a b)) : TyG a ∧ TyG b := by
 obtain ⟨h1, h2⟩ := h
 rw [tySz_fun] at h2
 cases h1 with | func ha hb => exact ⟨⟨ha, by omega⟩, ⟨hb, by omega⟩⟩
theorem MkTy.sz0 {t : Ty} (h : MkTy 0 t) : tySz t = 1 := by
 cases h with
 | nat => exact tySz_nat
 | list => exact tySz_list
 | unit => exact tySz_unit
theorem MkTy.sz1 {t : Ty} (h : MkTy 1 t) : tySz t ≤ 3 := by
 cases h with
 | nat => rw [tySz_nat]; omega
 | list => rw [tySz_list]; omega
 | unit => rw [tySz_unit]; omega
 | pair h1 h2 => rw [tySz_pair, h1.sz0, h2.sz0]; omega
 | func h1 h2 => rw [tySz_fun, h1.sz0, h2.sz0]; omega
theorem MkTy.G {n : Nat} (hn : n ≤ 1) {t : Ty} (h : MkTy n t) : TyG t := ⟨h.F, by have := (h.up hn).sz1; omega⟩
inductive TmG : Tm → Prop
 | plain {k : Int} {l : List Tm} {a : Int} (ha : arity k = some a) (hl : (l.length : Int) = a) (ht : typed k = false) (h : ∀ x ∈ l, TmG x) : TmG (tm0 k l)
 | var {i : Int} (hi : 0 ≤ i) : TmG (tmVar i)
 | typd {k : Int} {t : Ty} {l : List Tm} {a : Int} (ha : arity k = some a) (hl : (l.length : Int) = a) (ht : typed k = true) (hg : TyG t) (h : ∀ x ∈ l, TmG x) : TmG (tmT k t l)
theorem ar4 : arity 4 = some 0 := rfl
theorem ar5 : arity 5 = some 1 := rfl
theorem ar3 : arity 3 = some 2 := rfl
theorem ar2 : arity 2 = some 1 := rfl
theorem ar6 : arity 6 = some 3 := rfl
theorem ar7 : arity 7 = some 0 := rfl
theorem ar8 : arity 8 = some 2 := rfl
theorem ar9 : arity 9 = some 3 := rfl
theorem ar10 : arity 10 = some 2 := rfl
theorem ar11 : arity 11 = some 1 := rfl
theorem ar12 : arity 12 = some 1 := rfl
theorem ar13 : arity 13 = some 0 := rfl
theorem TmG.t0 {k : Int} (ha : arity k = some 0) (ht : typed k = false) : TmG (tm0 k []) := .plain ha rfl ht (by simp)
theorem TmG.t1 {k : Int} {a : Tm} (ha : arity k = some 1) (ht : typed k = false) (h1 : TmG a) : TmG (tm0 k [a]) := .plain ha rfl ht (by simp [h1])
theorem TmG.t2 {k : Int} {a b : Tm} (ha : arity k = some 2) (ht : typed k = false) (h1 : TmG a) (h2 : TmG b) : TmG (tm0 k [a, b]) := .plain ha rfl ht (by simp [h1, h2])
theorem TmG.lam {t : Ty} {a : Tm} (hg : TyG t) (h1 : TmG a) : TmG (tmT 2 t [a]) := .typd ar2 rfl rfl hg (by simp [h1])
theorem TmG.recr {t : Ty} {a b c : Tm} (hg : TyG t) (h1 : TmG a) (h2 : TmG b) (h3 : TmG c) : TmG (tmT 6 t [a, b, c]) := .typd ar6 rfl rfl hg (by simp [h1, h2, h3])
theorem TmG.fold {t : Ty} {a b c : Tm} (hg : TyG t) (h1 : TmG a) (h2 : TmG b) (h3 : TmG c) : TmG (tmT 9 t [a, b, c]) := .typd ar9 rfl rfl hg (by simp [h1, h2, h3])
theorem numT_G : ∀ n, TmG (numT n)
 | 0 => .t0 ar4 rfl
 | n + 1 => .t1 ar5 rfl (numT_G n)
theorem lamN_G {t : Tm} (h : TmG t) : TmG (lamN t) := .lam .nat h
theorem recN_G {a b c : Tm} (h1 : TmG a) (h2 : TmG b) (h3 : TmG c) : TmG (recN a b c) := .recr .nat h1 h2 h3
theorem v0_G : TmG (tmVar 0) := .var (by omega)
theorem v1_G : TmG (tmVar 1) := .var (by omega)
theorem predT_G : TmG predT := lamN_G (recN_G (.t0 ar4 rfl) (lamN_G (lamN_G v1_G)) v0_G)
theorem plusT_G : TmG plusT := lamN_G (lamN_G (recN_G v1_G (lamN_G (lamN_G (.t1 ar5 rfl v0_G))) v0_G))
theorem subT_G : TmG subT := lamN_G (lamN_G (recN_G v1_G (lamN_G (lamN_G (.t2 ar3 rfl predT_G v0_G))) v0_G))
theorem MkTm.G {n : Nat} {g : List Ty} {t : Ty} {x : Tm} (h : MkTm n g t x) (hg : ∀ y ∈ g, TyG y) (ht : TyG t) : TmG x := by
 have app : ∀ {g l : List Ty}, (∀ y ∈ g, TyG y) → (∀ y ∈ l, TyG y) → ∀ y ∈ g ++ l, TyG y := by
  intro g l h1 h2 y hy
  rcases List.mem_append.1 hy with hy | hy
  ·exact h1 y hy
  ·exact h2 y hy
 induction h with
 | var => exact .var (by omega)
 | app hs _ _ h1 h2 =>
  have hsG := hs.G (by omega)
  exact .t2 ar3 rfl (.lam hsG (h1 (app hg (by simp [hsG])) ht)) (h2 hg hsG)
 | fst hs _ _ h1 h2 => exact .t1 ar11 rfl (.t2 ar10 rfl (h1 hg ht) (h2 hg (hs.G (by omega))))
 | snd hs _ _ h1 h2 => exact .t1 ar12 rfl (.t2 ar10 rfl (h1 hg (hs.G (by omega))) (h2 hg ht))
 | recr hk _ _ h1 h2 => exact .recr ht (h2 hg ht) (.lam .nat (.lam ht (h1 (app hg (by simp [ht, TyG.nat])) ht))) (numT_G _)
 | fold _ _ _ h1 h2 h3 => exact .fold ht (h2 hg ht) (.lam .nat (.lam .list (.lam ht (h1 (app hg (by simp [ht, TyG.nat, TyG.list])) ht)))) (h3 hg .list)
 | fapp hi h _ h1 => exact .t2 ar3 rfl (.var (by omega)) (h1 hg (hg _ (List.mem_of_getElem? h)).fun1.1)
 | succ _ h1 => exact .t1 ar5 rfl (h1 hg ht)
 | plus _ _ h1 h2 => exact .t2 ar3 rfl (.t2 ar3 rfl plusT_G (h1 hg ht)) (h2 hg ht)
 | sub _ _ h1 h2 => exact .t2 ar3 rfl (.t2 ar3 rfl subT_G (h1 hg ht)) (h2 hg ht)
 | num => exact numT_G _
 | cons _ _ h1 h2 => exact .t2 ar8 rfl (h1 hg .nat) (h2 hg ht)
 | nil => exact .t0 ar7 rfl
 | pair _ _ h1 h2 => exact .t2 ar10 rfl (h1 hg ht.pair1.1) (h2 hg ht.pair1.2)
 | lam _ h1 => exact .lam ht.fun1.1 (h1 (app hg (by simp [ht.fun1.1])) ht.fun1.2)
 | unit => exact .t0 ar13 rfl
inductive FmG (u : Bool) : Fm → Prop
 | eq {x y : Tm} : TmG x → TmG y → FmG u (fmEq x y)
 | two {k : Int} {a b : Fm} (hk : k = 2 ∨ k = 3) : FmG u a → FmG u b → FmG u (fmTwo k a b)
 | q {k : Int} {s : Ty} {a : Fm} (hk : k = 4 ∨ k = 5 ∨ (u = true ∧ (k = 6 ∨ k = 7))) (hs : TyG s) : FmG u a → FmG u (fmQ k s a)
theorem MkFm.G {u : Bool} {n : Nat} {g : List Ty} {f : Fm} (h : MkFm u n g f) (hg : ∀ y ∈ g, TyG y) : FmG u f := by
 induction h with
 | eq h1 h2 => exact .eq (h1.G hg .nat) (h2.G hg .nat)
 | two hk _ _ h1 h2 => exact .two hk (h1 hg) (h2 hg)
 | q hk hs _ h1 =>
  have hG := hs.G (by split <;> omega)
  refine .q hk hG (h1 ?_)
  intro y hy
  rcases List.mem_append.1 hy with hy | hy
  ·exact hg y hy
  ·simp at hy; subst hy; exact hG
mutual
def tmSz : Tm → Nat
 | .mk _ _ _ l => tmSzL l + 1
def tmSzL : List Tm → Nat
 | [] => 0
 | t :: l => tmSz t + tmSzL l
end
mutual
def fmSz : Fm → Nat
 | .mk _ _ l a => tmSzL l + fmSzL a + 1
def fmSzL : List Fm → Nat
 | [] => 0
 | t :: l => fmSz t + fmSzL l
end
theorem tmSz_0 {k : Int} : tmSz (tm0 k []) = 1 := by simp [tm0, tmSz, tmSzL]
theorem tmSz_v {k : Int} : tmSz (tmVar k) = 1 := by simp [tmVar, tmSz, tmSzL]
theorem tmSz_1 {k : Int} {a : Tm} : tmSz (tm0 k [a]) = tmSz a + 1 := by simp [tm0, tmSz, tmSzL]
theorem tmSz_2 {k : Int} {a b : Tm} : tmSz (tm0 k [a, b]) = tmSz a + tmSz b + 1 := by simp [tm0, tmSz, tmSzL]
theorem tmSz_T1 {k : Int} {t : Ty} {a : Tm} : tmSz (tmT k t [a]) = tmSz a + 1 := by simp [tmT, tmSz, tmSzL]
theorem tmSz_T3 {k : Int} {t : Ty} {a b c : Tm} : tmSz (tmT k t [a, b, c]) = tmSz a + (tmSz b + tmSz c) + 1 := by simp [tmT, tmSz, tmSzL]
theorem tmSz_num : ∀ n, tmSz (numT n) = n + 1
 | 0 => by rw [numT, tmSz_0]
 | n + 1 => by rw [numT, tmSz_1, tmSz_num n]
theorem fmSz_eq {x y : Tm} : fmSz (fmEq x y) = tmSz x + tmSz y + 1 := by simp [fmEq, fmSz, fmSzL, tmSzL]
theorem fmSz_two {k : Int} {x y : Fm} : fmSz (fmTwo k x y) = fmSz x + fmSz y + 1 := by simp [fmTwo, fmSz, fmSzL, tmSzL]
theorem fmSz_q {k : Int} {t : Ty} {x : Fm} : fmSz (fmQ k t x) = fmSz x + 1 := by simp [fmQ, fmSz, fmSzL, tmSzL]
theorem tmSz_plus : tmSz plusT = 9 := by simp [plusT, lamN, recN, tmSz_T1, tmSz_T3, tmSz_v, tmSz_1]
theorem tmSz_sub : tmSz subT = 16 := by simp [subT, predT, lamN, recN, tmSz_T1, tmSz_T3, tmSz_v, tmSz_1, tmSz_2, tmSz_0]
theorem Tm.nodesL_sum : ∀ {l : List Tm} {n : Nat}, (∀ x ∈ l, tmSz x ≤ 1000000 → x.nodes = some (tmSz x : Int)) → n + tmSzL l ≤ 1000000 →
  Tm.nodesL (n : Int) l = some ((n + tmSzL l : Nat) : Int)
 | [], n, _, _ => by rw [Tm.nodesL_nil]; simp [tmSzL]
 | x :: l, n, h, hs => by
  rw [tmSzL] at hs
  have e : IntKind.i64.wrap ((n : Int) + (tmSz x : Int)) = ((n + tmSz x : Nat) : Int) := wrap_eq (by omega) (by omega) (by omega)
  rw [Tm.nodesL_some (h x (by simp) (by omega)), e, Tm.nodesL_sum (fun y hy => h y (by simp [hy])) (by omega), tmSzL, Nat.add_assoc]
theorem Fm.nodesL_sum : ∀ {l : List Fm} {n : Nat}, (∀ x ∈ l, fmSz x ≤ 1000000 → x.nodes = some (fmSz x : Int)) → n + fmSzL l ≤ 1000000 →
  Fm.nodesL (n : Int) l = some ((n + fmSzL l : Nat) : Int)
 | [], n, _, _ => by rw [Fm.nodesL_nil]; simp [fmSzL]
 | x :: l, n, h, hs => by
  rw [fmSzL] at hs
  have e : IntKind.i64.wrap ((n : Int) + (fmSz x : Int)) = ((n + fmSz x : Nat) : Int) := wrap_eq (by omega) (by omega) (by omega)
  rw [Fm.nodesL_some (h x (by simp) (by omega)), e, Fm.nodesL_sum (fun y hy => h y (by simp [hy])) (by omega), fmSzL, Nat.add_assoc]
theorem tmSzL_mem : ∀ {l : List Tm} {x : Tm}, x ∈ l → tmSz x ≤ tmSzL l
 | y :: l, x, h => by
  rw [tmSzL]
  rcases List.mem_cons.1 h with rfl | h
  ·omega
  ·have := tmSzL_mem h; omega
theorem Tm.head_val {k i : Int} {t : Ty} {l : List Tm} (h : tmHead k i t l.length = true) (ih : ∀ x ∈ l, tmSz x ≤ 1000000 → x.nodes = some (tmSz x : Int)) (hs : tmSz (.mk k i t l) ≤ 1000000) :
  (Tm.mk k i t l).nodes = some (tmSz (.mk k i t l) : Int) := by
 rw [tmSz] at hs ⊢
 have := Tm.nodesL_sum (n := 1) ih (by omega)
 rw [Tm.nodes_mk, h]
 simp only [if_true]
 rw [Nat.add_comm (tmSzL l) 1]; exact this
theorem TmG.nodes_val {t : Tm} (h : TmG t) : tmSz t ≤ 1000000 → t.nodes = some (tmSz t : Int) := by
 induction h with
 | @plain k l a ha hl ht _ ih =>
  have : tmHead k 0 (.mk 0 []) l.length = true := by simp [tmHead, ha, hl, ht, noType, Ty.kind, Ty.args]
  exact Tm.head_val this ih
 | @var i hi =>
  have : tmHead 1 i (.mk 0 []) ([] : List Tm).length = true := by simp [tmHead, arity, arities, hi, typed, noType, Ty.kind, Ty.args]
  exact Tm.head_val this (by simp)
 | @typd k t l a ha hl ht hg _ ih =>
  have : tmHead k 0 t l.length = true := by simp [tmHead, ha, hl, ht, hg.err]
  exact Tm.head_val this ih
theorem Fm.head_val {k : Int} {t : Ty} {l : List Tm} {a : List Fm} (h : formed k t l.length a.length = true) (hl : ∀ x ∈ l, TmG x)
  (ih : ∀ x ∈ a, fmSz x ≤ 1000000 → x.nodes = some (fmSz x : Int)) (hs : fmSz (.mk k t l a) ≤ 1000000) : (Fm.mk k t l a).nodes = some (fmSz (.mk k t l a) : Int) := by
 rw [fmSz] at hs ⊢
 have h1 := Tm.nodesL_sum (n := 1) (l := l) (fun x hx => (hl x hx).nodes_val) (by omega)
 have h2 := Fm.nodesL_sum (n := 1 + tmSzL l) ih (by omega)
 rw [Fm.nodes_mk, h]
 have h1' : Tm.nodesL 1 l = some ((1 + tmSzL l : Nat) : Int) := h1
 simp only [if_true, h1']
 rw [h2]; congr 2; omega
theorem FmG.nodes_val {u : Bool} {f : Fm} (h : FmG u f) : fmSz f ≤ 1000000 → f.nodes = some (fmSz f : Int) := by
 induction h with
 | @eq x y h1 h2 => exact Fm.head_val rfl (by simp [h1, h2]) (by simp)
 | @two k a b hk _ _ h1 h2 =>
  have : formed k (.mk 0 []) ([] : List Tm).length [a, b].length = true := by rcases hk with rfl | rfl <;> rfl
  exact Fm.head_val this (by simp) (fun x hx => by simp at hx; rcases hx with rfl | rfl <;> assumption)
 | @q k s a hk hs _ h1 =>
  have : formed k s ([] : List Tm).length [a].length = true := by
   rcases hk with rfl | rfl | ⟨_, rfl | rfl⟩ <;> simp [formed, fmWant, hs.err]
  exact Fm.head_val this (by simp) (by intro x hx; simp at hx; subst hx; exact h1)
theorem FmG.err_val {u : Bool} {f : Fm} (h : FmG u f) (hs : fmSz f ≤ 1000000) : fmErr f = if fmSz f ≤ 4096 then 0 else 4 := by
 unfold fmErr
 rw [h.nodes_val hs, chk]
 by_cases h64 : fmSz f ≤ 4096
 ·rw [if_neg (by omega), if_pos h64]
 ·rw [if_pos (by omega), if_neg h64]
def bndT (M : Nat) : Nat → Nat
 | 0 => 3 * M
 | n + 1 => 40 + 3 * bndT M n
theorem bndT_ge (M : Nat) : ∀ n, 3 * M ≤ bndT M n
 | 0 => Nat.le_refl _
 | n + 1 => by have := bndT_ge M n; rw [bndT]; omega
theorem MkTm.sz {M : Nat} (hM : 1 ≤ M) {n : Nat} {g : List Ty} {t : Ty} {x : Tm} (h : MkTm n g t x) (hg : ∀ y ∈ g, tySz y ≤ M) (ht : tySz t ≤ M) :
  tmSz x ≤ bndT M n ∧ (n = 0 → tmSz x ≤ 3 * tySz t) := by
 have app : ∀ {g l : List Ty}, (∀ y ∈ g, tySz y ≤ M) → (∀ y ∈ l, tySz y ≤ M) → ∀ y ∈ g ++ l, tySz y ≤ M := by
  intro g l h1 h2 y hy
  rcases List.mem_append.1 hy with hy | hy
  ·exact h1 y hy
  ·exact h2 y hy
 have nat1 : tySz tNat ≤ M := by rw [tySz_nat]; exact hM
 have list1 : tySz tList ≤ M := by rw [tySz_list]; exact hM
 have small : ∀ {n : Nat} {t : Ty} {x : Tm}, tmSz x ≤ 3 → tmSz x ≤ bndT M n ∧ (n = 0 → tmSz x ≤ 3 * tySz t) := by
  intro n t x hx
  have := bndT_ge M n
  have := tySz_pos t
  exact ⟨by omega, fun _ => by omega⟩
 induction h with
 | var => exact small (by rw [tmSz_v]; omega)
 | @app n g t s b x hs _ _ h1 h2 =>
  have s1 : tySz s ≤ M := by rw [hs.sz0]; exact hM
  have a1 := (h1 (app hg (by simpa using s1)) ht).1
  have a2 := (h2 hg s1).1
  exact ⟨by rw [tmSz_2, tmSz_T1, bndT]; omega, fun h => by omega⟩
 | @fst n g t s x y hs _ _ h1 h2 =>
  have s1 : tySz s ≤ M := by rw [hs.sz0]; exact hM
  have a1 := (h1 hg ht).1
  have a2 := (h2 hg s1).1
  exact ⟨by rw [tmSz_1, tmSz_2, bndT]; omega, fun h => by omega⟩
 | @snd n g t s x y hs _ _ h1 h2 =>
  have s1 : tySz s ≤ M := by rw [hs.sz0]; exact hM
  have a1 := (h1 hg s1).1
  have a2 := (h2 hg ht).1
  exact ⟨by rw [tmSz_1, tmSz_2, bndT]; omega, fun h => by omega⟩
 | recr hk _ _ h1 h2 =>
  have a1 := (h1 (app hg (by simp [nat1, ht])) ht).1
  have a2 := (h2 hg ht).1
  exact ⟨by rw [tmSz_T3, tmSz_T1, tmSz_T1, tmSz_num, bndT]; omega, fun h => by omega⟩
 | fold _ _ _ h1 h2 h3 =>
  have a1 := (h1 (app hg (by simp [nat1, list1, ht])) ht).1
  have a2 := (h2 hg ht).1
  have a3 := (h3 hg list1).1
  exact ⟨by rw [tmSz_T3, tmSz_T1, tmSz_T1, tmSz_T1, bndT]; omega, fun h => by omega⟩
 | fapp hi h _ h1 =>
  have s1 := hg _ (List.mem_of_getElem? h)
  rw [tySz_fun] at s1
  have a1 := (h1 hg (by omega)).1
  exact ⟨by rw [tmSz_2, tmSz_v, bndT]; omega, fun h => by omega⟩
 | succ _ h1 =>
  have a1 := (h1 hg ht).1
  exact ⟨by rw [tmSz_1, bndT]; omega, fun h => by omega⟩
 | plus _ _ h1 h2 =>
  have a1 := (h1 hg ht).1
  have a2 := (h2 hg ht).1
  exact ⟨by rw [tmSz_2, tmSz_2, tmSz_plus, bndT]; omega, fun h => by omega⟩
 | sub _ _ h1 h2 =>
  have a1 := (h1 hg ht).1
  have a2 := (h2 hg ht).1
  exact ⟨by rw [tmSz_2, tmSz_2, tmSz_sub, bndT]; omega, fun h => by omega⟩
 | num hk => exact small (by rw [tmSz_num]; omega)
 | cons _ _ h1 h2 =>
  have a1 := (h1 hg nat1).1
  have a2 := (h2 hg ht).1
  exact ⟨by rw [tmSz_2, bndT]; omega, fun h => by omega⟩
 | nil => exact small (by rw [tmSz_0]; omega)
 | @pair n g a b x y _ _ h1 h2 =>
  rw [tySz_pair] at ht
  have a1 := h1 hg (by omega)
  have a2 := h2 hg (by omega)
  rw [tmSz_2, tySz_pair]
  cases n with
  | zero =>
   have b1 := a1.2 rfl
   have b2 := a2.2 rfl
   exact ⟨by rw [bndT]; omega, fun _ => by omega⟩
  | succ n =>
   have b1 := a1.1
   have b2 := a2.1
   simp only [Nat.add_sub_cancel] at b1 b2
   exact ⟨by rw [bndT]; omega, fun h => by omega⟩
 | @lam n g a b x _ h1 =>
  rw [tySz_fun] at ht
  have a1 := h1 (app hg (by simp; omega)) (by omega)
  rw [tmSz_T1, tySz_fun]
  cases n with
  | zero =>
   have b1 := a1.2 rfl
   exact ⟨by rw [bndT]; omega, fun _ => by omega⟩
  | succ n =>
   have b1 := a1.1
   simp only [Nat.add_sub_cancel] at b1
   exact ⟨by rw [bndT]; omega, fun h => by omega⟩
 | unit => exact small (by rw [tmSz_0]; omega)
def addW (a b : Int) : Int := IntKind.i64.wrap (a + b)
def subW (a b : Int) : Int := IntKind.i64.wrap (a - b)
mutual
def Ty.szW : Ty → Int
 | .mk _ l => Ty.szWL 1 l
def Ty.szWL : Int → List Ty → Int
 | n, [] => n
 | n, t :: l => Ty.szWL (IntKind.i64.wrap (n + t.szW)) l
end
theorem Ty.szW_eq (t : Ty) : t.szW = Ty.szWL 1 t.args := by cases t; rw [Ty.szW]; rfl
theorem Ty.szWL_nil {n : Int} : Ty.szWL n [] = n := by rw [Ty.szWL]
theorem Ty.szWL_cons {n : Int} {t : Ty} {l : List Ty} : Ty.szWL n (t :: l) = Ty.szWL (IntKind.i64.wrap (n + t.szW)) l := by rw [Ty.szWL]
mutual
def Tm.szW : Tm → Int
 | .mk _ _ _ l => Tm.szWL 1 l
def Tm.szWL : Int → List Tm → Int
 | n, [] => n
 | n, t :: l => Tm.szWL (IntKind.i64.wrap (n + t.szW)) l
end
theorem Tm.szW_eq (t : Tm) : t.szW = Tm.szWL 1 t.args := by cases t; rw [Tm.szW]; rfl
theorem Tm.szWL_nil {n : Int} : Tm.szWL n [] = n := by rw [Tm.szWL]
theorem Tm.szWL_cons {n : Int} {t : Tm} {l : List Tm} : Tm.szWL n (t :: l) = Tm.szWL (IntKind.i64.wrap (n + t.szW)) l := by rw [Tm.szWL]
mutual
def Fm.szW : Fm → Int
 | .mk _ _ l a => Fm.szWL (Tm.szWL 1 l) a
def Fm.szWL : Int → List Fm → Int
 | n, [] => n
 | n, t :: l => Fm.szWL (IntKind.i64.wrap (n + t.szW)) l
end
theorem Fm.szW_eq (t : Fm) : t.szW = Fm.szWL (Tm.szWL 1 t.terms) t.args := by cases t; rw [Fm.szW]; rfl
theorem Fm.szWL_nil {n : Int} : Fm.szWL n [] = n := by rw [Fm.szWL]
theorem Fm.szWL_cons {n : Int} {t : Fm} {l : List Fm} : Fm.szWL n (t :: l) = Fm.szWL (IntKind.i64.wrap (n + t.szW)) l := by rw [Fm.szWL]
def Ty.good (t : Ty) : Bool := t.nodes.isSome
def Tm.good (t : Tm) : Bool := t.nodes.isSome
def Fm.good (t : Fm) : Bool := t.nodes.isSome
theorem Ty.nodesL_good : ∀ (l : List Ty) (n : Int), (Ty.nodesL n l).isSome = l.all Ty.good
 | [], n => by rw [Ty.nodesL_nil]; rfl
 | t :: l, n => by
  cases h : t.nodes with
  | none => rw [Ty.nodesL_none h]; simp [Ty.good, h]
  | some k => rw [Ty.nodesL_some h, Ty.nodesL_good l]; simp [Ty.good, h]
theorem Tm.nodesL_good : ∀ (l : List Tm) (n : Int), (Tm.nodesL n l).isSome = l.all Tm.good
 | [], n => by rw [Tm.nodesL_nil]; rfl
 | t :: l, n => by
  cases h : t.nodes with
  | none => rw [Tm.nodesL_none h]; simp [Tm.good, h]
  | some k => rw [Tm.nodesL_some h, Tm.nodesL_good l]; simp [Tm.good, h]
theorem Fm.nodesL_good : ∀ (l : List Fm) (n : Int), (Fm.nodesL n l).isSome = l.all Fm.good
 | [], n => by rw [Fm.nodesL_nil]; rfl
 | t :: l, n => by
  cases h : t.nodes with
  | none => rw [Fm.nodesL_none h]; simp [Fm.good, h]
  | some k => rw [Fm.nodesL_some h, Fm.nodesL_good l]; simp [Fm.good, h]
theorem Ty.good_eq (t : Ty) : t.good = match tyWant t.kind with | none => false | some w => ((t.args.length : Int) == w) && t.args.all Ty.good := by
 show t.nodes.isSome = _
 rw [Ty.nodes_eq]
 cases tyWant t.kind with
 | none => rfl
 | some w =>
  cases h : ((t.args.length : Int) == w) with
  | true => simp only [h, if_true, Ty.nodesL_good, Bool.true_and]
  | false => simp only [h, Bool.false_eq_true, if_false, Bool.false_and]; rfl
theorem Tm.good_eq (t : Tm) : t.good = (tmHead t.kind t.index t.type t.args.length && t.args.all Tm.good) := by
 show t.nodes.isSome = _
 rw [Tm.nodes_eq]
 cases h : tmHead t.kind t.index t.type t.args.length with
 | true => simp only [if_true, Tm.nodesL_good, Bool.true_and]
 | false => simp
theorem Fm.good_eq (t : Fm) : t.good = (formed t.kind t.type t.terms.length t.args.length && t.terms.all Tm.good && t.args.all Fm.good) := by
 show t.nodes.isSome = _
 rw [Fm.nodes_eq]
 cases h : formed t.kind t.type t.terms.length t.args.length with
 | true =>
  simp only [if_true, Bool.true_and]
  have h1 := Tm.nodesL_good t.terms 1
  cases hn : Tm.nodesL 1 t.terms with
  | none => rw [hn] at h1; rw [← h1]; simp
  | some n => rw [hn] at h1; rw [← h1]; simp only [Fm.nodesL_good, Option.isSome_some, Bool.true_and]
 | false => simp
mutual
def Tm.least (m : Int) : Tm → Bool
 | .mk _ i _ l => decide (i ≤ m) && Tm.leastL m l
def Tm.leastL (m : Int) : List Tm → Bool
 | [] => true
 | t :: l => t.least m && Tm.leastL m l
end
theorem Tm.least_eq (m : Int) (t : Tm) : t.least m = (decide (t.index ≤ m) && Tm.leastL m t.args) := by cases t; rw [Tm.least]; rfl
theorem Tm.leastL_nil {m : Int} : Tm.leastL m [] = true := by rw [Tm.leastL]
theorem Tm.leastL_cons {m : Int} {t : Tm} {l : List Tm} : Tm.leastL m (t :: l) = (t.least m && Tm.leastL m l) := by rw [Tm.leastL]
mutual
def Fm.least (m : Int) : Fm → Bool
 | .mk _ _ l a => Tm.leastL m l && Fm.leastL m a
def Fm.leastL (m : Int) : List Fm → Bool
 | [] => true
 | t :: l => t.least m && Fm.leastL m l
end
theorem Fm.least_eq (m : Int) (t : Fm) : t.least m = (Tm.leastL m t.terms && Fm.leastL m t.args) := by cases t; rw [Fm.least]; rfl
theorem Fm.leastL_nil {m : Int} : Fm.leastL m [] = true := by rw [Fm.leastL]
theorem Fm.leastL_cons {m : Int} {t : Fm} {l : List Fm} : Fm.leastL m (t :: l) = (t.least m && Fm.leastL m l) := by rw [Fm.leastL]
def tmBelow (k : Int) : Int := if k == 2 then 1 else 0
def quant (k : Int) : Bool := k == 4 || k == 5 || k == 6 || k == 7
def fmBelow (k : Int) : Int := if quant k then 1 else 0
mutual
def Tm.up (by' : Int) : Tm → Int → Tm
 | .mk k i t l, fr => .mk k (if k == 1 && decide (i ≥ fr) then addW i by' else i) t (Tm.upL by' l (addW fr (tmBelow k)))
def Tm.upL (by' : Int) : List Tm → Int → List Tm
 | [], _ => []
 | t :: l, fr => t.up by' fr :: Tm.upL by' l fr
end
theorem Tm.upL_map {b : Int} : ∀ (l : List Tm) (fr : Int), Tm.upL b l fr = l.map fun t => t.up b fr
 | [], fr => by simp [Tm.upL]
 | t :: l, fr => by simp [Tm.upL, Tm.upL_map l fr]
theorem Tm.up_eq (b : Int) (t : Tm) (fr : Int) : t.up b fr = .mk t.kind (if t.kind == 1 && decide (t.index ≥ fr) then addW t.index b else t.index) t.type (t.args.map fun x => x.up b (addW fr (tmBelow t.kind))) := by
 cases t; rw [Tm.up, Tm.upL_map]; rfl
mutual
def tmInn (s : Tm) (at' : Int) : Tm → Int → Tm
 | .mk k i t l, d => if k == 1 then (if i == addW at' d then Tm.up (addW at' d) s 0 else if decide (i > addW at' d) then tmVar (subW i 1) else .mk k i t l)
  else .mk k i t (tmInnL s at' l (addW d (tmBelow k)))
def tmInnL (s : Tm) (at' : Int) : List Tm → Int → List Tm
 | [], _ => []
 | t :: l, d => tmInn s at' t d :: tmInnL s at' l d
end
mutual
def fmInn (s : Tm) (at' : Int) : Fm → Int → Fm
 | .mk k t l a, d => .mk k t (l.map fun x => tmInn s at' x d) (fmInnL s at' a (addW d (fmBelow k)))
def fmInnL (s : Tm) (at' : Int) : List Fm → Int → List Fm
 | [], _ => []
 | t :: l, d => fmInn s at' t d :: fmInnL s at' l d
end
mutual
theorem Ty.szW_nodes : ∀ (t : Ty) (n : Int), t.nodes = some n → t.szW = n
 | .mk k l, n, h => by
  rw [Ty.nodes_mk] at h
  rw [Ty.szW]
  split at h
  ·cases h
  ·split at h
   ·exact Ty.szWL_nodes l 1 n h
   ·cases h
theorem Ty.szWL_nodes : ∀ (l : List Ty) (m n : Int), Ty.nodesL m l = some n → Ty.szWL m l = n
 | [], m, n, h => by rw [Ty.nodesL_nil] at h; rw [Ty.szWL_nil]; exact Option.some.inj h
 | t :: l, m, n, h => by
  cases hx : t.nodes with
  | none => rw [Ty.nodesL_none hx] at h; cases h
  | some k =>
   rw [Ty.nodesL_some hx] at h
   rw [Ty.szWL_cons, Ty.szW_nodes t k hx]
   exact Ty.szWL_nodes l _ n h
end
mutual
theorem Tm.szW_nodes : ∀ (t : Tm) (n : Int), t.nodes = some n → t.szW = n
 | .mk k i t l, n, h => by
  rw [Tm.nodes_mk] at h
  rw [Tm.szW]
  split at h
  ·exact Tm.szWL_nodes l 1 n h
  ·cases h
theorem Tm.szWL_nodes : ∀ (l : List Tm) (m n : Int), Tm.nodesL m l = some n → Tm.szWL m l = n
 | [], m, n, h => by rw [Tm.nodesL_nil] at h; rw [Tm.szWL_nil]; exact Option.some.inj h
 | t :: l, m, n, h => by
  cases hx : t.nodes with
  | none => rw [Tm.nodesL_none hx] at h; cases h
  | some k =>
   rw [Tm.nodesL_some hx] at h
   rw [Tm.szWL_cons, Tm.szW_nodes t k hx]
   exact Tm.szWL_nodes l _ n h
end
mutual
theorem Fm.szW_nodes : ∀ (t : Fm) (n : Int), t.nodes = some n → t.szW = n
 | .mk k t l a, n, h => by
  rw [Fm.nodes_mk] at h
  rw [Fm.szW]
  split at h
  ·cases hl : Tm.nodesL 1 l with
   | none => rw [hl] at h; cases h
   | some m => rw [hl] at h; rw [Tm.szWL_nodes l 1 m hl]; exact Fm.szWL_nodes a m n h
  ·cases h
theorem Fm.szWL_nodes : ∀ (l : List Fm) (m n : Int), Fm.nodesL m l = some n → Fm.szWL m l = n
 | [], m, n, h => by rw [Fm.nodesL_nil] at h; rw [Fm.szWL_nil]; exact Option.some.inj h
 | t :: l, m, n, h => by
  cases hx : t.nodes with
  | none => rw [Fm.nodesL_none hx] at h; cases h
  | some k =>
   rw [Fm.nodesL_some hx] at h
   rw [Fm.szWL_cons, Fm.szW_nodes t k hx]
   exact Fm.szWL_nodes l _ n h
end
def refArgs (k : Int) : Int :=
 if k == 1 || k == 4 || k == 7 || k == 13 then 0 else if k == 2 || k == 5 || k == 11 || k == 12 then 1 else if k == 3 || k == 8 || k == 10 then 2 else if k == 6 || k == 9 then 3 else -1
def tmErr (t : Tm) : Int := (chk 4096 t.nodes).2
theorem kinds13 {k : Int} (h1 : ¬ k < 1) (h2 : ¬ 14 ≤ k) : k = 1 ∨ k = 2 ∨ k = 3 ∨ k = 4 ∨ k = 5 ∨ k = 6 ∨ k = 7 ∨ k = 8 ∨ k = 9 ∨ k = 10 ∨ k = 11 ∨ k = 12 ∨ k = 13 := by omega
theorem tmHead_ref (k i : Int) (t : Ty) (n : Nat) : tmHead k i t (n : Int) =
  (!((n : Int) != refArgs k) && !decide (i < 0) && !(k != 1 && i != 0) && (if typed k then tyErr t == 0 else noType t)) := by
 unfold tmHead arity
 by_cases hk : k < 1 ∨ 14 ≤ k
 ·rw [if_pos hk]
  have : refArgs k = -1 := by
   have hne : ∀ m : Int, 1 ≤ m → m ≤ 13 → (k == m) = false := fun m a b => by simp; omega
   simp [refArgs, hne]
  rw [this]
  have : ((n : Int) != -1) = true := by simp <;> omega
  rw [this]; rfl
 ·rw [if_neg hk]
  obtain ⟨h1, h2⟩ := not_or.1 hk
  have hi : (!decide (i < 0)) = decide (0 ≤ i) := by
   by_cases h : i < 0
   ·have : ¬ 0 ≤ i := by omega
    simp [h, this]
   ·have : 0 ≤ i := by omega
    simp [h, this]
  rcases kinds13 h1 h2 with h | h | h | h | h | h | h | h | h | h | h | h | h <;> subst h
  all_goals
   simp only [arities, refArgs, typed, hi]
   cases h0 : (i == 0) <;> simp [bne, h0]
def zeroF : Fm := .mk 0 (.mk 0 []) [] []
@[go_sem] def fmErrV (p : Fm × Int) : V := .tup [.agg p.1.cells, .int .i64 p.2]
theorem addW_eq {a b : Int} (h0 : -1000000000000 ≤ a) (h1 : a ≤ 1000000000000) (h2 : -1000000000000 ≤ b) (h3 : b ≤ 1000000000000) : addW a b = a + b := wrap_eq rfl (by omega) (by omega)
theorem subW_eq {a b : Int} (h0 : -1000000000000 ≤ a) (h1 : a ≤ 1000000000000) (h2 : -1000000000000 ≤ b) (h3 : b ≤ 1000000000000) : subW a b = a - b := wrap_eq rfl (by omega) (by omega)
theorem Tm.leastL_iff {m : Int} : ∀ {l : List Tm}, Tm.leastL m l = true ↔ ∀ x ∈ l, x.least m = true
 | [] => by simp [Tm.leastL_nil]
 | x :: l => by simp [Tm.leastL_cons, Tm.leastL_iff (l := l)]
theorem Fm.leastL_iff {m : Int} : ∀ {l : List Fm}, Fm.leastL m l = true ↔ ∀ x ∈ l, x.least m = true
 | [] => by simp [Fm.leastL_nil]
 | x :: l => by simp [Fm.leastL_cons, Fm.leastL_iff (l := l)]
theorem least_mk {m k i : Int} {t : Ty} {l : List Tm} (hi : i ≤ m) (h : ∀ x ∈ l, x.least m = true) : (Tm.mk k i t l).least m = true := by
 rw [Tm.least, Tm.leastL_iff.2 h]; simp [hi]
theorem least_0 {m k : Int} (hm : 1 ≤ m) : (tm0 k []).least m = true := least_mk (by omega) (by simp)
theorem least_1 {m k : Int} {a : Tm} (hm : 1 ≤ m) (h1 : a.least m = true) : (tm0 k [a]).least m = true := least_mk (by omega) (by simp [h1])
theorem least_2 {m k : Int} {a b : Tm} (hm : 1 ≤ m) (h1 : a.least m = true) (h2 : b.least m = true) : (tm0 k [a, b]).least m = true := least_mk (by omega) (by simp [h1, h2])
theorem least_T1 {m k : Int} {t : Ty} {a : Tm} (hm : 1 ≤ m) (h1 : a.least m = true) : (tmT k t [a]).least m = true := least_mk (by omega) (by simp [h1])
theorem least_T3 {m k : Int} {t : Ty} {a b c : Tm} (hm : 1 ≤ m) (h1 : a.least m = true) (h2 : b.least m = true) (h3 : c.least m = true) : (tmT k t [a, b, c]).least m = true := least_mk (by omega) (by simp [h1, h2, h3])
theorem least_v {m i : Int} (h : i ≤ m) : (tmVar i).least m = true := least_mk h (by simp)
theorem least_num {m : Int} (hm : 1 ≤ m) : ∀ n, (numT n).least m = true
 | 0 => least_0 hm
 | n + 1 => least_1 hm (least_num hm n)
theorem least_plus {m : Int} (hm : 1 ≤ m) : plusT.least m = true :=
 least_T1 hm (least_T1 hm (least_T3 hm (least_v hm) (least_T1 hm (least_T1 hm (least_1 hm (least_v (by omega))))) (least_v (by omega))))
theorem least_pred {m : Int} (hm : 1 ≤ m) : predT.least m = true :=
 least_T1 hm (least_T3 hm (least_0 hm) (least_T1 hm (least_T1 hm (least_v hm))) (least_v (by omega)))
theorem least_sub {m : Int} (hm : 1 ≤ m) : subT.least m = true :=
 least_T1 hm (least_T1 hm (least_T3 hm (least_v hm) (least_T1 hm (least_T1 hm (least_2 hm (least_pred hm) (least_v (by omega))))) (least_v (by omega))))
theorem MkTm.least {M m : Nat} (hm' : 1 ≤ m) {n : Nat} {g : List Ty} {t : Ty} {x : Tm} (h : MkTm n g t x) (hM : 1 ≤ M) (hg : ∀ y ∈ g, tySz y ≤ M) (ht : tySz t ≤ M)
  (hb : g.length + (3 + M) * n + tySz t ≤ m) : x.least (m : Int) = true := by
 have hm : (1 : Int) ≤ (m : Int) := by omega
 have app : ∀ {g l : List Ty}, (∀ y ∈ g, tySz y ≤ M) → (∀ y ∈ l, tySz y ≤ M) → ∀ y ∈ g ++ l, tySz y ≤ M := by
  intro g l h1 h2 y hy
  rcases List.mem_append.1 hy with hy | hy
  ·exact h1 y hy
  ·exact h2 y hy
 have nat1 : tySz tNat ≤ M := by rw [tySz_nat]; exact hM
 have list1 : tySz tList ≤ M := by rw [tySz_list]; exact hM
 have mul : ∀ n : Nat, (3 + M) * (n + 1) = (3 + M) * n + (3 + M) := fun n => Nat.mul_succ _ _
 induction h with
 | @var n g t i hi => exact least_v (by omega)
 | @app n g t s b x hs _ _ h1 h2 =>
  have s1 := hs.sz0
  have := mul n
  exact least_2 hm (least_T1 hm (h1 (app hg (by simp; omega)) ht (by simp only [List.length_append, List.length_cons, List.length_nil]; omega))) (h2 hg (by omega) (by omega))
 | @fst n g t s x y hs _ _ h1 h2 =>
  have s1 := hs.sz0
  have := mul n
  exact least_1 hm (least_2 hm (h1 hg ht (by omega)) (h2 hg (by omega) (by omega)))
 | @snd n g t s x y hs _ _ h1 h2 =>
  have s1 := hs.sz0
  have := mul n
  exact least_1 hm (least_2 hm (h1 hg (by omega) (by omega)) (h2 hg ht (by omega)))
 | @recr n g t b f k hk _ _ h1 h2 =>
  have := mul n
  exact least_T3 hm (h2 hg ht (by omega)) (least_T1 hm (least_T1 hm (h1 (app hg (by simp [nat1, ht])) ht (by simp only [List.length_append, List.length_cons, List.length_nil]; omega)))) (least_num hm _)
 | @fold n g t b f x _ _ _ h1 h2 h3 =>
  have := mul n
  have l1 := tySz_list
  exact least_T3 hm (h2 hg ht (by omega)) (least_T1 hm (least_T1 hm (least_T1 hm (h1 (app hg (by simp [nat1, list1, ht])) ht (by simp only [List.length_append, List.length_cons, List.length_nil]; omega))))) (h3 hg list1 (by omega))
 | @fapp n g t s x i hi h _ h1 =>
  have s1 := hg _ (List.mem_of_getElem? h)
  rw [tySz_fun] at s1
  have := mul n
  exact least_2 hm (least_v (by omega)) (h1 hg (by omega) (by omega))
 | @succ n g x _ h1 => have := mul n; exact least_1 hm (h1 hg ht (by omega))
 | @plus n g x y _ _ h1 h2 => have := mul n; exact least_2 hm (least_2 hm (least_plus hm) (h1 hg ht (by omega))) (h2 hg ht (by omega))
 | @sub n g x y _ _ h1 h2 => have := mul n; exact least_2 hm (least_2 hm (least_sub hm) (h1 hg ht (by omega))) (h2 hg ht (by omega))
 | num => exact least_num hm _
 | @cons n g x y _ _ h1 h2 =>
  have := mul n
  have l1 := tySz_nat
  exact least_2 hm (h1 hg nat1 (by omega)) (h2 hg ht (by omega))
 | nil => exact least_0 hm
 | @pair n g a b x y _ _ h1 h2 =>
  rw [tySz_pair] at ht hb
  have : (3 + M) * (n - 1) ≤ (3 + M) * n := Nat.mul_le_mul_left _ (by omega)
  exact least_2 hm (h1 hg (by omega) (by omega)) (h2 hg (by omega) (by omega))
 | @lam n g a b x _ h1 =>
  rw [tySz_fun] at ht hb
  have : (3 + M) * (n - 1) ≤ (3 + M) * n := Nat.mul_le_mul_left _ (by omega)
  have := tySz_pos a
  exact least_T1 hm (h1 (app hg (by simp; omega)) (by omega) (by simp only [List.length_append, List.length_cons, List.length_nil]; omega))
 | unit => exact least_0 hm
mutual
def tmOcc : Tm → Int → Nat
 | .mk k i _ l, x => if k == 1 then (if i == x then 1 else 0) else tmOccL l (x + tmBelow k)
def tmOccL : List Tm → Int → Nat
 | [], _ => 0
 | t :: l, x => tmOcc t x + tmOccL l x
end
theorem tmBelow_range (k : Int) : 0 ≤ tmBelow k ∧ tmBelow k ≤ 1 := by unfold tmBelow; split <;> omega
mutual
theorem tmOcc_le : ∀ (t : Tm) (x : Int), tmOcc t x ≤ tmSz t
 | .mk k i t l, x => by
  rw [tmOcc, tmSz]
  have := tmOccL_le l (x + tmBelow k)
  repeat' split
  all_goals omega
theorem tmOccL_le : ∀ (l : List Tm) (x : Int), tmOccL l x ≤ tmSzL l
 | [], x => by simp [tmOccL]
 | t :: l, x => by rw [tmOccL, tmSzL]; have := tmOcc_le t x; have := tmOccL_le l x; omega
end
theorem TmG.cases' {p : Tm → Prop} {t : Tm} (h : TmG t) (hv : ∀ i, 0 ≤ i → p (tmVar i))
  (hn : ∀ k ty l, (k == 1) = false → tmHead k 0 ty l.length = true → (∀ x ∈ l, TmG x) → (∀ l', l'.length = l.length → (∀ x ∈ l', TmG x) → TmG (.mk k 0 ty l')) → p (.mk k 0 ty l)) : p t := by
 cases h with
 | @plain k l a ha hl ht h =>
  cases hk : (k == 1) with
  | true =>
   have hk' : k = 1 := by simpa using hk
   subst hk'
   have : a = 0 := by have e : arity 1 = some 0 := rfl; rw [e] at ha; exact (Option.some.inj ha).symm
   subst this
   have hl0 : l = [] := List.length_eq_zero_iff.1 (by omega)
   subst hl0
   exact hv 0 (by omega)
  | false =>
   have : tmHead k 0 (.mk 0 []) l.length = true := by simp [tmHead, ha, hl, ht, noType, Ty.kind, Ty.args]
   exact hn k _ l hk this h (fun l' h1 h2 => .plain ha (by rw [h1]; exact hl) ht h2)
 | @var i hi => exact hv i hi
 | @typd k t l a ha hl ht hg h =>
  have hk : (k == 1) = false := by
   cases hk : (k == 1) with
   | false => rfl
   | true =>
    have hk' : k = 1 := by simpa using hk
    subst hk'; cases ht
  have : tmHead k 0 t l.length = true := by simp [tmHead, ha, hl, ht, hg.err]
  exact hn k _ l hk this h (fun l' h1 h2 => .typd ha (by rw [h1]; exact hl) ht hg h2)
theorem tmSzL_map {g : Tm → Tm} : ∀ (l : List Tm), (∀ x ∈ l, tmSz (g x) = tmSz x) → tmSzL (l.map g) = tmSzL l
 | [], _ => rfl
 | x :: l, h => by rw [List.map_cons, tmSzL, tmSzL, h x (by simp), tmSzL_map l (fun y hy => h y (by simp [hy]))]
theorem tmSz_up {b : Int} : ∀ (t : Tm) (fr : Int), tmSz (t.up b fr) = tmSz t := by
 intro t
 induction t using Tm.ind with | h t ih => ?_
 intro fr
 rw [Tm.up_eq]
 cases t with | mk k i ty l =>
 rw [tmSz, tmSz]
 simp only [Tm.args] at ih ⊢
 rw [tmSzL_map l (fun x hx => ih x hx _)]
theorem tmSz_pos (t : Tm) : 1 ≤ tmSz t := by cases t; rw [tmSz]; omega
theorem TmG.up {b : Int} (hb0 : 0 ≤ b) (hb : b ≤ 1000000) : ∀ (n : Nat) {t : Tm}, TmG t → tmSz t ≤ n → t.least 536870912 = true → ∀ fr : Int, TmG (t.up b fr)
 | 0, t, h, hn, _, _ => by have := tmSz_pos t; omega
 | n + 1, t, h, hn, hl, fr => by
  revert hn hl
  refine h.cases' (p := fun t => tmSz t ≤ n + 1 → t.least 536870912 = true → TmG (t.up b fr)) ?_ ?_
  ·intro i hi _ hl
   rw [tmVar, Tm.least_eq] at hl
   have hi2 : i ≤ 536870912 := by rw [Bool.and_eq_true] at hl; exact of_decide_eq_true hl.1
   rw [tmVar, Tm.up, Tm.upL]
   refine .var ?_
   split
   ·rw [addW_eq (by omega) (by omega) (by omega) (by omega)]; omega
   ·exact hi
  ·intro k ty l hk _ hg hmk hn hl
   rw [tmSz] at hn
   rw [Tm.least, Bool.and_eq_true] at hl
   rw [Tm.up, Tm.upL_map, hk]
   simp only [Bool.false_and, Bool.false_eq_true, if_false]
   refine hmk _ (by simp) ?_
   intro x hx
   obtain ⟨y, hy, rfl⟩ := List.mem_map.1 hx
   exact TmG.up hb0 hb n (hg y hy) (by have := tmSzL_mem hy; omega) (Tm.leastL_iff.1 hl.2 y hy) _
mutual
def fmOcc : Fm → Int → Nat
 | .mk k _ l a, x => tmOccL l x + fmOccL a (x + fmBelow k)
def fmOccL : List Fm → Int → Nat
 | [], _ => 0
 | t :: l, x => fmOcc t x + fmOccL l x
end
theorem addW_zero {a : Int} (h0 : 0 ≤ a) (hb : a ≤ 1000000) : addW a 0 = a := by rw [addW_eq (by omega) (by omega) (by omega) (by omega)]; omega
theorem TmG.err_val {t : Tm} (h : TmG t) (hs : tmSz t ≤ 1000000) : tmErr t = if tmSz t ≤ 4096 then 0 else 4 := by
 unfold tmErr
 rw [h.nodes_val hs, chk]
 by_cases h64 : tmSz t ≤ 4096
 ·rw [if_neg (by omega), if_pos h64]
 ·rw [if_pos (by omega), if_neg h64]
theorem MkFm.sz {u : Bool} {n : Nat} {g : List Ty} {f : Fm} (h : MkFm u n g f) (hg : ∀ y ∈ g, tySz y ≤ 3) : fmSz f + 1 ≤ 136 * 2 ^ n := by
 have b1 : bndT 3 1 = 67 := rfl
 induction h with
 | @eq n g x y h1 h2 =>
  have l1 := tySz_nat
  have a1 := (MkTm.sz (M := 3) (by omega) h1 hg (by omega)).1
  have a2 := (MkTm.sz (M := 3) (by omega) h2 hg (by omega)).1
  have := Nat.one_le_two_pow (n := n)
  rw [fmSz_eq]; omega
 | @two n g k a b _ _ _ h1 h2 => have := h1 hg; have := h2 hg; rw [fmSz_two, Nat.pow_succ]; omega
 | @q n g k s a _ hs _ h1 =>
  have hs' : tySz s ≤ 3 := (hs.up (by split <;> omega)).sz1
  have := h1 (by
   intro y hy
   rcases List.mem_append.1 hy with hy | hy
   ·exact hg y hy
   ·simp at hy; subst hy; exact hs')
  rw [fmSz_q, Nat.pow_succ]; omega
theorem zeroF_W : FmW zeroF := .mk _ _ _ _ tZero_W (by simp) (by simp) (by simp) (by simp)
mutual
def Tm.same : Tm → Tm → Bool
 | .mk k i t l, .mk k' i' t' l' => k == k' && i == i' && Ty.same t t' && Tm.sameL l l'
def Tm.sameL : List Tm → List Tm → Bool
 | [], [] => true
 | a :: l, b :: l' => Tm.same a b && Tm.sameL l l'
 | _, _ => false
end
theorem Tm.same_eq (a b : Tm) : Tm.same a b = (a.kind == b.kind && a.index == b.index && Ty.same a.type b.type && Tm.sameL a.args b.args) := by
 cases a; cases b; simp [Tm.same, Tm.kind, Tm.index, Tm.type, Tm.args]
mutual
def Fm.same : Fm → Fm → Bool
 | .mk k t l a, .mk k' t' l' a' => k == k' && Ty.same t t' && Tm.sameL l l' && Fm.sameL a a'
def Fm.sameL : List Fm → List Fm → Bool
 | [], [] => true
 | a :: l, b :: l' => Fm.same a b && Fm.sameL l l'
 | _, _ => false
end
theorem Fm.same_eq (a b : Fm) : Fm.same a b = (a.kind == b.kind && Ty.same a.type b.type && Tm.sameL a.terms b.terms && Fm.sameL a.args b.args) := by
 cases a; cases b; simp [Fm.same, Fm.kind, Fm.type, Fm.terms, Fm.args]
mutual
theorem Tm.same_refl : ∀ a : Tm, Tm.same a a = true
 | .mk k i t l => by simp [Tm.same, Ty.same_refl, Tm.sameL_refl l]
theorem Tm.sameL_refl : ∀ l : List Tm, Tm.sameL l l = true
 | [] => by simp [Tm.sameL]
 | x :: l => by simp [Tm.sameL, Tm.same_refl x, Tm.sameL_refl l]
end
mutual
theorem Fm.same_refl : ∀ a : Fm, Fm.same a a = true
 | .mk k t l a => by simp [Fm.same, Ty.same_refl, Tm.sameL_refl, Fm.sameL_refl a]
theorem Fm.sameL_refl : ∀ l : List Fm, Fm.sameL l l = true
 | [] => by simp [Fm.sameL]
 | x :: l => by simp [Fm.sameL, Fm.same_refl x, Fm.sameL_refl l]
end
mutual
def Tm.eachF {α : Type} (F : Int → Int → α → α) : Tm → Int → α → α
 | .mk k i _ l, b, s => Tm.eachL F l (if k == 2 then addW b 1 else b) (if k == 1 then F i b s else s)
def Tm.eachL {α : Type} (F : Int → Int → α → α) : List Tm → Int → α → α
 | [], _, s => s
 | t :: l, b, s => Tm.eachL F l b (Tm.eachF F t b s)
end
theorem Tm.eachF_eq {α : Type} (F : Int → Int → α → α) (t : Tm) (b : Int) (s : α) :
  t.eachF F b s = Tm.eachL F t.args (if t.kind == 2 then addW b 1 else b) (if t.kind == 1 then F t.index b s else s) := by cases t; rw [Tm.eachF]; rfl
theorem Tm.eachL_nil {α : Type} {F : Int → Int → α → α} {b : Int} {s : α} : Tm.eachL F [] b s = s := by rw [Tm.eachL]
theorem Tm.eachL_cons {α : Type} {F : Int → Int → α → α} {b : Int} {s : α} {t : Tm} {l : List Tm} : Tm.eachL F (t :: l) b s = Tm.eachL F l b (t.eachF F b s) := by rw [Tm.eachL]
def countF (a i b n : Int) : Int := if subW i b == a then addW n 1 else n
def Tm.count (t : Tm) (a : Int) : Int := t.eachF (countF a) 0 0
def nearF (i _b : Int) (s : Bool) : Bool := s && decide (i ≤ 536870912)
def Tm.near (t : Tm) : Bool := t.eachF nearF 0 true
def zeroT : Tm := .mk 0 0 (.mk 0 []) []
theorem zeroT_W : TmW zeroT := .mk _ _ _ _ tZero_W (by simp) (by simp)
def fa (f : Fm) (i : Nat) : Fm := f.args.getD i zeroF
def ft (f : Fm) (i : Nat) : Tm := f.terms.getD i zeroT
def ta (t : Tm) (i : Nat) : Tm := t.args.getD i zeroT
theorem fa_at {f x : Fm} {i : Nat} (h : f.args[i]? = some x) : fa f i = x := by unfold fa; rw [List.getD_eq_getElem?_getD, h]; rfl
theorem ft_at {f : Fm} {x : Tm} {i : Nat} (h : f.terms[i]? = some x) : ft f i = x := by unfold ft; rw [List.getD_eq_getElem?_getD, h]; rfl
theorem ta_at {t x : Tm} {i : Nat} (h : t.args[i]? = some x) : ta t i = x := by unfold ta; rw [List.getD_eq_getElem?_getD, h]; rfl
def lessF (s t : Tm) : Fm := fmEq (tm0 3 [tm0 3 [subT, tm0 5 [s]], t]) (tm0 4 [])
theorem lessF_W {s t : Tm} (hs : TmW s) (ht : TmW t) : FmW (lessF s t) := fmEq_W (tm0_W2 (tm0_W2 subT_W (tm0_W1 hs)) ht) tm0_W0
def bndHead (f : Fm) : Bool :=
 !(f.kind != (if f.kind == 4 then 4 else 5)) && !(f.type.kind != 1) && !((fa f 0).kind != (if f.kind == 4 then 3 else 2)) && !((fa (fa f 0) 0).kind != 1)
def bndSide (f : Fm) : Tm := ft (fa (fa f 0) 0) 0
def bndTerm (f : Fm) : Tm := ta (bndSide f) 1
def bndBody (f : Fm) : Fm := fa (fa f 0) 1
def bndRest (f : Fm) : Bool := !((bndSide f).kind != 3) && !decide ((bndTerm f).count 0 > 0) && Fm.same (fa (fa f 0) 0) (lessF (tmVar 0) (bndTerm f))
def isBnd (f : Fm) : Bool := bndHead f && bndRest f
def boundV (f : Fm) : V := if isBnd f then .tup [.bool (f.kind == 4), .agg (bndTerm f).cells, .agg (bndBody f).cells, .bool true]
 else .tup [.bool false, .agg zeroT.cells, .agg zeroF.cells, .bool false]
structure Fl where
 c : Bool
 f : Bool
 d : Bool
def Fl.z : Fl := ⟨false, false, false⟩
def Fl.n (x : Fl) : Int := (if x.c then 1 else 0) + (if x.f then 2 else 0) + (if x.d then 4 else 0)
theorem Fl.and (x y : Fl) : bandI .u8 x.n y.n = (Fl.mk (x.c && y.c) (x.f && y.f) (x.d && y.d)).n := by
 obtain ⟨a, b, c⟩ := x; obtain ⟨d, e, f⟩ := y
 revert a b c d e f; decide
theorem Fl.or (x y : Fl) : borI .u8 x.n y.n = (Fl.mk (x.c || y.c) (x.f || y.f) (x.d || y.d)).n := by
 obtain ⟨a, b, c⟩ := x; obtain ⟨d, e, f⟩ := y
 revert a b c d e f; decide
theorem Fl.and6 (x : Fl) : bandI .u8 x.n 6 = (Fl.mk false x.f x.d).n := by have := Fl.and x ⟨false, true, true⟩; simpa [Fl.n] using this
theorem Fl.and1 (x : Fl) : bandI .u8 x.n 1 = (Fl.mk x.c false false).n := by have := Fl.and x ⟨true, false, false⟩; simpa [Fl.n] using this
theorem Fl.and2 (x : Fl) : bandI .u8 x.n 2 = (Fl.mk false x.f false).n := by have := Fl.and x ⟨false, true, false⟩; simpa [Fl.n] using this
theorem Fl.and4 (x : Fl) : bandI .u8 x.n 4 = (Fl.mk false false x.d).n := by have := Fl.and x ⟨false, false, true⟩; simpa [Fl.n] using this
theorem Fl.or1 (x : Fl) : borI .u8 x.n 1 = (Fl.mk true x.f x.d).n := by have := Fl.or x ⟨true, false, false⟩; simpa [Fl.n] using this
def flag (k : Int) (b : Bool) (is : List (Fl × List Fl)) : Fl :=
 if k == 1 then ⟨false, true, true⟩
 else if k == 2 || k == 3 then
  ⟨(is.getD 1 (.z, [])).1.c || (k == 2 && (is.getD 0 (.z, [])).1.c), (is.getD 0 (.z, [])).1.f && (is.getD 1 (.z, [])).1.f, (is.getD 0 (.z, [])).1.d && (is.getD 1 (.z, [])).1.d⟩
 else ⟨(is.getD 0 (.z, [])).1.c || k == 5, false, b && ((is.getD 0 (.z, [])).2.getD 1 .z).d⟩
mutual
def Fm.info : Fm → Fl × List Fl
 | .mk k t l a => (flag k (isBnd (.mk k t l a)) (Fm.infoL a), (Fm.infoL a).map (·.1))
def Fm.infoL : List Fm → List (Fl × List Fl)
 | [] => []
 | f :: l => f.info :: Fm.infoL l
end
def Fm.fl (f : Fm) : Fl := f.info.1
theorem Fm.fl_eqn {x y : Tm} : (fmEq x y).fl = ⟨false, true, true⟩ := by simp [Fm.fl, fmEq, Fm.info, flag]
theorem Fm.fl_1 {f : Fm} (h : f.kind = 1) : f.fl = ⟨false, true, true⟩ := by cases f; simp only [Fm.kind] at h; subst h; simp [Fm.fl, Fm.info, flag]
theorem Fm.fl_2 {f a b : Fm} (h : f.kind = 2 ∨ f.kind = 3) (ha : f.args = [a, b]) :
  f.fl = ⟨b.fl.c || (f.kind == 2 && a.fl.c), a.fl.f && b.fl.f, a.fl.d && b.fl.d⟩ := by
 obtain ⟨k, t, l, ar⟩ := f
 simp only [Fm.kind, Fm.args] at h ha ⊢
 subst ha
 rcases h with rfl | rfl <;> simp [Fm.fl, Fm.info, Fm.infoL, flag]
theorem Fm.fl_q {f a : Fm} (h : 4 ≤ f.kind) (ha : f.args = [a]) :
  f.fl = ⟨a.fl.c || f.kind == 5, false, isBnd f && (((Fm.infoL a.args).map (fun p => p.1)).getD 1 Fl.z).d⟩ := by
 obtain ⟨k, t, l, ar⟩ := f
 simp only [Fm.kind, Fm.args] at h ha ⊢
 subst ha
 have h1 : (k == 1) = false := by simp; omega
 have h2 : (k == 2) = false := by simp; omega
 have h3 : (k == 3) = false := by simp; omega
 cases a
 simp [Fm.fl, Fm.info, Fm.infoL, flag, h1, h2, h3, Fm.args]
theorem Fm.fl_qn {f a : Fm} (h : 4 ≤ f.kind) (ha : f.args = [a]) (hb : isBnd f = false) : f.fl = ⟨a.fl.c || f.kind == 5, false, false⟩ := by rw [Fm.fl_q h ha, hb]; simp
theorem Fm.fl_qb {f a x y : Fm} (h : 4 ≤ f.kind) (ha : f.args = [a]) (hb : isBnd f = true) (hy : a.args = [x, y]) : f.fl = ⟨a.fl.c || f.kind == 5, false, y.fl.d⟩ := by
 rw [Fm.fl_q h ha, hb, hy]; simp [Fm.infoL, Fm.fl]
theorem Fm.fl_two {k : Int} {a b : Fm} (h : k = 2 ∨ k = 3) : (fmTwo k a b).fl = ⟨b.fl.c || (k == 2 && a.fl.c), a.fl.f && b.fl.f, a.fl.d && b.fl.d⟩ := Fm.fl_2 (f := fmTwo k a b) h rfl
def Fm.has (f : Fm) (k : Int) : Bool × Int := if fmErr f != 0 then (false, fmErr f) else ((if k == 1 then f.fl.c else if k == 2 then f.fl.f else f.fl.d), 0)
@[go_sem] def boolErrV (p : Bool × Int) : V := .tup [.bool p.1, .int .i64 p.2]
theorem eachL_count {a b : Int} : ∀ (l : List Tm) (n : Nat), (∀ y ∈ l, ∀ m : Nat, m + tmSz y ≤ 1000000 → y.eachF (countF a) b (m : Int) = ((m + tmOcc y (a + b) : Nat) : Int)) → n + tmSzL l ≤ 1000000 →
  Tm.eachL (countF a) l b (n : Int) = ((n + tmOccL l (a + b) : Nat) : Int)
 | [], n, _, _ => by rw [Tm.eachL_nil, tmOccL]; rfl
 | t :: l, n, h, hb => by
  rw [tmSzL] at hb
  have := tmOcc_le t (a + b)
  rw [Tm.eachL_cons, h t (by simp) n (by omega), eachL_count l _ (fun y hy => h y (by simp [hy])) (by omega), tmOccL, Nat.add_assoc]
theorem below_eq {k b : Int} (h0 : 0 ≤ b) (h1 : b ≤ 1000000) : (if k == 2 then addW b 1 else b) = b + tmBelow k := by
 unfold tmBelow
 cases k == 2 with
 | true => simp only [if_true]; exact addW_eq (by omega) (by omega) (by omega) (by omega)
 | false => simp
mutual
theorem least_mono {m m' : Int} (h : m ≤ m') : ∀ t : Tm, t.least m = true → t.least m' = true
 | .mk k i ty l, e => by
  rw [Tm.least, Bool.and_eq_true] at e ⊢
  exact ⟨by have := of_decide_eq_true e.1; simp; omega, leastL_mono h l e.2⟩
theorem leastL_mono {m m' : Int} (h : m ≤ m') : ∀ l : List Tm, Tm.leastL m l = true → Tm.leastL m' l = true
 | [], _ => by rw [Tm.leastL]
 | t :: l, e => by
  rw [Tm.leastL, Bool.and_eq_true] at e ⊢
  exact ⟨least_mono h t e.1, leastL_mono h l e.2⟩
end
theorem TmG.each_occ : ∀ (k : Nat) {t : Tm}, TmG t → tmSz t ≤ k → t.least 1000000000 = true → ∀ a b : Int, 0 ≤ a → 0 ≤ b → a + b + k ≤ 1000000 →
  ∀ m : Nat, m + tmSz t ≤ 1000000 → t.eachF (countF a) b (m : Int) = ((m + tmOcc t (a + b) : Nat) : Int)
 | 0, t, h, hn, _, _, _, _, _, _, _, _ => by have := tmSz_pos t; omega
 | k + 1, t, h, hn, hl, a, b, ha, hb, hab, m, hm => by
  revert hn hl hm
  refine h.cases' (p := fun t => tmSz t ≤ k + 1 → t.least 1000000000 = true → m + tmSz t ≤ 1000000 → t.eachF (countF a) b (m : Int) = ((m + tmOcc t (a + b) : Nat) : Int)) ?_ ?_
  ·intro i hi _ hl _
   rw [tmVar, Tm.least_eq] at hl
   have hi2 : i ≤ 1000000000 := by rw [Bool.and_eq_true] at hl; exact of_decide_eq_true hl.1
   rw [tmVar, Tm.eachF, Tm.eachL_nil, tmOcc]
   unfold countF
   rw [subW_eq (by omega) (by omega) (by omega) (by omega)]
   have e : (i - b == a) = (i == a + b) := by
    by_cases h : i = a + b
    ·have h1 : (i == a + b) = true := by simpa using h
     rw [h1]; simp; omega
    ·have h1 : (i == a + b) = false := by simpa using h
     rw [h1]; simp; omega
   rw [e]
   cases (i == a + b) with
   | true => simp only [beq_self_eq_true, if_true]; rw [addW_eq (by omega) (by omega) (by omega) (by omega)]; rfl
   | false => rfl
  ·intro kk ty l hk _ hg _ hn hl hm
   rw [tmSz] at hn hm
   rw [Tm.least, Bool.and_eq_true] at hl
   have hr := tmBelow_range kk
   rw [Tm.eachF, tmOcc, hk, below_eq hb (by omega)]
   simp only [Bool.false_eq_true, if_false]
   have := eachL_count (a := a) (b := b + tmBelow kk) l m (fun y hy m' hm' => by
    have hsy := tmSzL_mem hy
    exact TmG.each_occ k (hg y hy) (by omega) (Tm.leastL_iff.1 hl.2 y hy) a _ ha (by omega) (by omega) m' hm') (by omega)
   rw [this, Int.add_assoc]
theorem TmG.count_occ {t : Tm} (h : TmG t) (hs : tmSz t ≤ 100000) (hl : t.least 1000000000 = true) {a : Int} (h0 : 0 ≤ a) (h1 : a ≤ 100000) : t.count a = (tmOcc t a : Int) := by
 unfold Tm.count
 have := TmG.each_occ (tmSz t) h (Nat.le_refl _) hl a 0 h0 (by omega) (by omega) 0 (by omega)
 simpa using this
theorem tmOccL_zero {x : Int} : ∀ {l : List Tm}, (∀ y ∈ l, tmOcc y x = 0) → tmOccL l x = 0
 | [], _ => rfl
 | y :: l, h => by rw [tmOccL, h y (by simp), tmOccL_zero (fun z hz => h z (by simp [hz]))]
theorem TmG.up_occ : ∀ (k : Nat) {t : Tm}, TmG t → tmSz t ≤ k → t.least 536870912 = true → ∀ b : Int, 0 ≤ b → b + k ≤ 1000000 → tmOcc (t.up 1 b) b = 0
 | 0, t, h, hn, _, _, _, _ => by have := tmSz_pos t; omega
 | k + 1, t, h, hn, hl, b, hb, hab => by
  revert hn hl
  refine h.cases' (p := fun t => tmSz t ≤ k + 1 → t.least 536870912 = true → tmOcc (t.up 1 b) b = 0) ?_ ?_
  ·intro i hi _ hl
   rw [tmVar, Tm.least_eq] at hl
   have hi2 : i ≤ 536870912 := by rw [Bool.and_eq_true] at hl; exact of_decide_eq_true hl.1
   rw [tmVar, Tm.up, Tm.upL, tmOcc]
   simp only [beq_self_eq_true, Bool.true_and, if_true]
   by_cases h : i ≥ b
   ·rw [decide_eq_true h, addW_eq (by omega) (by omega) (by omega) (by omega)]
    have : (i + 1 == b) = false := by simp; omega
    simp [this]
   ·rw [decide_eq_false h]
    have : (i == b) = false := by simp; omega
    simp [this]
  ·intro kk ty l hk _ hg _ hn hl
   rw [tmSz] at hn
   rw [Tm.least, Bool.and_eq_true] at hl
   have hr := tmBelow_range kk
   have e : addW b (tmBelow kk) = b + tmBelow kk := addW_eq (by omega) (by omega) (by omega) (by omega)
   rw [Tm.up, Tm.upL_map, tmOcc, hk, e]
   simp only [Bool.false_and, Bool.false_eq_true, if_false]
   refine tmOccL_zero ?_
   intro x hx
   obtain ⟨y, hy, rfl⟩ := List.mem_map.1 hx
   exact TmG.up_occ k (hg y hy) (by have := tmSzL_mem hy; omega) (Tm.leastL_iff.1 hl.2 y hy) _ (by omega) (by omega)
def bndF (all : Bool) (x : Tm) (f : Fm) : Fm := fmQ (if all then 4 else 5) tNat (fmTwo (if all then 3 else 2) (lessF (tmVar 0) x) f)
theorem bndF_bnd {all : Bool} {x : Tm} {f : Fm} (hx : x.count 0 = 0) : isBnd (bndF all x f) = true := by
 have h1 : bndHead (bndF all x f) = true := by cases all <;> rfl
 have h2 : bndTerm (bndF all x f) = x := rfl
 have h3 : (bndSide (bndF all x f)).kind = 3 := rfl
 have h4 : fa (fa (bndF all x f) 0) 0 = lessF (tmVar 0) x := rfl
 unfold isBnd bndRest
 rw [h1, h2, h3, h4, Fm.same_refl, hx]; rfl
theorem bndF_fl {all : Bool} {x : Tm} {f : Fm} (hx : x.count 0 = 0) : (bndF all x f).fl.d = f.fl.d := by
 have hk : 4 ≤ (bndF all x f).kind := by cases all <;> simp [bndF, fmQ, Fm.kind]
 rw [Fm.fl_qb hk rfl (bndF_bnd hx) rfl]
theorem lessF_G {u : Bool} {s t : Tm} (hs : TmG s) (ht : TmG t) : FmG u (lessF s t) := .eq (.t2 ar3 rfl (.t2 ar3 rfl subT_G (.t1 ar5 rfl hs)) ht) (.t0 ar4 rfl)
theorem lessF_sz {s t : Tm} : fmSz (lessF s t) = tmSz s + tmSz t + 21 := by unfold lessF; rw [fmSz_eq, tmSz_2, tmSz_2, tmSz_1, tmSz_0, tmSz_sub]; omega
theorem bndF_sz {all : Bool} {x : Tm} {f : Fm} : fmSz (bndF all x f) = tmSz x + fmSz f + 24 := by unfold bndF; rw [fmSz_q, fmSz_two, lessF_sz, tmSz_v]; omega
theorem bndF_G {u all : Bool} {x : Tm} {f : Fm} (hx : TmG x) (hf : FmG u f) : FmG u (bndF all x f) :=
 .q (by cases all <;> simp) .nat (.two (by cases all <;> simp) (lessF_G v0_G hx) hf)
theorem bndF_W {all : Bool} {x : Tm} {f : Fm} (hx : TmW x) (hf : FmW f) : FmW (bndF all x f) := fmQ_W tNat_W (fmTwo_W (lessF_W (tmVar_W _) hx) hf)
inductive MkDec : Nat → List Ty → Fm → Prop
 | eq {n : Nat} {g : List Ty} {x y : Tm} : MkTm 1 g tNat x → MkTm 1 g tNat y → MkDec n g (fmEq x y)
 | two {n : Nat} {g : List Ty} {k : Int} {a b : Fm} (hk : k = 2 ∨ k = 3) : MkDec n g a → MkDec n g b → MkDec (n + 1) g (fmTwo k a b)
 | bnd {n : Nat} {g : List Ty} {all : Bool} {x : Tm} {a : Fm} : MkTm 1 g tNat x → MkDec n (g ++ [tNat]) a → MkDec (n + 1) g (bndF all (x.up 1 0) a)
theorem MkTm.small {g : List Ty} {x : Tm} (h : MkTm 1 g tNat x) (hg : ∀ y ∈ g, MkTy 1 y) (hb : g.length ≤ 10000) : TmG x ∧ tmSz x ≤ 67 ∧ x.least 536870912 = true := by
 have b1 : bndT 3 1 = 67 := rfl
 have g3 : ∀ y ∈ g, tySz y ≤ 3 := fun y hy => (hg y hy).sz1
 have l1 := tySz_nat
 refine ⟨h.G (fun y hy => (hg y hy).G (by omega)) .nat, ?_, ?_⟩
 ·have := (MkTm.sz (M := 3) (by omega) h g3 (by omega)).1; omega
 ·have := h.least (M := 3) (m := 536870912) (by omega) (by omega) g3 (by omega) (by omega); simpa using this
theorem app_mk {g : List Ty} {s : Ty} (hg : ∀ y ∈ g, MkTy 1 y) (hs : MkTy 1 s) : ∀ y ∈ g ++ [s], MkTy 1 y := by
 intro y hy
 rcases List.mem_append.1 hy with hy | hy
 ·exact hg y hy
 ·simp at hy; subst hy; exact hs
theorem MkTm.up1 {g : List Ty} {x : Tm} (h : MkTm 1 g tNat x) (hg : ∀ y ∈ g, MkTy 1 y) (hb : g.length ≤ 10000) :
  TmG (x.up 1 0) ∧ tmSz (x.up 1 0) ≤ 67 ∧ (x.up 1 0).count 0 = 0 := by
 obtain ⟨h1, h2, h3⟩ := h.small hg hb
 have hG := TmG.up (b := 1) (by omega) (by omega) 67 h1 h2 h3 0
 refine ⟨hG, by rw [tmSz_up]; exact h2, ?_⟩
 have hl : (x.up 1 0).least 536870912 = true := by
  have := h.least (M := 3) (m := 536870911) (by omega) (by omega) (fun y hy => (hg y hy).sz1) (by rw [tySz_nat]; omega) (by rw [tySz_nat]; omega)
  have key : ∀ (n : Nat) {t : Tm}, tmSz t ≤ n → t.least 536870911 = true → ∀ fr : Int, TmG t → (t.up 1 fr).least 536870912 = true := by
   intro n
   induction n with
   | zero => intro t hn _ _ _; have := tmSz_pos t; omega
   | succ n ih =>
    intro t hn hl fr hG
    cases t with | mk k i ty l =>
    rw [tmSz] at hn
    rw [Tm.least, Bool.and_eq_true] at hl
    have hi := of_decide_eq_true hl.1
    rw [Tm.up, Tm.upL_map]
    have h0 : 0 ≤ i := by cases hG <;> omega
    refine least_mk ?_ ?_
    ·split
     ·rw [addW_eq (by omega) (by omega) (by omega) (by omega)]; omega
     ·omega
    ·intro z hz
     obtain ⟨y, hy, rfl⟩ := List.mem_map.1 hz
     refine ih (by have := tmSzL_mem hy; omega) (Tm.leastL_iff.1 hl.2 y hy) _ ?_
     cases hG with
     | plain _ _ _ h => exact h y hy
     | var => simp at hy
     | typd _ _ _ _ h => exact h y hy
  exact key _ (Nat.le_refl _) (by simpa using this) 0 h1
 rw [hG.count_occ (by rw [tmSz_up]; omega) (least_mono (by omega) _ hl) (by omega) (by omega), TmG.up_occ 67 h1 h2 h3 0 (by omega) (by omega)]; rfl
theorem MkDec.all {n : Nat} {g : List Ty} {f : Fm} (h : MkDec n g f) (hg : ∀ y ∈ g, MkTy 1 y) (hb : g.length + n ≤ 10000) :
  FmG true f ∧ fmSz f + 1 ≤ 136 * 2 ^ n ∧ f.fl.d = true := by
 induction h with
 | @eq n g x y h1 h2 =>
  obtain ⟨a1, a2, _⟩ := h1.small hg (by omega)
  obtain ⟨b1, b2, _⟩ := h2.small hg (by omega)
  have := Nat.one_le_two_pow (n := n)
  exact ⟨.eq a1 b1, by rw [fmSz_eq]; omega, by rw [Fm.fl_eqn]⟩
 | @two n g k a b hk _ _ h1 h2 =>
  obtain ⟨a1, a2, a3⟩ := h1 hg (by omega)
  obtain ⟨b1, b2, b3⟩ := h2 hg (by omega)
  exact ⟨.two hk a1 b1, by rw [fmSz_two, Nat.pow_succ]; omega, by rw [Fm.fl_two hk, a3, b3]; rfl⟩
 | @bnd n g all x a hx _ h1 =>
  obtain ⟨c1, c2, c3⟩ := hx.up1 hg (by omega)
  obtain ⟨a1, a2, a3⟩ := h1 (app_mk hg .nat) (by simp; omega)
  have := Nat.one_le_two_pow (n := n)
  exact ⟨bndF_G c1 a1, by rw [bndF_sz, Nat.pow_succ]; omega, by rw [bndF_fl c3, a3]⟩
theorem Fm.good_head {f : Fm} (h : f.good = true) : formed f.kind f.type f.terms.length f.args.length = true ∧ (∀ x ∈ f.terms, x.good = true) ∧ ∀ x ∈ f.args, x.good = true := by
 rw [Fm.good_eq] at h
 simp only [Bool.and_eq_true, List.all_eq_true] at h
 exact ⟨h.1.1, h.1.2, h.2⟩
theorem Fm.good_kind {f : Fm} (h : f.good = true) : f.kind = 1 ∨ f.kind = 2 ∨ f.kind = 3 ∨ f.kind = 4 ∨ f.kind = 5 ∨ f.kind = 6 ∨ f.kind = 7 := by
 have h := (Fm.good_head h).1
 unfold formed fmWant at h
 by_cases h1 : f.kind = 1
 ·exact .inl h1
 by_cases h2 : f.kind = 2
 ·exact .inr (.inl h2)
 by_cases h3 : f.kind = 3
 ·exact .inr (.inr (.inl h3))
 by_cases h4 : f.kind = 4
 ·exact .inr (.inr (.inr (.inl h4)))
 by_cases h5 : f.kind = 5
 ·exact .inr (.inr (.inr (.inr (.inl h5))))
 by_cases h6 : f.kind = 6
 ·exact .inr (.inr (.inr (.inr (.inr (.inl h6)))))
 by_cases h7 : f.kind = 7
 ·exact .inr (.inr (.inr (.inr (.inr (.inr h7)))))
 simp [h1, h2, h3, h4, h5, h6, h7] at h
theorem Fm.good_two {f : Fm} (h : f.good = true) (hk : f.kind = 2 ∨ f.kind = 3) : ∃ a b, f.args = [a, b] ∧ a.good = true ∧ b.good = true := by
 obtain ⟨h1, _, h3⟩ := Fm.good_head h
 have hl : f.args.length = 2 := by
  unfold formed fmWant at h1
  rcases hk with hk | hk <;> rw [hk] at h1 <;> simp at h1 <;> omega
 obtain ⟨a, b, e⟩ := lst2 hl
 rw [e] at h3
 exact ⟨a, b, e, h3 a (by simp), h3 b (by simp)⟩
theorem Fm.good_q {f : Fm} (h : f.good = true) (hk : f.kind = 4 ∨ f.kind = 5 ∨ f.kind = 6 ∨ f.kind = 7) : ∃ a, f.args = [a] ∧ a.good = true := by
 obtain ⟨h1, _, h3⟩ := Fm.good_head h
 have hl : f.args.length = 1 := by
  unfold formed fmWant at h1
  rcases hk with hk | hk | hk | hk <;> rw [hk] at h1 <;> simp at h1 <;> omega
 obtain ⟨a, e⟩ := lst1 hl
 rw [e] at h3
 exact ⟨a, e, h3 a (by simp)⟩
theorem Fm.good_eqn {f : Fm} (h : f.good = true) (hk : f.kind = 1) : ∃ u v, f.terms = [u, v] ∧ u.good = true ∧ v.good = true := by
 obtain ⟨h1, h3, _⟩ := Fm.good_head h
 have hl : f.terms.length = 2 := by
  unfold formed fmWant at h1
  rw [hk] at h1; simp at h1; omega
 obtain ⟨a, b, e⟩ := lst2 hl
 rw [e] at h3
 exact ⟨a, b, e, h3 a (by simp), h3 b (by simp)⟩
theorem Tm.good_app {t : Tm} (h : t.good = true) (hk : t.kind = 3) : ∃ p q, t.args = [p, q] ∧ p.good = true ∧ q.good = true := by
 rw [Tm.good_eq] at h
 simp only [Bool.and_eq_true, List.all_eq_true] at h
 have hl : t.args.length = 2 := by
  have h1 := h.1
  unfold tmHead at h1
  rw [hk, ar3] at h1
  simp at h1; omega
 obtain ⟨a, b, e⟩ := lst2 hl
 have h3 := h.2
 rw [e] at h3
 exact ⟨a, b, e, h3 a (by simp), h3 b (by simp)⟩
theorem bnd_k {f : Fm} (hk : f.kind = 6 ∨ f.kind = 7) : isBnd f = false := by
 unfold isBnd bndHead
 rcases hk with hk | hk <;> rw [hk] <;> rfl
theorem bnd_ty {f : Fm} (h : (f.type.kind != 1) = true) : isBnd f = false := by
 unfold isBnd bndHead
 rw [h]; simp
theorem bnd_a4 {f a : Fm} (hk : f.kind = 4) (ha : f.args = [a]) (h : (a.kind != 3) = true) : isBnd f = false := by
 unfold isBnd bndHead fa
 rw [ha, hk]; simp [h]
theorem bnd_a5 {f a : Fm} (hk : f.kind = 5) (ha : f.args = [a]) (h : (a.kind != 2) = true) : isBnd f = false := by
 unfold isBnd bndHead fa
 rw [ha, hk]; simp [h]
theorem bnd_x {f a x y : Fm} (ha : f.args = [a]) (hx : a.args = [x, y]) (h : (x.kind != 1) = true) : isBnd f = false := by
 unfold isBnd bndHead fa
 rw [ha]
 have e : ([a].getD 0 zeroF) = a := rfl
 rw [e, hx]
 have e : ([x, y].getD 0 zeroF) = x := rfl
 rw [e, h]; simp
theorem bnd_t {f a x y : Fm} {u v : Tm} (ha : f.args = [a]) (hx : a.args = [x, y]) (hu : x.terms = [u, v]) : bndSide f = u ∧ bndTerm f = ta u 1 ∧ bndBody f = y ∧ fa (fa f 0) 0 = x := by
 unfold bndTerm bndBody bndSide fa ft
 rw [ha]
 have e : ([a].getD 0 zeroF) = a := rfl
 rw [e, hx]
 have e : ([x, y].getD 0 zeroF) = x := rfl
 rw [e, hu]
 exact ⟨rfl, rfl, rfl, rfl⟩
theorem bnd_u {f a x y : Fm} {u v : Tm} (ha : f.args = [a]) (hx : a.args = [x, y]) (hu : x.terms = [u, v]) (h : (u.kind != 3) = true) : isBnd f = false := by
 obtain ⟨h1, h2, h3, h4⟩ := bnd_t ha hx hu
 unfold isBnd bndRest
 rw [h1, h]; simp
theorem bnd_q {f a x y : Fm} {u v p q : Tm} (ha : f.args = [a]) (hx : a.args = [x, y]) (hu : x.terms = [u, v]) (hq : u.args = [p, q]) (h : decide (q.count 0 > 0) = true) : isBnd f = false := by
 obtain ⟨h1, h2, h3, h4⟩ := bnd_t ha hx hu
 have e : ta u 1 = q := ta_at (by rw [hq]; rfl)
 unfold isBnd bndRest
 rw [h2, e, h]; simp
theorem bnd_s {f a x y : Fm} {u v p q : Tm} (ha : f.args = [a]) (hx : a.args = [x, y]) (hu : x.terms = [u, v]) (hq : u.args = [p, q]) (h : Fm.same x (lessF (tmVar 0) q) = false) : isBnd f = false := by
 obtain ⟨h1, h2, h3, h4⟩ := bnd_t ha hx hu
 have e : ta u 1 = q := ta_at (by rw [hq]; rfl)
 unfold isBnd bndRest
 rw [h2, e, h4, h]; simp
theorem bnd_yes {f a x y : Fm} {u v p q : Tm} (hk : (f.kind = 4 ∧ (a.kind != 3) = false) ∨ (f.kind = 5 ∧ (a.kind != 2) = false)) (ht : (f.type.kind != 1) = false) (ha : f.args = [a]) (hx : a.args = [x, y])
  (hx1 : (x.kind != 1) = false) (hu : x.terms = [u, v]) (hu1 : (u.kind != 3) = false) (hq : u.args = [p, q]) (hc : decide (q.count 0 > 0) = false) (h : Fm.same x (lessF (tmVar 0) q) = true) :
  isBnd f = true ∧ bndTerm f = q ∧ bndBody f = y := by
 obtain ⟨h1, h2, h3, h4⟩ := bnd_t ha hx hu
 have e : ta u 1 = q := ta_at (by rw [hq]; rfl)
 have e0 : fa f 0 = a := fa_at (by rw [ha]; rfl)
 refine ⟨?_, by rw [h2, e], h3⟩
 unfold isBnd bndRest bndHead
 rw [h1, h2, e, h4, h, hc, hu1, hx1, ht, e0]
 rcases hk with ⟨hk, hk2⟩ | ⟨hk, hk2⟩ <;> rw [hk] <;> simp [hk2]
mutual
def Fm.univ : Fm → List Ty × Fm
 | .mk k t l a => if k == 4 then (match Fm.univL a with | x :: _ => (t :: x.1, x.2) | [] => ([], .mk k t l a)) else ([], .mk k t l a)
def Fm.univL : List Fm → List (List Ty × Fm)
 | [] => []
 | f :: l => f.univ :: Fm.univL l
end
theorem Fm.univ_4 {f a : Fm} (hk : (f.kind == 4) = true) (ha : f.args = [a]) : f.univ = (f.type :: a.univ.1, a.univ.2) := by
 obtain ⟨k, t, l, ar⟩ := f
 simp only [Fm.kind, Fm.args] at hk ha
 subst ha
 rw [Fm.univ, Fm.univL, Fm.univL, hk]; rfl
theorem Fm.univ_n {f : Fm} (hk : (f.kind == 4) = false) : f.univ = ([], f) := by
 obtain ⟨k, t, l, ar⟩ := f
 simp only [Fm.kind] at hk
 rw [Fm.univ, hk]; rfl
def Fm.task (f : Fm) : (List Ty × Ty) × (Fm × Bool) :=
 if fmErr f != 0 then (([], tZero), (zeroF, false))
 else if f.univ.2.kind != 5 || !(fa f.univ.2 0).fl.d then (([], tZero), (zeroF, false)) else ((f.univ.1, f.univ.2.type), (fa f.univ.2 0, true))
@[go_sem] def taskV (p : (List Ty × Ty) × (Fm × Bool)) : V := .tup [.sl .any (p.1.1.map Ty.cells), .agg p.1.2.cells, .agg p.2.1.cells, .bool p.2.2]
theorem Fm.ok_good {f : Fm} (h : (fmErr f != 0) = false) : f.good = true := by
 have h0 : fmErr f = 0 := by simpa using h
 have := Fm.ok_nodes h0
 unfold Fm.good
 cases hn : f.nodes with
 | none => exact absurd hn this
 | some n => rfl
theorem fmSzL_mem : ∀ {l : List Fm} {x : Fm}, x ∈ l → fmSz x ≤ fmSzL l
 | y :: l, x, h => by
  rw [fmSzL]
  rcases List.mem_cons.1 h with rfl | h
  ·omega
  ·have := fmSzL_mem h; omega
theorem fmSz_arg {f x : Fm} (h : x ∈ f.args) : fmSz x < fmSz f := by
 obtain ⟨k, t, l, a⟩ := f
 rw [fmSz]
 have := fmSzL_mem (show x ∈ a from h)
 omega
theorem bnd_body {f a : Fm} (ha : f.args = [a]) (ga : a.good = true) (h : isBnd f = true) : ∃ x y, a.args = [x, y] ∧ bndBody f = y ∧ y.good = true := by
 unfold isBnd bndHead at h
 simp only [Bool.and_eq_true, Bool.not_eq_true'] at h
 have e0 : fa f 0 = a := fa_at (by rw [ha]; rfl)
 have h3 := h.1.1.2
 rw [e0] at h3
 have hk : a.kind = 2 ∨ a.kind = 3 := by
  split at h3 <;> simp at h3
  ·exact .inr h3
  ·exact .inl h3
 obtain ⟨x, y, e, gx, gy⟩ := Fm.good_two ga hk
 exact ⟨x, y, e, by unfold bndBody; rw [e0]; exact fa_at (by rw [e]; rfl), gy⟩
theorem flag_eqn : (Fl.mk false true true).n = 6 := rfl
attribute [go_sem] Fl.and Fl.or Fl.and6 Fl.and1 Fl.and2 Fl.and4 Fl.or1 Bool.false_or Bool.or_false Bool.and_false Bool.false_and
theorem univ_len : ∀ f : Fm, f.univ.1.length ≤ fmSz f := by
 intro f
 induction f using Fm.ind with | h f ih => ?_
 obtain ⟨k, t, l, a⟩ := f
 rw [Fm.univ, fmSz]
 cases k == 4 with
 | false => simp
 | true =>
  match a, ih with
  | [], _ => simp [Fm.univL]
  | x :: a, ih =>
   have := ih x (by simp [Fm.args])
   rw [fmSzL]
   simp only [Fm.univL, if_true, List.length_cons]
   omega
theorem univ_good : ∀ f : Fm, FmW f → f.good = true → FmW f.univ.2 ∧ f.univ.2.good = true ∧ ∀ t ∈ f.univ.1, TyW t := by
 intro f
 induction f using Fm.ind with | h f ih => ?_
 intro hf hg
 cases hk : (f.kind == 4) with
 | false => rw [Fm.univ_n hk]; exact ⟨hf, hg, by simp⟩
 | true =>
  obtain ⟨a, ha, ga⟩ := Fm.good_q hg (.inl (by simpa using hk))
  have hm : a ∈ f.args := by rw [ha]; simp
  obtain ⟨h1, h2, h3⟩ := ih a hm (hf.arg hm) ga
  rw [Fm.univ_4 hk ha]
  refine ⟨h1, h2, ?_⟩
  intro t ht
  rcases List.mem_cons.1 ht with rfl | ht
  ·exact hf.ty
  ·exact h3 t ht
end GoAbs
namespace GoAbs
open Go Go.ChangeShapes Go.WideShapes Go.RowKit
def I64 (n : Int) : Prop := (Lit.int .i64 n).wf = true
inductive TyN : Ty → Prop
 | mk {k : Int} {l : List Ty} (h : I64 k) (r : ∀ x ∈ l, TyN x) : TyN (.mk k l)
inductive TmN : Tm → Prop
 | mk {k i : Int} {t : Ty} {l : List Tm} (h : I64 k) (h' : I64 i) (ht : TyN t) (r : ∀ x ∈ l, TmN x) : TmN (.mk k i t l)
inductive FmN : Fm → Prop
 | mk {k : Int} {t : Ty} {ts : List Tm} {l : List Fm} (h : I64 k) (ht : TyN t) (hs : ∀ x ∈ ts, TmN x) (r : ∀ x ∈ l, FmN x) : FmN (.mk k t ts l)
theorem I64_0 : I64 0 := by unfold I64; decide
instance : Inhabited {t : Ty // TyN t} := ⟨⟨.mk 0 [], .mk I64_0 (by simp)⟩⟩
instance : Inhabited {t : Tm // TmN t} := ⟨⟨.mk 0 0 (.mk 0 []) [], .mk I64_0 I64_0 (.mk I64_0 (by simp)) (by simp)⟩⟩
instance : Inhabited {t : Fm // FmN t} := ⟨⟨.mk 0 (.mk 0 []) [] [], .mk I64_0 (.mk I64_0 (by simp)) (by simp) (by simp)⟩⟩
theorem val_map {T : Type} {p : T → Prop} (ec : T → List V) (l : List {t : T // p t}) : (l.map fun y => ec y.1) = (l.map Subtype.val).map ec := by rw [List.map_map]; rfl
theorem val_mem {T : Type} {p : T → Prop} (l : List {t : T // p t}) : ∀ x ∈ l.map Subtype.val, p x := by
 intro x hx
 obtain ⟨y, _, rfl⟩ := List.mem_map.1 hx
 exact y.2
section
variable {H' : Type} {enc : TypeId × Value → H'} {P : Program} {W : World} {base : Nat} {sp : Nat → Bool} {held : Bool}
theorem raw_TyN {tI tT tTs : TypeId} {n0 n1 : Field} (hI : P.underlying tI = some (.int .i64)) (hT : P.underlying tT = some (.struct #[n0, n1])) (hs : P.underlying tTs = some (.slice tT))
  (f0 : n0.type = tI) (f1 : n1.type = tTs) (o0 : n0.offset = 0) (o1 : n1.offset = 1) (cI : P.cellsOf tI = 1) (cT : P.cellsOf tT = 2) (cs : P.cellsOf tTs = 1) :
  ∀ (fuel : Nat) (l : List Value) (x : DataW H' × List MemPlace), DataW.trod enc P W base sp held fuel tT l = some x → ∃ y : {t : Ty // TyN t}, CellsRV W l y.1.cells := by
 intro fuel
 induction fuel using Nat.strongRecOn with
 | _ fuel ih =>
  intro l x h
  obtain ⟨xs, n, hn, _, hl, hlen, hf⟩ := DataW.trod_struct hT h
  rw [cT] at hl
  match l, hl with
  | [a, b], _ =>
   have h0 := hf 0 n0 rfl
   have h1 := hf 1 n1 rfl
   rw [f0, o0, cI] at h0
   rw [f1, o1, cs] at h1
   simp only [List.drop_zero, List.take_succ_cons, List.take_zero, List.drop_succ_cons] at h0 h1
   obtain ⟨x0, e0⟩ : ∃ y, xs[0]? = some y := ⟨_, List.getElem?_eq_getElem (by rw [hlen]; simp)⟩
   obtain ⟨x1, e1⟩ : ∃ y, xs[1]? = some y := ⟨_, List.getElem?_eq_getElem (by rw [hlen]; simp)⟩
   rw [e0] at h0
   rw [e1] at h1
   obtain ⟨m, hm, _, hwf⟩ := DataW.trod_int hI h0
   cases hm
   obtain ⟨r, c, hc, hr⟩ := raw_slice (fun y : {t : Ty // TyN t} => y.1.cells) (by omega) hs cT (fun y => Ty.cells_len y.1) (fun m hm => ih m (by omega)) h1
   cases hc
   rw [val_map Ty.cells r] at hr
   refine ⟨⟨.mk m (r.map Subtype.val), .mk hwf (val_mem r)⟩, rfl, ?_⟩
   simp only
   rw [Ty.mk_cells]
   intro i c v hc hv
   match i with
   | 0 => simp at hc hv; subst hc hv; exact .int .i64 m
   | 1 => simp at hc hv; subst hc hv; exact hr
   | i + 2 => simp at hc
theorem raw_TmN {tI tT tTs tM tMs : TypeId} {n0 n1 m0 m1 m2 m3 : Field} (hI : P.underlying tI = some (.int .i64)) (hT : P.underlying tT = some (.struct #[n0, n1])) (hs : P.underlying tTs = some (.slice tT))
  (f0 : n0.type = tI) (f1 : n1.type = tTs) (o0 : n0.offset = 0) (o1 : n1.offset = 1) (cI : P.cellsOf tI = 1) (cT : P.cellsOf tT = 2) (cs : P.cellsOf tTs = 1)
  (hM : P.underlying tM = some (.struct #[m0, m1, m2, m3])) (hMs : P.underlying tMs = some (.slice tM)) (g0 : m0.type = tI) (g1 : m1.type = tI) (g2 : m2.type = tT) (g3 : m3.type = tMs)
  (q0 : m0.offset = 0) (q1 : m1.offset = 1) (q2 : m2.offset = 2) (q3 : m3.offset = 4) (cM : P.cellsOf tM = 5) (cMs : P.cellsOf tMs = 1) :
  ∀ (fuel : Nat) (l : List Value) (x : DataW H' × List MemPlace), DataW.trod enc P W base sp held fuel tM l = some x → ∃ y : {t : Tm // TmN t}, CellsRV W l y.1.cells := by
 intro fuel
 induction fuel using Nat.strongRecOn with
 | _ fuel ih =>
  intro l x h
  obtain ⟨xs, n, hn, _, hl, hlen, hf⟩ := DataW.trod_struct hM h
  rw [cM] at hl
  match l, hl with
  | [a, b, c, d, e], _ =>
   have h0 := hf 0 m0 rfl
   have h1 := hf 1 m1 rfl
   have h2 := hf 2 m2 rfl
   have h3 := hf 3 m3 rfl
   rw [g0, q0, cI] at h0
   rw [g1, q1, cI] at h1
   rw [g2, q2, cT] at h2
   rw [g3, q3, cMs] at h3
   simp only [List.drop_zero, List.take_succ_cons, List.take_zero, List.drop_succ_cons] at h0 h1 h2 h3
   obtain ⟨x0, e0⟩ : ∃ y, xs[0]? = some y := ⟨_, List.getElem?_eq_getElem (by rw [hlen]; simp)⟩
   obtain ⟨x1, e1⟩ : ∃ y, xs[1]? = some y := ⟨_, List.getElem?_eq_getElem (by rw [hlen]; simp)⟩
   obtain ⟨x2, e2⟩ : ∃ y, xs[2]? = some y := ⟨_, List.getElem?_eq_getElem (by rw [hlen]; simp)⟩
   obtain ⟨x3, e3⟩ : ∃ y, xs[3]? = some y := ⟨_, List.getElem?_eq_getElem (by rw [hlen]; simp)⟩
   rw [e0] at h0
   rw [e1] at h1
   rw [e2] at h2
   rw [e3] at h3
   obtain ⟨k, hk, _, kwf⟩ := DataW.trod_int hI h0
   cases hk
   obtain ⟨j, hj, _, jwf⟩ := DataW.trod_int hI h1
   cases hj
   obtain ⟨⟨ty, tyI⟩, _, hty⟩ := raw_TyN hI hT hs f0 f1 o0 o1 cI cT cs _ _ _ h2
   obtain ⟨r, c, hc, hr⟩ := raw_slice (fun y : {t : Tm // TmN t} => y.1.cells) (by omega) hMs cM (fun y => Tm.cells_len y.1) (fun m hm => ih m (by omega)) h3
   cases hc
   rw [val_map Tm.cells r] at hr
   refine ⟨⟨.mk k j ty (r.map Subtype.val), .mk kwf jwf tyI (val_mem r)⟩, by simp only; rw [Tm.mk_cells]; rfl, ?_⟩
   simp only at hty ⊢
   rw [Tm.mk_cells]
   rw [Ty.cells_eq] at hty
   intro i c v hc hv
   match i with
   | 0 => simp at hc hv; subst hc hv; exact .int .i64 k
   | 1 => simp at hc hv; subst hc hv; exact .int .i64 j
   | 2 => exact hty 0 c v (by simpa using hc) (by simpa using hv)
   | 3 => exact hty 1 c v (by simpa using hc) (by simpa using hv)
   | 4 => simp at hc hv; subst hc hv; exact hr
   | i + 5 => simp at hc
theorem rv_TmN {tI tT tTs tM tMs : TypeId} {n0 n1 m0 m1 m2 m3 : Field} (hI : P.underlying tI = some (.int .i64)) (hT : P.underlying tT = some (.struct #[n0, n1])) (hs : P.underlying tTs = some (.slice tT))
  (f0 : n0.type = tI) (f1 : n1.type = tTs) (o0 : n0.offset = 0) (o1 : n1.offset = 1) (cI : P.cellsOf tI = 1) (cT : P.cellsOf tT = 2) (cs : P.cellsOf tTs = 1)
  (hM : P.underlying tM = some (.struct #[m0, m1, m2, m3])) (hMs : P.underlying tMs = some (.slice tM)) (g0 : m0.type = tI) (g1 : m1.type = tI) (g2 : m2.type = tT) (g3 : m3.type = tMs)
  (q0 : m0.offset = 0) (q1 : m1.offset = 1) (q2 : m2.offset = 2) (q3 : m3.offset = 4) (cM : P.cellsOf tM = 5) (cMs : P.cellsOf tMs = 1)
  {base' : Nat} {v : Value} {d : DataW H'} {ps : List MemPlace} (hk : Value.okWide P W .any base' tM v) (h : DataW.Trod enc P W base sp held tM v d ps) : ∃ y : Tm, TmN y ∧ RV (G0 W) W v (.agg y.cells) := by
 obtain ⟨fuel, h⟩ := h
 simp only [Value.okWide, hM] at hk
 obtain ⟨vs, rfl, hvs, _⟩ := hk
 obtain ⟨⟨y, yI⟩, hy1, hy2⟩ := raw_TmN hI hT hs f0 f1 o0 o1 cI cT cs hM hMs g0 g1 g2 g3 q0 q1 q2 q3 cM cMs _ _ _ h
 simp only at hy1 hy2
 refine ⟨y, yI, .agg vs _ (by simpa [Value.cells] using hy1) fun i c v hc hv => hy2 i c v (by simpa [Value.cells] using hc) hv⟩
theorem raw_FmN {tI tT tTs tM tMs tF tFs : TypeId} {n0 n1 m0 m1 m2 m3 p0 p1 p2 p3 : Field} (hI : P.underlying tI = some (.int .i64)) (hT : P.underlying tT = some (.struct #[n0, n1])) (hs : P.underlying tTs = some (.slice tT))
  (f0 : n0.type = tI) (f1 : n1.type = tTs) (o0 : n0.offset = 0) (o1 : n1.offset = 1) (cI : P.cellsOf tI = 1) (cT : P.cellsOf tT = 2) (cs : P.cellsOf tTs = 1)
  (hM : P.underlying tM = some (.struct #[m0, m1, m2, m3])) (hMs : P.underlying tMs = some (.slice tM)) (g0 : m0.type = tI) (g1 : m1.type = tI) (g2 : m2.type = tT) (g3 : m3.type = tMs)
  (q0 : m0.offset = 0) (q1 : m1.offset = 1) (q2 : m2.offset = 2) (q3 : m3.offset = 4) (cM : P.cellsOf tM = 5) (cMs : P.cellsOf tMs = 1)
  (hF : P.underlying tF = some (.struct #[p0, p1, p2, p3])) (hFs : P.underlying tFs = some (.slice tF)) (w0 : p0.type = tI) (w1 : p1.type = tT) (w2 : p2.type = tMs) (w3 : p3.type = tFs)
  (u0 : p0.offset = 0) (u1 : p1.offset = 1) (u2 : p2.offset = 3) (u3 : p3.offset = 4) (cF : P.cellsOf tF = 5) (cFs : P.cellsOf tFs = 1) :
  ∀ (fuel : Nat) (l : List Value) (x : DataW H' × List MemPlace), DataW.trod enc P W base sp held fuel tF l = some x → ∃ y : {t : Fm // FmN t}, CellsRV W l y.1.cells := by
 intro fuel
 induction fuel using Nat.strongRecOn with
 | _ fuel ih =>
  intro l x h
  obtain ⟨xs, n, hn, _, hl, hlen, hf⟩ := DataW.trod_struct hF h
  rw [cF] at hl
  match l, hl with
  | [a, b, c, d, e], _ =>
   have h0 := hf 0 p0 rfl
   have h1 := hf 1 p1 rfl
   have h2 := hf 2 p2 rfl
   have h3 := hf 3 p3 rfl
   rw [w0, u0, cI] at h0
   rw [w1, u1, cT] at h1
   rw [w2, u2, cMs] at h2
   rw [w3, u3, cFs] at h3
   simp only [List.drop_zero, List.take_succ_cons, List.take_zero, List.drop_succ_cons] at h0 h1 h2 h3
   obtain ⟨x0, e0⟩ : ∃ y, xs[0]? = some y := ⟨_, List.getElem?_eq_getElem (by rw [hlen]; simp)⟩
   obtain ⟨x1, e1⟩ : ∃ y, xs[1]? = some y := ⟨_, List.getElem?_eq_getElem (by rw [hlen]; simp)⟩
   obtain ⟨x2, e2⟩ : ∃ y, xs[2]? = some y := ⟨_, List.getElem?_eq_getElem (by rw [hlen]; simp)⟩
   obtain ⟨x3, e3⟩ : ∃ y, xs[3]? = some y := ⟨_, List.getElem?_eq_getElem (by rw [hlen]; simp)⟩
   rw [e0] at h0
   rw [e1] at h1
   rw [e2] at h2
   rw [e3] at h3
   obtain ⟨k, hk, _, kwf⟩ := DataW.trod_int hI h0
   cases hk
   obtain ⟨⟨ty, tyI⟩, hty⟩ := raw_TyN hI hT hs f0 f1 o0 o1 cI cT cs _ _ _ h1
   obtain ⟨ts, c1, hc1, hr1⟩ := raw_slice (fun y : {t : Tm // TmN t} => y.1.cells) (by omega) hMs cM (fun y => Tm.cells_len y.1) (fun m hm => raw_TmN hI hT hs f0 f1 o0 o1 cI cT cs hM hMs g0 g1 g2 g3 q0 q1 q2 q3 cM cMs m) h2
   obtain ⟨r, c, hc, hr⟩ := raw_slice (fun y : {t : Fm // FmN t} => y.1.cells) (by omega) hFs cF (fun y => Fm.cells_len y.1) (fun m hm => ih m (by omega)) h3
   cases hc
   cases hc1
   rw [val_map Tm.cells ts] at hr1
   rw [val_map Fm.cells r] at hr
   refine ⟨⟨.mk k ty (ts.map Subtype.val) (r.map Subtype.val), .mk kwf tyI (val_mem ts) (val_mem r)⟩, by simp only; rw [Fm.mk_cells]; rfl, ?_⟩
   simp only at hty ⊢
   rw [Fm.mk_cells]
   rw [Ty.cells_eq] at hty
   intro i c v hc hv
   match i with
   | 0 => simp at hc hv; subst hc hv; exact .int .i64 k
   | 1 => exact hty.2 0 c v (by simpa using hc) (by simpa using hv)
   | 2 => exact hty.2 1 c v (by simpa using hc) (by simpa using hv)
   | 3 => simp at hc hv; subst hc hv; exact hr1
   | 4 => simp at hc hv; subst hc hv; exact hr
   | i + 5 => simp at hc
theorem rv_FmN {tI tT tTs tM tMs tF tFs : TypeId} {n0 n1 m0 m1 m2 m3 p0 p1 p2 p3 : Field} (hI : P.underlying tI = some (.int .i64)) (hT : P.underlying tT = some (.struct #[n0, n1])) (hs : P.underlying tTs = some (.slice tT))
  (f0 : n0.type = tI) (f1 : n1.type = tTs) (o0 : n0.offset = 0) (o1 : n1.offset = 1) (cI : P.cellsOf tI = 1) (cT : P.cellsOf tT = 2) (cs : P.cellsOf tTs = 1)
  (hM : P.underlying tM = some (.struct #[m0, m1, m2, m3])) (hMs : P.underlying tMs = some (.slice tM)) (g0 : m0.type = tI) (g1 : m1.type = tI) (g2 : m2.type = tT) (g3 : m3.type = tMs)
  (q0 : m0.offset = 0) (q1 : m1.offset = 1) (q2 : m2.offset = 2) (q3 : m3.offset = 4) (cM : P.cellsOf tM = 5) (cMs : P.cellsOf tMs = 1)
  (hF : P.underlying tF = some (.struct #[p0, p1, p2, p3])) (hFs : P.underlying tFs = some (.slice tF)) (w0 : p0.type = tI) (w1 : p1.type = tT) (w2 : p2.type = tMs) (w3 : p3.type = tFs)
  (u0 : p0.offset = 0) (u1 : p1.offset = 1) (u2 : p2.offset = 3) (u3 : p3.offset = 4) (cF : P.cellsOf tF = 5) (cFs : P.cellsOf tFs = 1)
  {base' : Nat} {v : Value} {d : DataW H'} {ps : List MemPlace} (hk : Value.okWide P W .any base' tF v) (h : DataW.Trod enc P W base sp held tF v d ps) : ∃ y : Fm, FmN y ∧ RV (G0 W) W v (.agg y.cells) := by
 obtain ⟨fuel, h⟩ := h
 simp only [Value.okWide, hF] at hk
 obtain ⟨vs, rfl, hvs, _⟩ := hk
 obtain ⟨⟨y, yI⟩, hy1, hy2⟩ := raw_FmN hI hT hs f0 f1 o0 o1 cI cT cs hM hMs g0 g1 g2 g3 q0 q1 q2 q3 cM cMs hF hFs w0 w1 w2 w3 u0 u1 u2 u3 cF cFs _ _ _ h
 simp only at hy1 hy2
 refine ⟨y, yI, .agg vs _ (by simpa [Value.cells] using hy1) fun i c v hc hv => hy2 i c v (by simpa [Value.cells] using hc) hv⟩
end
mutual
def Tm.hasV : Tm → Int → Bool
 | .mk k i _ l, a => (k == 1 && i == a) || Tm.hasVL l (addW a (tmBelow k))
def Tm.hasVL : List Tm → Int → Bool
 | [], _ => false
 | t :: l, a => t.hasV a || Tm.hasVL l a
end
theorem Tm.hasVL_any : ∀ (l : List Tm) (a : Int), Tm.hasVL l a = l.any fun x => x.hasV a
 | [], a => by simp [Tm.hasVL]
 | t :: l, a => by simp [Tm.hasVL, Tm.hasVL_any l a]
theorem Tm.hasV_eq (t : Tm) (a : Int) : t.hasV a = ((t.kind == 1 && t.index == a) || t.args.any fun x => x.hasV (addW a (tmBelow t.kind))) := by
 cases t; rw [Tm.hasV, Tm.hasVL_any]; rfl
theorem I64.lo {n : Int} (h : I64 n) : -9223372036854775808 ≤ n := by
 unfold I64 Lit.wf at h; simp only [Bool.and_eq_true, decide_eq_true_eq] at h; exact h.1
theorem I64.hi {n : Int} (h : I64 n) : n ≤ 9223372036854775807 := by
 unfold I64 Lit.wf at h; simp only [Bool.and_eq_true, decide_eq_true_eq] at h; exact h.2
theorem sub_is {i a b : Int} (hi : I64 i) (ha : 0 ≤ a) (hb : 0 ≤ b) (h : a + b ≤ 1000000) : (subW i b == a) = (i == a + b) := by
 have h1 := hi.lo
 have h2 := hi.hi
 by_cases hw : -9223372036854775808 ≤ i - b
 ·have e : subW i b = i - b := wrap_eq rfl (by omega) (by omega)
  rw [e, Bool.eq_iff_iff, beq_iff_eq, beq_iff_eq]; omega
 ·have e : subW i b = i - b + 18446744073709551616 := by
   unfold subW IntKind.wrap
   have e1 : (2 : Int) ^ IntKind.i64.bits = 18446744073709551616 := rfl
   have e2 : (2 : Int) ^ (IntKind.i64.bits - 1) = 9223372036854775808 := rfl
   have e3 : IntKind.i64.signed = true := rfl
   rw [e1, e2, e3]
   have e4 : (i - b) % 18446744073709551616 = i - b + 18446744073709551616 := by omega
   simp only [e4, Bool.true_and]
   rw [if_neg (by simp; omega)]
  rw [e, Bool.eq_iff_iff, beq_iff_eq, beq_iff_eq]; omega
theorem count_has : ∀ t : Tm, TmN t → ∀ a b n : Int, 0 ≤ a → 0 ≤ b → a + b + tmSz t ≤ 1000000 → 0 ≤ n → n + tmSz t ≤ 1000000 →
  n ≤ t.eachF (countF a) b n ∧ t.eachF (countF a) b n ≤ n + tmSz t ∧ decide (t.eachF (countF a) b n > n) = t.hasV (a + b) := by
 intro t
 induction t using Tm.ind with | h t ih => ?_
 intro hN a b n ha hb hs hn hns
 have key : ∀ (l : List Tm), (∀ x ∈ l, x ∈ t.args) → ∀ b n : Int, 0 ≤ b → a + b + tmSzL l ≤ 1000000 → 0 ≤ n → n + tmSzL l ≤ 1000000 →
   n ≤ Tm.eachL (countF a) l b n ∧ Tm.eachL (countF a) l b n ≤ n + tmSzL l ∧ decide (Tm.eachL (countF a) l b n > n) = l.any fun x => x.hasV (a + b) := by
  intro l
  induction l with
  | nil => intro _ b n _ _ _ _; rw [Tm.eachL]; simp [tmSzL]
  | cons x l ihl =>
   intro hm b n hb hs hn hns
   rw [Tm.eachL]
   rw [tmSzL] at hs hns
   have hx : TmN x := by cases hN with | mk _ _ _ r => exact r x (hm x (by simp))
   obtain ⟨p1, p2, p3⟩ := ih x (hm x (by simp)) hx a b n ha hb (by omega) hn (by omega)
   obtain ⟨q1, q2, q3⟩ := ihl (fun y hy => hm y (by simp [hy])) b (x.eachF (countF a) b n) hb (by omega) (by omega) (by omega)
   refine ⟨by omega, by rw [tmSzL]; omega, ?_⟩
   rw [List.any_cons, ← p3, ← q3, Bool.eq_iff_iff]
   simp only [Bool.or_eq_true, decide_eq_true_eq]
   omega
 obtain ⟨k, i, ty, l⟩ := t
 have hi : I64 i := by cases hN with | mk _ h' _ _ => exact h'
 rw [Tm.eachF_eq, Tm.hasV_eq]
 rw [tmSz] at hs hns ⊢
 simp only [Tm.kind, Tm.index, Tm.args] at key ⊢
 rcases Bool.eq_false_or_eq_true (k == 1) with k1 | k1
 ·
  have hk : k = 1 := by simpa using k1
  subst hk
  have e2 : ((1 : Int) == 2) = false := rfl
  simp only [e2, beq_self_eq_true, if_true, Bool.false_eq_true, if_false, Bool.true_and]
  have eb : addW (a + b) (tmBelow 1) = a + b := by
   have e0 : tmBelow 1 = 0 := rfl
   rw [e0, addW_zero (by omega) (by omega)]
  rw [eb]
  have hc : countF a i b n = if (i == a + b) = true then n + 1 else n := by
   unfold countF
   rw [sub_is hi ha hb (by omega)]
   split
   ·exact addW_eq (by omega) (by omega) (by omega) (by omega)
   ·rfl
  rcases Bool.eq_false_or_eq_true (i == a + b) with he | he
  ·
   rw [he, if_pos rfl] at hc
   rw [hc]
   obtain ⟨q1, q2, q3⟩ := key l (fun x hx => hx) b (n + 1) hb (by omega) (by omega) (by omega)
   refine ⟨by omega, by omega, ?_⟩
   rw [he, Bool.true_or, decide_eq_true_eq]; omega
  ·
   rw [he, if_neg (by simp)] at hc
   rw [hc]
   obtain ⟨q1, q2, q3⟩ := key l (fun x hx => hx) b n hb (by omega) (by omega) (by omega)
   exact ⟨by omega, by omega, by rw [he, Bool.false_or]; exact q3⟩
 ·
  simp only [k1, Bool.false_eq_true, if_false, Bool.false_and, Bool.false_or]
  rcases Bool.eq_false_or_eq_true (k == 2) with k2 | k2
  ·
   have eb : addW (a + b) (tmBelow k) = a + (b + 1) := by
    have e0 : tmBelow k = 1 := by unfold tmBelow; rw [k2]; rfl
    rw [e0, addW_eq (by omega) (by omega) (by omega) (by omega)]; omega
   have eb' : addW b 1 = b + 1 := addW_eq (by omega) (by omega) (by omega) (by omega)
   simp only [k2, if_true]
   rw [eb, eb']
   obtain ⟨q1, q2, q3⟩ := key l (fun x hx => hx) (b + 1) n (by omega) (by omega) (by omega) (by omega)
   exact ⟨by omega, by omega, q3⟩
  ·
   have eb : addW (a + b) (tmBelow k) = a + b := by
    have e0 : tmBelow k = 0 := by unfold tmBelow; rw [k2]; rfl
    rw [e0, addW_zero (by omega) (by omega)]
   simp only [k2, Bool.false_eq_true, if_false]
   rw [eb]
   obtain ⟨q1, q2, q3⟩ := key l (fun x hx => hx) b n hb (by omega) (by omega) (by omega)
   exact ⟨by omega, by omega, q3⟩
theorem has_count {t : Tm} (h : TmN t) (hs : tmSz t ≤ 900000) : t.hasV 0 = decide (t.count 0 > 0) := by
 obtain ⟨_, _, e⟩ := count_has t h 0 0 0 (by omega) (by omega) (by omega) (by omega) (by omega)
 exact e.symm
def tmLift (t : Tm) (fr b : Int) : Tm × Int :=
 if tmErr t != 0 then (zeroT, tmErr t)
 else if decide (fr < 0) || decide (fr > 4096) || decide (b < 0) || decide (b > 4096) || !t.least 536870912 then (zeroT, 1)
 else (t.up b fr, 0)
@[go_sem] def tmErrV (p : Tm × Int) : V := .tup [.agg p.1.cells, .int .i64 p.2]
def lessR (s t : Tm) : Fm × Int :=
 if tmErr s != 0 then (zeroF, tmErr s) else if tmErr t != 0 then (zeroF, tmErr t)
 else if decide ((ft (lessF s t) 0).szW > 4096) || decide ((lessF s t).szW > 4096) then (zeroF, 4) else (lessF s t, 0)
def bndR (all : Bool) (t : Tm) (f : Fm) : Fm × Int :=
 if (tmLift t 0 1).2 != 0 then (zeroF, (tmLift t 0 1).2) else if fmErr f != 0 then (zeroF, fmErr f)
 else if (lessR (tmVar 0) (tmLift t 0 1).1).2 != 0 then (zeroF, (lessR (tmVar 0) (tmLift t 0 1).1).2)
 else if decide ((bndF all (tmLift t 0 1).1 f).szW > 4096) then (zeroF, 4) else (bndF all (tmLift t 0 1).1 f, 0)
theorem TmG.szW {t : Tm} (h : TmG t) (hs : tmSz t ≤ 1000000) : t.szW = (tmSz t : Int) := Tm.szW_nodes _ _ (h.nodes_val hs)
theorem FmG.szW {u : Bool} {f : Fm} (h : FmG u f) (hs : fmSz f ≤ 1000000) : f.szW = (fmSz f : Int) := Fm.szW_nodes _ _ (h.nodes_val hs)
theorem TmG.err0 {t : Tm} (h : TmG t) (hs : tmSz t ≤ 4096) : tmErr t = 0 := by rw [h.err_val (by omega), if_pos hs]
theorem FmG.err0 {u : Bool} {f : Fm} (h : FmG u f) (hs : fmSz f ≤ 4096) : fmErr f = 0 := by rw [h.err_val (by omega), if_pos hs]
theorem TmG.lift1 {t : Tm} (h : TmG t) (hs : tmSz t ≤ 4096) (hl : t.least 536870912 = true) : tmLift t 0 1 = (t.up 1 0, 0) := by
 unfold tmLift
 rw [h.err0 hs, hl]; rfl
theorem TmG.less {s t : Tm} (h1 : TmG s) (h2 : TmG t) (z1 : tmSz s ≤ 1000) (z2 : tmSz t ≤ 1000) : lessR s t = (lessF s t, 0) := by
 unfold lessR
 rw [h1.err0 (by omega), h2.err0 (by omega)]
 have hl : TmG (ft (lessF s t) 0) := .t2 ar3 rfl (.t2 ar3 rfl subT_G (.t1 ar5 rfl h1)) h2
 have zl : tmSz (ft (lessF s t) 0) = tmSz s + tmSz t + 19 := by
  show tmSz (tm0 3 [tm0 3 [subT, tm0 5 [s]], t]) = _
  rw [tmSz_2, tmSz_2, tmSz_1, tmSz_sub]; omega
 have hF : FmG true (lessF s t) := lessF_G h1 h2
 have zF := lessF_sz (s := s) (t := t)
 rw [hl.szW (by omega), hF.szW (by omega), zl, zF]
 have d1 : decide (((tmSz s + tmSz t + 19 : Nat) : Int) > 4096) = false := by simp; omega
 have d2 : decide (((tmSz s + tmSz t + 21 : Nat) : Int) > 4096) = false := by simp; omega
 rw [d1, d2]; rfl
theorem bndR_small {all : Bool} {t : Tm} {f : Fm} (h : TmG t) (hs : tmSz t ≤ 1000) (hl : t.least 536870912 = true) (hf : FmG true f) (zf : fmSz f ≤ 3000) :
  bndR all t f = (bndF all (t.up 1 0) f, 0) := by
 have hu := TmG.up (b := 1) (by omega) (by omega) _ h (Nat.le_refl _) hl 0
 have zu := tmSz_up (b := 1) t 0
 unfold bndR
 rw [h.lift1 (by omega) hl]
 simp only
 rw [hf.err0 (by omega), v0_G.less hu (by rw [tmSz_v]; omega) (by omega), (bndF_G (all := all) hu hf).szW (by rw [bndF_sz]; omega), bndF_sz]
 have d1 : decide (((tmSz (t.up 1 0) + fmSz f + 24 : Nat) : Int) > 4096) = false := by simp; omega
 rw [d1]; rfl
/- scope.Lift. -/
mutual
def Tm.sl (b : Int) : Tm → Int → Tm
 | .mk k i t l, fr => if b == 0 then .mk k i t l else if k == 1 then .mk k (if decide (i ≥ fr) then addW i b else i) t l
  else .mk k i t (Tm.slL b l (if k == 2 then addW fr 1 else fr))
def Tm.slL (b : Int) : List Tm → Int → List Tm
 | [], _ => []
 | t :: l, fr => t.sl b fr :: Tm.slL b l fr
end
/- scope.put. -/
/- scope.uses. -/
/- matrix.Free. -/
mutual
def fdp : Fm → Nat
 | .mk _ _ _ a => fdpL a + 1
def fdpL : List Fm → Nat
 | [] => 0
 | f :: l => max (fdp f) (fdpL l)
end
end GoAbs
set_option maxRecDepth 8000
namespace GoAbs
open Go
theorem fleast_two {k : Int} {a b : Fm} {M : Int} (h1 : a.least M = true) (h2 : b.least M = true) : (fmTwo k a b).least M = true := by
 rw [fmTwo, Fm.least]; simp [Tm.leastL_nil, Fm.leastL_cons, Fm.leastL_nil, h1, h2]
inductive NodeTy (Q : Ty → Prop) : Int → Ty → List Ty → Ty → Prop
 | app {ty a b : Ty} : NodeTy Q 3 ty [tFun a b, a] b
 | zero {ty : Ty} : NodeTy Q 4 ty [] tNat
 | succ {ty : Ty} : NodeTy Q 5 ty [tNat] tNat
 | recr {t : Ty} : NodeTy Q 6 t [t, tFun tNat (tFun t t), tNat] t
 | nil {ty : Ty} : NodeTy Q 7 ty [] tList
 | cons {ty : Ty} : NodeTy Q 8 ty [tNat, tList] tList
 | fold {t : Ty} : NodeTy Q 9 t [t, tFun tNat (tFun tList (tFun t t)), tList] t
 | pair {ty a b : Ty} : Q (tPair a b) → NodeTy Q 10 ty [a, b] (tPair a b)
 | fst {ty a b : Ty} : NodeTy Q 11 ty [tPair a b] a
 | snd {ty a b : Ty} : NodeTy Q 12 ty [tPair a b] b
 | unit {ty : Ty} : NodeTy Q 13 ty [] tUnit
inductive HasTy (Q : Ty → Prop) : List Ty → Tm → Ty → Prop
 | var {g : List Ty} {i : Nat} {t : Ty} (hi : i < g.length) (h : g[g.length - 1 - i]? = some t) : HasTy Q g (tmVar i) t
 | lam {g : List Ty} {a b : Ty} {t : Tm} : Q (tFun a b) → HasTy Q (g ++ [a]) t b → HasTy Q g (tmT 2 a [t]) (tFun a b)
 | n0 {g : List Ty} {k : Int} {ty s : Ty} : NodeTy Q k ty [] s → HasTy Q g (tmT k ty []) s
 | n1 {g : List Ty} {k : Int} {ty s a : Ty} {x : Tm} : NodeTy Q k ty [a] s → HasTy Q g x a → HasTy Q g (tmT k ty [x]) s
 | n2 {g : List Ty} {k : Int} {ty s a b : Ty} {x y : Tm} : NodeTy Q k ty [a, b] s → HasTy Q g x a → HasTy Q g y b → HasTy Q g (tmT k ty [x, y]) s
 | n3 {g : List Ty} {k : Int} {ty s a b c : Ty} {x y z : Tm} : NodeTy Q k ty [a, b, c] s → HasTy Q g x a → HasTy Q g y b → HasTy Q g z c → HasTy Q g (tmT k ty [x, y, z]) s
theorem TyG.pair' {a b : Ty} (ha : TyF a) (hb : TyF b) (h : tySz a + tySz b ≤ 63) : TyG (tPair a b) := ⟨.pair ha hb, by rw [tySz_pair]; omega⟩
theorem TyG.fun' {a b : Ty} (ha : TyF a) (hb : TyF b) (h : tySz a + tySz b ≤ 63) : TyG (tFun a b) := ⟨.func ha hb, by rw [tySz_fun]; omega⟩
theorem last0 {g : List Ty} {a : Ty} : (g ++ [a])[(g ++ [a]).length - 1 - 0]? = some a := by simp
theorem HasTy.v0 {Q : Ty → Prop} {g : List Ty} {a : Ty} : HasTy Q (g ++ [a]) (tmVar 0) a := .var (i := 0) (by simp) last0
theorem HasTy.v1 {Q : Ty → Prop} {g : List Ty} {a b : Ty} : HasTy Q (g ++ [a] ++ [b]) (tmVar 1) a := .var (i := 1) (by simp) (by
 have e : (g ++ [a] ++ [b]).length - 1 - 1 = g.length := by simp
 rw [e, List.getElem?_append_left (by simp), List.getElem?_append_right (by simp)]; simp)
theorem HasTy.lam1 {g : List Ty} {b : Ty} {t : Tm} (hb : TyG (tFun tNat b)) (h : HasTy TyG (g ++ [tNat]) t b) : HasTy TyG g (lamN t) (tFun tNat b) := .lam hb h
theorem tNN : TyG (tFun tNat tNat) := .fun' .nat .nat (by rw [tySz_nat]; omega)
theorem tNNN : TyG (tFun tNat (tFun tNat tNat)) := .fun' .nat tNN.1 (by rw [tySz_fun, tySz_nat]; omega)
theorem HasTy.num {Q : Ty → Prop} {g : List Ty} : ∀ n, HasTy Q g (numT n) tNat
 | 0 => .n0 (ty := .mk 0 []) .zero
 | n + 1 => .n1 (ty := .mk 0 []) .succ (HasTy.num n)
theorem HasTy.plus {g : List Ty} : HasTy TyG g plusT (tFun tNat (tFun tNat tNat)) :=
 .lam1 tNNN (.lam1 tNN (.n3 .recr .v1 (.lam1 tNNN (.lam1 tNN (.n1 (ty := .mk 0 []) .succ .v0))) .v0))
theorem HasTy.pred {g : List Ty} : HasTy TyG g predT (tFun tNat tNat) :=
 .lam1 tNN (.n3 .recr (.n0 (ty := .mk 0 []) .zero) (.lam1 tNNN (.lam1 tNN .v1)) .v0)
theorem HasTy.sub {g : List Ty} : HasTy TyG g subT (tFun tNat (tFun tNat tNat)) :=
 .lam1 tNNN (.lam1 tNN (.n3 .recr .v1 (.lam1 tNNN (.lam1 tNN (.n2 (ty := .mk 0 []) .app .pred .v0))) .v0))
theorem MkTm.ty {n : Nat} {g : List Ty} {t : Ty} {x : Tm} (h : MkTm n g t x) : (∀ y ∈ g, TyF y ∧ tySz y ≤ 20) → TyF t ∧ tySz t ≤ 20 → HasTy TyG g x t := by
 have app : ∀ {g l : List Ty}, (∀ y ∈ g, TyF y ∧ tySz y ≤ 20) → (∀ y ∈ l, TyF y ∧ tySz y ≤ 20) → ∀ y ∈ g ++ l, TyF y ∧ tySz y ≤ 20 := by
  intro g l h1 h2 y hy
  rcases List.mem_append.1 hy with hy | hy
  ·exact h1 y hy
  ·exact h2 y hy
 have nn : TyF tNat ∧ tySz tNat ≤ 20 := ⟨.nat, by rw [tySz_nat]; omega⟩
 have ll : TyF tList ∧ tySz tList ≤ 20 := ⟨.list, by rw [tySz_list]; omega⟩
 have l1 := tySz_nat
 have l2 := tySz_list
 induction h with
 | var hi h => exact fun _ _ => .var hi h
 | @app n g t s b x hs _ _ h1 h2 =>
  intro hg ht
  have hs' : TyF s ∧ tySz s ≤ 20 := ⟨hs.F, by have := hs.sz0; omega⟩
  exact .n2 (ty := .mk 0 []) .app (.lam (.fun' hs'.1 ht.1 (by omega)) (h1 (app hg (by simp [hs'])) ht)) (h2 hg hs')
 | @fst n g t s x y hs _ _ h1 h2 =>
  intro hg ht
  have hs' : TyF s ∧ tySz s ≤ 20 := ⟨hs.F, by have := hs.sz0; omega⟩
  exact .n1 (ty := .mk 0 []) .fst (.n2 (ty := .mk 0 []) (.pair (.pair' ht.1 hs'.1 (by omega))) (h1 hg ht) (h2 hg hs'))
 | @snd n g t s x y hs _ _ h1 h2 =>
  intro hg ht
  have hs' : TyF s ∧ tySz s ≤ 20 := ⟨hs.F, by have := hs.sz0; omega⟩
  exact .n1 (ty := .mk 0 []) .snd (.n2 (ty := .mk 0 []) (.pair (.pair' hs'.1 ht.1 (by omega))) (h1 hg hs') (h2 hg ht))
 | @recr n g t b f k hk _ _ h1 h2 =>
  intro hg ht
  have e : g ++ [tNat, t] = g ++ [tNat] ++ [t] := by simp
  have hf := h1 (app hg (by simp [nn, ht])) ht
  rw [e] at hf
  have tt : TyG (tFun t t) := .fun' ht.1 ht.1 (by omega)
  exact .n3 .recr (h2 hg ht) (.lam (.fun' .nat tt.1 (by rw [tySz_fun]; omega)) (.lam tt hf)) (.num k)
 | @fold n g t b f x _ _ _ h1 h2 h3 =>
  intro hg ht
  have e : g ++ [tNat, tList, t] = g ++ [tNat] ++ [tList] ++ [t] := by simp
  have hf := h1 (app hg (by simp [nn, ll, ht])) ht
  rw [e] at hf
  have tt : TyG (tFun t t) := .fun' ht.1 ht.1 (by omega)
  have lt : TyG (tFun tList (tFun t t)) := .fun' .list tt.1 (by rw [tySz_fun]; omega)
  exact .n3 .fold (h2 hg ht) (.lam (.fun' .nat lt.1 (by rw [tySz_fun, tySz_fun]; omega)) (.lam lt (.lam tt hf))) (h3 hg ll)
 | @fapp n g t s x i hi h _ h1 =>
  intro hg ht
  have hs := hg _ (List.mem_of_getElem? h)
  have hs' : TyF s ∧ tySz s ≤ 20 := by
   obtain ⟨h1, h2⟩ := hs
   rw [tySz_fun] at h2
   cases h1 with
   | func ha hb => exact ⟨ha, by omega⟩
  exact .n2 (ty := .mk 0 []) .app (.var hi h) (h1 hg hs')
 | succ _ h1 => exact fun hg _ => .n1 (ty := .mk 0 []) .succ (h1 hg nn)
 | plus _ _ h1 h2 => exact fun hg _ => .n2 (ty := .mk 0 []) .app (.n2 (ty := .mk 0 []) .app .plus (h1 hg nn)) (h2 hg nn)
 | sub _ _ h1 h2 => exact fun hg _ => .n2 (ty := .mk 0 []) .app (.n2 (ty := .mk 0 []) .app .sub (h1 hg nn)) (h2 hg nn)
 | num => exact fun _ _ => .num _
 | cons _ _ h1 h2 => exact fun hg _ => .n2 (ty := .mk 0 []) .cons (h1 hg nn) (h2 hg ll)
 | nil => exact fun _ _ => .n0 (ty := .mk 0 []) .nil
 | @pair n g a b x y _ _ h1 h2 =>
  intro hg ht
  obtain ⟨ht, hz⟩ := ht
  rw [tySz_pair] at hz
  cases ht with
  | pair ha hb => exact .n2 (ty := .mk 0 []) (.pair (.pair' ha hb (by omega))) (h1 hg ⟨ha, by omega⟩) (h2 hg ⟨hb, by omega⟩)
 | @lam n g a b x _ h1 =>
  intro hg ht
  obtain ⟨ht, hz⟩ := ht
  rw [tySz_fun] at hz
  cases ht with
  | func ha hb => exact .lam (.fun' ha hb (by omega)) (h1 (app hg (by simp [ha]; omega)) ⟨hb, by omega⟩)
 | unit => exact fun _ _ => .n0 (ty := .mk 0 []) .unit
theorem var_j {i : Int} (hl : (tmVar i).least 1000000000 = true) : i ≤ 1000000000 := by
 rw [tmVar, Tm.least, Bool.and_eq_true] at hl; exact of_decide_eq_true hl.1
mutual
def Tm.rb (G : Int → Int → Tm) : Tm → Int → Tm
 | .mk k i t l, b => if k == 1 then G i b else .mk k i t (Tm.rbL G l (if k == 2 then addW b 1 else b))
def Tm.rbL (G : Int → Int → Tm) : List Tm → Int → List Tm
 | [], _ => []
 | t :: l, b => t.rb G b :: Tm.rbL G l b
end
theorem Tm.rbL_map {G : Int → Int → Tm} : ∀ (l : List Tm) (b : Int), Tm.rbL G l b = l.map fun t => t.rb G b
 | [], b => by simp [Tm.rbL]
 | t :: l, b => by simp [Tm.rbL, Tm.rbL_map l b]
theorem Tm.rb_eq (G : Int → Int → Tm) (t : Tm) (b : Int) : t.rb G b = if t.kind == 1 then G t.index b else .mk t.kind t.index t.type (t.args.map fun x => x.rb G (if t.kind == 2 then addW b 1 else b)) := by
 cases t; rw [Tm.rb, Tm.rbL_map]; rfl
def liftG (fr b i below : Int) : Tm := tmVar (if decide (subW i below ≥ fr) then addW i b else i)
def tLift (t : Tm) (fr b : Int) : Tm := t.rb (liftG fr b) 0
def putG (a : Int) (s : Tm) (i below : Int) : Tm :=
 if subW i below == a then tLift s 0 (addW a below) else if decide (subW i below > a) then tmVar (subW i 1) else tmVar i
def tPut (t : Tm) (a : Int) (s : Tm) : Tm := t.rb (putG a s) 0
theorem TmG.rb_up {b : Int} (hb0 : 0 ≤ b) (hb : b ≤ 1000000) {fr : Int} (hf0 : 0 ≤ fr) (hf : fr ≤ 100000) : ∀ (n : Nat) {t : Tm}, TmG t → tmSz t ≤ n → t.least 1000000000 = true → ∀ d : Int, 0 ≤ d → d + n ≤ 100000 →
  t.rb (liftG fr b) d = t.up b (fr + d)
 | 0, t, h, hn, _, _, _, _ => by have := tmSz_pos t; omega
 | n + 1, t, h, hn, hl, d, h0, hd => by
  revert hn hl
  refine h.cases' (p := fun t => tmSz t ≤ n + 1 → t.least 1000000000 = true → t.rb (liftG fr b) d = t.up b (fr + d)) ?_ ?_
  ·intro i hi _ hl
   have hi2 := var_j hl
   rw [tmVar, Tm.rb, Tm.up, Tm.upL]
   simp only [beq_self_eq_true, if_true, Bool.true_and, liftG]
   rw [subW_eq (by omega) (by omega) (by omega) (by omega)]
   have e : decide (i - d ≥ fr) = decide (i ≥ fr + d) := by
    by_cases h : i ≥ fr + d
    ·rw [decide_eq_true h, decide_eq_true (by omega)]
    ·rw [decide_eq_false h, decide_eq_false (by omega)]
   rw [e]; rfl
  ·intro k ty l hk _ hg _ hn hl
   rw [tmSz] at hn
   rw [Tm.least, Bool.and_eq_true] at hl
   have hr := tmBelow_range k
   have e : addW (fr + d) (tmBelow k) = fr + (d + tmBelow k) := by rw [addW_eq (by omega) (by omega) (by omega) (by omega)]; omega
   rw [Tm.rb, Tm.rbL_map, Tm.up, Tm.upL_map, hk, e, below_eq h0 (by omega)]
   simp only [Bool.false_and, Bool.false_eq_true, if_false]
   congr 1
   refine List.map_congr_left fun y hy => ?_
   exact TmG.rb_up hb0 hb hf0 hf n (hg y hy) (by have := tmSzL_mem hy; omega) (Tm.leastL_iff.1 hl.2 y hy) _ (by omega) (by omega)
theorem tLift_up {t : Tm} {fr b : Int} (h : TmG t) (hs : tmSz t ≤ 5000) (hl : t.least 536870912 = true) (hb0 : 0 ≤ b) (hb : b ≤ 1000000) (hf0 : 0 ≤ fr) (hf : fr ≤ 100000) : tLift t fr b = t.up b fr := by
 have := TmG.rb_up hb0 hb hf0 hf _ h (Nat.le_refl _) (least_mono (by omega) _ hl) 0 (by omega) (by omega)
 rw [Int.add_zero] at this
 exact this
inductive FmTy (Q : Ty → Prop) : List Ty → Fm → Prop
 | eq {g : List Ty} {x y : Tm} : HasTy Q g x tNat → HasTy Q g y tNat → FmTy Q g (fmEq x y)
 | two {g : List Ty} {k : Int} {a b : Fm} (hk : k = 2 ∨ k = 3) : FmTy Q g a → FmTy Q g b → FmTy Q g (fmTwo k a b)
 | q {g : List Ty} {k : Int} {s : Ty} {a : Fm} (hk : k = 4 ∨ k = 5 ∨ k = 6 ∨ k = 7) : FmTy Q (g ++ [s]) a → FmTy Q g (fmQ k s a)
theorem HasTy.up1 {s : Ty} {g' : List Ty} {t : Tm} {ty : Ty} (h : HasTy TyG g' t ty) : ∀ g l : List Ty, g' = g ++ l → l.length + tmSz t ≤ 100000 → g.length ≤ 100000 → HasTy TyG (g ++ [s] ++ l) (t.up 1 (l.length : Int)) ty := by
 induction h with
 | @var g' i t hi h =>
  intro g l e hb hg
  subst e
  rw [tmVar, Tm.up, Tm.upL]
  simp only [beq_self_eq_true, Bool.true_and]
  simp only [List.length_append] at hi h
  by_cases hc : (i : Int) ≥ (l.length : Int)
  ·rw [decide_eq_true hc]
   simp only [if_true]
   have e : addW (i : Int) 1 = ((i + 1 : Nat) : Int) := by rw [addW_eq (by omega) (by omega) (by omega) (by omega)]; simp
   rw [e]
   refine HasTy.var (i := i + 1) (by simp only [List.length_append, List.length_cons, List.length_nil]; omega) ?_
   have e1 : (g ++ [s] ++ l).length - 1 - (i + 1) = g.length + l.length - 1 - i := by simp only [List.length_append, List.length_cons, List.length_nil]; omega
   rw [e1, List.append_assoc, List.getElem?_append_left (by omega), ← h, List.getElem?_append_left (by omega)]
  ·rw [decide_eq_false hc]
   simp only [Bool.false_eq_true, if_false]
   refine HasTy.var (i := i) (by simp only [List.length_append, List.length_cons, List.length_nil]; omega) ?_
   have e1 : (g ++ [s] ++ l).length - 1 - i = (g ++ [s]).length + (l.length - 1 - i) := by simp only [List.length_append, List.length_cons, List.length_nil]; omega
   have e2 : g.length + l.length - 1 - i = g.length + (l.length - 1 - i) := by omega
   rw [e1, List.getElem?_append_right (by omega), Nat.add_sub_cancel_left, ← h, e2, List.getElem?_append_right (by omega), Nat.add_sub_cancel_left]
 | @lam g' a b t hG _ ih =>
  intro g l e hb hg
  subst e
  rw [tmSz_T1] at hb
  rw [tmT, Tm.up, Tm.upL_map]
  have e1 : addW (l.length : Int) (tmBelow 2) = ((l ++ [a]).length : Int) := by
   have : tmBelow 2 = 1 := rfl
   rw [this, addW_eq (by omega) (by omega) (by omega) (by omega)]; simp
  rw [e1]
  have := ih g (l ++ [a]) (by simp) (by simp; omega) hg
  refine HasTy.lam hG ?_
  rw [List.append_assoc]; exact this
 | @n0 g' k ty s' hN =>
  intro g l e hb hg
  have hk : (k == 1) = false := by cases hN <;> rfl
  rw [tmT, Tm.up, Tm.upL_map, hk]
  exact .n0 hN
 | @n1 g' k ty s' a x hN _ ih =>
  intro g l e hb hg
  have hk : (k == 1) = false := by cases hN <;> rfl
  have hk2 : tmBelow k = 0 := by cases hN <;> rfl
  rw [tmSz_T1] at hb
  rw [tmT, Tm.up, Tm.upL_map, hk, hk2, addW_zero (by omega) (by omega)]
  exact .n1 hN (ih g l e (by omega) hg)
 | @n2 g' k ty s' a b x y hN _ _ ih1 ih2 =>
  intro g l e hb hg
  have hk : (k == 1) = false := by cases hN <;> rfl
  have hk2 : tmBelow k = 0 := by cases hN <;> rfl
  have z : tmSz (tmT k ty [x, y]) = tmSz x + tmSz y + 1 := by simp [tmT, tmSz, tmSzL]
  rw [tmT, Tm.up, Tm.upL_map, hk, hk2, addW_zero (by omega) (by omega)]
  exact .n2 hN (ih1 g l e (by omega) hg) (ih2 g l e (by omega) hg)
 | @n3 g' k ty s' a b c x y z hN _ _ _ ih1 ih2 ih3 =>
  intro g l e hb hg
  have hk : (k == 1) = false := by cases hN <;> rfl
  have hk2 : tmBelow k = 0 := by cases hN <;> rfl
  rw [tmSz_T3] at hb
  rw [tmT, Tm.up, Tm.upL_map, hk, hk2, addW_zero (by omega) (by omega)]
  exact .n3 hN (ih1 g l e (by omega) hg) (ih2 g l e (by omega) hg) (ih3 g l e (by omega) hg)
theorem HasTy.up0 {s : Ty} {g : List Ty} {t : Tm} {ty : Ty} (h : HasTy TyG g t ty) (hb : tmSz t ≤ 10000) (hg : g.length ≤ 10000) : HasTy TyG (g ++ [s]) (t.up 1 0) ty := by
 have := h.up1 (s := s) g [] (by simp) (by simp; omega) (by omega)
 simpa using this
theorem less_ty {g : List Ty} {x : Tm} (h : HasTy TyG (g ++ [tNat]) x tNat) : FmTy TyG (g ++ [tNat]) (lessF (tmVar 0) x) :=
 .eq (.n2 (ty := .mk 0 []) .app (.n2 (ty := .mk 0 []) .app .sub (.n1 (ty := .mk 0 []) .succ .v0)) h) (.n0 (ty := .mk 0 []) .zero)
theorem bnd_ty' {g : List Ty} {all : Bool} {x : Tm} {f : Fm} (hx : HasTy TyG (g ++ [tNat]) x tNat) (hf : FmTy TyG (g ++ [tNat]) f) : FmTy TyG g (bndF all x f) :=
 .q (by cases all <;> simp) (.two (by cases all <;> simp) (less_ty hx) hf)
theorem mk20 {g : List Ty} (hg : ∀ y ∈ g, MkTy 1 y) : ∀ y ∈ g, TyF y ∧ tySz y ≤ 20 := fun y hy => ⟨(hg y hy).F, by have := (hg y hy).sz1; omega⟩
theorem nat20 : TyF tNat ∧ tySz tNat ≤ 20 := ⟨.nat, by rw [tySz_nat]; omega⟩
theorem MkFm.ty {n : Nat} {g : List Ty} {f : Fm} (h : MkFm true n g f) (hg : ∀ y ∈ g, MkTy 1 y) : FmTy TyG g f := by
 induction h with
 | eq h1 h2 => exact .eq (h1.ty (mk20 hg) nat20) (h2.ty (mk20 hg) nat20)
 | two hk _ _ h1 h2 => exact .two hk (h1 hg) (h2 hg)
 | q hk hs _ h1 =>
  simp only [if_true] at hs
  exact .q (by rcases hk with h | h | ⟨_, h | h⟩ <;> simp [h]) (h1 (app_mk hg hs))
theorem MkDec.ty {n : Nat} {g : List Ty} {f : Fm} (h : MkDec n g f) (hg : ∀ y ∈ g, MkTy 1 y) (hb : g.length + n ≤ 10000) : FmTy TyG g f := by
 induction h with
 | eq h1 h2 => exact .eq (h1.ty (mk20 hg) nat20) (h2.ty (mk20 hg) nat20)
 | two hk _ _ h1 h2 => exact .two hk (h1 hg (by omega)) (h2 hg (by omega))
 | @bnd n g all x b hx _ h1 =>
  have hz := (hx.small hg (by omega)).2.1
  exact bnd_ty' ((hx.ty (mk20 hg) nat20).up0 (by omega) (by omega)) (h1 (app_mk hg .nat) (by simp; omega))
theorem tmSz_T2 {k : Int} {t : Ty} {a b : Tm} : tmSz (tmT k t [a, b]) = tmSz a + tmSz b + 1 := by simp [tmT, tmSz, tmSzL]
theorem least_args {M : Int} {f x : Fm} (h : f.least M = true) (hx : x ∈ f.args) : x.least M = true := by
 rw [Fm.least_eq, Bool.and_eq_true] at h
 exact Fm.leastL_iff.1 h.2 x hx
end GoAbs
