/-
  The abstract layer: plain laws.
-/
import Derived.Test.YtoaiejpnenfpnaaGreatDoorAbsLH
set_option linter.unusedSimpArgs false
set_option linter.unusedVariables false
set_option linter.unusedSectionVars false
namespace GoAbs
open Go

/-- A node that is neither a variable nor a function: its kind, the type that it names, the types of its parts, its type. -/
inductive NodeTy : Int → Ty → List Ty → Ty → Prop
  | app {ty a b : Ty} : NodeTy 3 ty [tFun a b, a] b
  | zero {ty : Ty} : NodeTy 4 ty [] tNat
  | succ {ty : Ty} : NodeTy 5 ty [tNat] tNat
  | recr {t : Ty} : NodeTy 6 t [t, tFun tNat (tFun t t), tNat] t
  | nil {ty : Ty} : NodeTy 7 ty [] tList
  | cons {ty : Ty} : NodeTy 8 ty [tNat, tList] tList
  | fold {t : Ty} : NodeTy 9 t [t, tFun tNat (tFun tList (tFun t t)), tList] t
  | pair {ty a b : Ty} : TyG (tPair a b) → NodeTy 10 ty [a, b] (tPair a b)
  | fst {ty a b : Ty} : NodeTy 11 ty [tPair a b] a
  | snd {ty a b : Ty} : NodeTy 12 ty [tPair a b] b
  | unit {ty : Ty} : NodeTy 13 ty [] tUnit
/-- A term is of a type in a context; all types on the way are small. -/
inductive HasTy : List Ty → Tm → Ty → Prop
  | var {g : List Ty} {i : Nat} {t : Ty} (hi : i < g.length) (h : g[g.length - 1 - i]? = some t) : HasTy g (tmVar i) t
  | lam {g : List Ty} {a b : Ty} {t : Tm} : TyG (tFun a b) → HasTy (g ++ [a]) t b → HasTy g (tmT 2 a [t]) (tFun a b)
  | n0 {g : List Ty} {k : Int} {ty s : Ty} : NodeTy k ty [] s → HasTy g (tmT k ty []) s
  | n1 {g : List Ty} {k : Int} {ty s a : Ty} {x : Tm} : NodeTy k ty [a] s → HasTy g x a → HasTy g (tmT k ty [x]) s
  | n2 {g : List Ty} {k : Int} {ty s a b : Ty} {x y : Tm} : NodeTy k ty [a, b] s → HasTy g x a → HasTy g y b → HasTy g (tmT k ty [x, y]) s
  | n3 {g : List Ty} {k : Int} {ty s a b c : Ty} {x y z : Tm} : NodeTy k ty [a, b, c] s → HasTy g x a → HasTy g y b → HasTy g z c → HasTy g (tmT k ty [x, y, z]) s

theorem TyG.pair' {a b : Ty} (ha : TyF a) (hb : TyF b) (h : tySz a + tySz b ≤ 63) : TyG (tPair a b) := ⟨.pair ha hb, by rw [tySz_pair]; omega⟩
theorem TyG.fun' {a b : Ty} (ha : TyF a) (hb : TyF b) (h : tySz a + tySz b ≤ 63) : TyG (tFun a b) := ⟨.func ha hb, by rw [tySz_fun]; omega⟩

theorem last0 {g : List Ty} {a : Ty} : (g ++ [a])[(g ++ [a]).length - 1 - 0]? = some a := by simp
theorem last2 {g : List Ty} {a b : Ty} : (g ++ [a, b])[(g ++ [a, b]).length - 1 - 0]? = some b := by simp
theorem HasTy.v0 {g : List Ty} {a : Ty} : HasTy (g ++ [a]) (tmVar 0) a := .var (i := 0) (by simp) last0
theorem HasTy.v1 {g : List Ty} {a b : Ty} : HasTy (g ++ [a] ++ [b]) (tmVar 1) a := .var (i := 1) (by simp) (by
  have e : (g ++ [a] ++ [b]).length - 1 - 1 = g.length := by simp
  rw [e, List.getElem?_append_left (by simp), List.getElem?_append_right (by simp)]; simp)
theorem HasTy.lam1 {g : List Ty} {b : Ty} {t : Tm} (hb : TyG (tFun tNat b)) (h : HasTy (g ++ [tNat]) t b) : HasTy g (lamN t) (tFun tNat b) := .lam hb h
theorem tNN : TyG (tFun tNat tNat) := .fun' .nat .nat (by rw [tySz_nat]; omega)
theorem tNNN : TyG (tFun tNat (tFun tNat tNat)) := .fun' .nat tNN.1 (by rw [tySz_fun, tySz_nat]; omega)
theorem HasTy.num {g : List Ty} : ∀ n, HasTy g (numT n) tNat
  | 0 => .n0 (ty := .mk 0 []) .zero
  | n + 1 => .n1 (ty := .mk 0 []) .succ (HasTy.num n)
theorem HasTy.plus {g : List Ty} : HasTy g plusT (tFun tNat (tFun tNat tNat)) :=
  .lam1 tNNN (.lam1 tNN (.n3 .recr .v1 (.lam1 tNNN (.lam1 tNN (.n1 (ty := .mk 0 []) .succ .v0))) .v0))
theorem HasTy.pred {g : List Ty} : HasTy g predT (tFun tNat tNat) :=
  .lam1 tNN (.n3 .recr (.n0 (ty := .mk 0 []) .zero) (.lam1 tNNN (.lam1 tNN .v1)) .v0)
theorem HasTy.sub {g : List Ty} : HasTy g subT (tFun tNat (tFun tNat tNat)) :=
  .lam1 tNNN (.lam1 tNN (.n3 .recr .v1 (.lam1 tNNN (.lam1 tNN (.n2 (ty := .mk 0 []) .app .pred .v0))) .v0))

theorem MkTm.ty {n : Nat} {g : List Ty} {t : Ty} {x : Tm} (h : MkTm n g t x) : (∀ y ∈ g, TyF y ∧ tySz y ≤ 20) → TyF t ∧ tySz t ≤ 20 → HasTy g x t := by
  have app : ∀ {g l : List Ty}, (∀ y ∈ g, TyF y ∧ tySz y ≤ 20) → (∀ y ∈ l, TyF y ∧ tySz y ≤ 20) → ∀ y ∈ g ++ l, TyF y ∧ tySz y ≤ 20 := by
    intro g l h1 h2 y hy
    rcases List.mem_append.1 hy with hy | hy
    · exact h1 y hy
    · exact h2 y hy
  have nn : TyF tNat ∧ tySz tNat ≤ 20 := ⟨.nat, by rw [tySz_nat]; omega⟩
  have ll : TyF tList ∧ tySz tList ≤ 20 := ⟨.list, by rw [tySz_list]; omega⟩
  have l1 := tySz_nat
  have l2 := tySz_list
  induction h with
  | var hi h => exact fun _ _ => .var hi h
  | @app n g t s b x hs _ _ h1 h2 =>
    intro hg ht
    have hs' : TyF s ∧ tySz s ≤ 20 := ⟨hs.F, by have := hs.sz0; omega⟩
    exact .n2 (ty := .mk 0 []) .app (.lam (.fun' hs'.1 ht.1 (by omega)) (h1 (app hg (by simp [hs'])) ht)) (h2 hg hs')
  | @fst n g t s x y hs _ _ h1 h2 =>
    intro hg ht
    have hs' : TyF s ∧ tySz s ≤ 20 := ⟨hs.F, by have := hs.sz0; omega⟩
    exact .n1 (ty := .mk 0 []) .fst (.n2 (ty := .mk 0 []) (.pair (.pair' ht.1 hs'.1 (by omega))) (h1 hg ht) (h2 hg hs'))
  | @snd n g t s x y hs _ _ h1 h2 =>
    intro hg ht
    have hs' : TyF s ∧ tySz s ≤ 20 := ⟨hs.F, by have := hs.sz0; omega⟩
    exact .n1 (ty := .mk 0 []) .snd (.n2 (ty := .mk 0 []) (.pair (.pair' hs'.1 ht.1 (by omega))) (h1 hg hs') (h2 hg ht))
  | @recr n g t b f k hk _ _ h1 h2 =>
    intro hg ht
    have e : g ++ [tNat, t] = g ++ [tNat] ++ [t] := by simp
    have hf := h1 (app hg (by simp [nn, ht])) ht
    rw [e] at hf
    have tt : TyG (tFun t t) := .fun' ht.1 ht.1 (by omega)
    exact .n3 .recr (h2 hg ht) (.lam (.fun' .nat tt.1 (by rw [tySz_fun]; omega)) (.lam tt hf)) (.num k)
  | @fold n g t b f x _ _ _ h1 h2 h3 =>
    intro hg ht
    have e : g ++ [tNat, tList, t] = g ++ [tNat] ++ [tList] ++ [t] := by simp
    have hf := h1 (app hg (by simp [nn, ll, ht])) ht
    rw [e] at hf
    have tt : TyG (tFun t t) := .fun' ht.1 ht.1 (by omega)
    have lt : TyG (tFun tList (tFun t t)) := .fun' .list tt.1 (by rw [tySz_fun]; omega)
    exact .n3 .fold (h2 hg ht) (.lam (.fun' .nat lt.1 (by rw [tySz_fun, tySz_fun]; omega)) (.lam lt (.lam tt hf))) (h3 hg ll)
  | @fapp n g t s x i hi h _ h1 =>
    intro hg ht
    have hs := hg _ (List.mem_of_getElem? h)
    have hs' : TyF s ∧ tySz s ≤ 20 := by
      obtain ⟨h1, h2⟩ := hs
      rw [tySz_fun] at h2
      cases h1 with
      | func ha hb => exact ⟨ha, by omega⟩
    exact .n2 (ty := .mk 0 []) .app (.var hi h) (h1 hg hs')
  | succ _ h1 => exact fun hg _ => .n1 (ty := .mk 0 []) .succ (h1 hg nn)
  | plus _ _ h1 h2 => exact fun hg _ => .n2 (ty := .mk 0 []) .app (.n2 (ty := .mk 0 []) .app .plus (h1 hg nn)) (h2 hg nn)
  | sub _ _ h1 h2 => exact fun hg _ => .n2 (ty := .mk 0 []) .app (.n2 (ty := .mk 0 []) .app .sub (h1 hg nn)) (h2 hg nn)
  | num => exact fun _ _ => .num _
  | cons _ _ h1 h2 => exact fun hg _ => .n2 (ty := .mk 0 []) .cons (h1 hg nn) (h2 hg ll)
  | nil => exact fun _ _ => .n0 (ty := .mk 0 []) .nil
  | @pair n g a b x y _ _ h1 h2 =>
    intro hg ht
    obtain ⟨ht, hz⟩ := ht
    rw [tySz_pair] at hz
    cases ht with
    | pair ha hb => exact .n2 (ty := .mk 0 []) (.pair (.pair' ha hb (by omega))) (h1 hg ⟨ha, by omega⟩) (h2 hg ⟨hb, by omega⟩)
  | @lam n g a b x _ h1 =>
    intro hg ht
    obtain ⟨ht, hz⟩ := ht
    rw [tySz_fun] at hz
    cases ht with
    | func ha hb => exact .lam (.fun' ha hb (by omega)) (h1 (app hg (by simp [ha]; omega)) ⟨hb, by omega⟩)
  | unit => exact fun _ _ => .n0 (ty := .mk 0 []) .unit
theorem HasTy.W {g : List Ty} {t : Tm} {s : Ty} (h : HasTy g t s) : (∀ y ∈ g, TyW y) → TmW t → TyW s ∧ TyW t.type := by
  induction h with
  | var hi h => exact fun hg _ => ⟨hg _ (List.mem_of_getElem? h), tZero_W⟩
  | lam ht _ _ => exact fun _ hw => ⟨ht.1.W, hw.ty⟩
  | n0 hN => intro hg hw; refine ⟨?_, hw.ty⟩; cases hN <;> first | exact tNat_W | exact tList_W | exact tUnit_W
  | n1 hN _ h1 =>
    intro hg hw
    have w1 := (h1 hg (hw.arg (by simp [tmT, Tm.args]))).1
    refine ⟨?_, hw.ty⟩
    cases hN with
    | succ => exact tNat_W
    | fst => exact w1.arg (by simp [tPair, Ty.args])
    | snd => exact w1.arg (by simp [tPair, Ty.args])
  | n2 hN _ _ h1 h2 =>
    intro hg hw
    have w1 := (h1 hg (hw.arg (by simp [tmT, Tm.args]))).1
    have w2 := (h2 hg (hw.arg (by simp [tmT, Tm.args]))).1
    refine ⟨?_, hw.ty⟩
    cases hN with
    | app => exact w1.arg (by simp [tFun, Ty.args])
    | cons => exact tList_W
    | pair hp => exact hp.1.W
  | n3 hN _ _ _ h1 h2 h3 =>
    intro hg hw
    have w1 := (h1 hg (hw.arg (by simp [tmT, Tm.args]))).1
    refine ⟨?_, hw.ty⟩
    cases hN with
    | recr => exact w1
    | fold => exact w1

end GoAbs
