/-
  The abstract layer: plain laws.
-/
import Derived.Test.YtoaiejpnenfpnaaGreatDoorAbsLA
set_option linter.unusedSimpArgs false
set_option linter.unusedVariables false
set_option linter.unusedSectionVars false
namespace GoAbs
open Go

mutual
def tmSz : Tm → Nat
  | .mk _ _ _ l => tmSzL l + 1
def tmSzL : List Tm → Nat
  | [] => 0
  | t :: l => tmSz t + tmSzL l
end
mutual
def fmSz : Fm → Nat
  | .mk _ _ l a => tmSzL l + fmSzL a + 1
def fmSzL : List Fm → Nat
  | [] => 0
  | t :: l => fmSz t + fmSzL l
end
theorem tmSz_0 {k : Int} : tmSz (tm0 k []) = 1 := by simp [tm0, tmSz, tmSzL]
theorem tmSz_v {k : Int} : tmSz (tmVar k) = 1 := by simp [tmVar, tmSz, tmSzL]
theorem tmSz_1 {k : Int} {a : Tm} : tmSz (tm0 k [a]) = tmSz a + 1 := by simp [tm0, tmSz, tmSzL]
theorem tmSz_2 {k : Int} {a b : Tm} : tmSz (tm0 k [a, b]) = tmSz a + tmSz b + 1 := by simp [tm0, tmSz, tmSzL]
theorem tmSz_T1 {k : Int} {t : Ty} {a : Tm} : tmSz (tmT k t [a]) = tmSz a + 1 := by simp [tmT, tmSz, tmSzL]
theorem tmSz_T3 {k : Int} {t : Ty} {a b c : Tm} : tmSz (tmT k t [a, b, c]) = tmSz a + (tmSz b + tmSz c) + 1 := by simp [tmT, tmSz, tmSzL]
theorem tmSz_num : ∀ n, tmSz (numT n) = n + 1
  | 0 => by rw [numT, tmSz_0]
  | n + 1 => by rw [numT, tmSz_1, tmSz_num n]
theorem fmSz_eq {x y : Tm} : fmSz (fmEq x y) = tmSz x + tmSz y + 1 := by simp [fmEq, fmSz, fmSzL, tmSzL]
theorem fmSz_two {k : Int} {x y : Fm} : fmSz (fmTwo k x y) = fmSz x + fmSz y + 1 := by simp [fmTwo, fmSz, fmSzL, tmSzL]
theorem fmSz_q {k : Int} {t : Ty} {x : Fm} : fmSz (fmQ k t x) = fmSz x + 1 := by simp [fmQ, fmSz, fmSzL, tmSzL]
theorem tmSz_plus : tmSz plusT = 9 := by simp [plusT, lamN, recN, tmSz_T1, tmSz_T3, tmSz_v, tmSz_1]
theorem tmSz_sub : tmSz subT = 16 := by simp [subT, predT, lamN, recN, tmSz_T1, tmSz_T3, tmSz_v, tmSz_1, tmSz_2, tmSz_0]

theorem Tm.nodesL_sum : ∀ {l : List Tm} {n : Nat}, (∀ x ∈ l, tmSz x ≤ 1000000 → x.nodes = some (tmSz x : Int)) → n + tmSzL l ≤ 1000000 →
    Tm.nodesL (n : Int) l = some ((n + tmSzL l : Nat) : Int)
  | [], n, _, _ => by rw [Tm.nodesL_nil]; simp [tmSzL]
  | x :: l, n, h, hs => by
    rw [tmSzL] at hs
    have e : IntKind.i64.wrap ((n : Int) + (tmSz x : Int)) = ((n + tmSz x : Nat) : Int) := wrap_eq (by omega) (by omega) (by omega)
    rw [Tm.nodesL_some (h x (by simp) (by omega)), e, Tm.nodesL_sum (fun y hy => h y (by simp [hy])) (by omega), tmSzL, Nat.add_assoc]
theorem Fm.nodesL_sum : ∀ {l : List Fm} {n : Nat}, (∀ x ∈ l, fmSz x ≤ 1000000 → x.nodes = some (fmSz x : Int)) → n + fmSzL l ≤ 1000000 →
    Fm.nodesL (n : Int) l = some ((n + fmSzL l : Nat) : Int)
  | [], n, _, _ => by rw [Fm.nodesL_nil]; simp [fmSzL]
  | x :: l, n, h, hs => by
    rw [fmSzL] at hs
    have e : IntKind.i64.wrap ((n : Int) + (fmSz x : Int)) = ((n + fmSz x : Nat) : Int) := wrap_eq (by omega) (by omega) (by omega)
    rw [Fm.nodesL_some (h x (by simp) (by omega)), e, Fm.nodesL_sum (fun y hy => h y (by simp [hy])) (by omega), fmSzL, Nat.add_assoc]
theorem tmSzL_mem : ∀ {l : List Tm} {x : Tm}, x ∈ l → tmSz x ≤ tmSzL l
  | y :: l, x, h => by
    rw [tmSzL]
    rcases List.mem_cons.1 h with rfl | h
    · omega
    · have := tmSzL_mem h; omega
theorem Tm.head_val {k i : Int} {t : Ty} {l : List Tm} (h : tmHead k i t l.length = true) (ih : ∀ x ∈ l, tmSz x ≤ 1000000 → x.nodes = some (tmSz x : Int)) (hs : tmSz (.mk k i t l) ≤ 1000000) :
    (Tm.mk k i t l).nodes = some (tmSz (.mk k i t l) : Int) := by
  rw [tmSz] at hs ⊢
  have := Tm.nodesL_sum (n := 1) ih (by omega)
  rw [Tm.nodes_mk, h]
  simp only [if_true]
  rw [Nat.add_comm (tmSzL l) 1]; exact this
theorem TmG.nodes_val {t : Tm} (h : TmG t) : tmSz t ≤ 1000000 → t.nodes = some (tmSz t : Int) := by
  induction h with
  | @plain k l a ha hl ht _ ih =>
    have : tmHead k 0 (.mk 0 []) l.length = true := by simp [tmHead, ha, hl, ht, noType, Ty.kind, Ty.args]
    exact Tm.head_val this ih
  | @var i hi =>
    have : tmHead 1 i (.mk 0 []) ([] : List Tm).length = true := by simp [tmHead, arity, arities, hi, typed, noType, Ty.kind, Ty.args]
    exact Tm.head_val this (by simp)
  | @typd k t l a ha hl ht hg _ ih =>
    have : tmHead k 0 t l.length = true := by simp [tmHead, ha, hl, ht, hg.err]
    exact Tm.head_val this ih
theorem Fm.head_val {k : Int} {t : Ty} {l : List Tm} {a : List Fm} (h : formed k t l.length a.length = true) (hl : ∀ x ∈ l, TmG x)
    (ih : ∀ x ∈ a, fmSz x ≤ 1000000 → x.nodes = some (fmSz x : Int)) (hs : fmSz (.mk k t l a) ≤ 1000000) : (Fm.mk k t l a).nodes = some (fmSz (.mk k t l a) : Int) := by
  rw [fmSz] at hs ⊢
  have h1 := Tm.nodesL_sum (n := 1) (l := l) (fun x hx => (hl x hx).nodes_val) (by omega)
  have h2 := Fm.nodesL_sum (n := 1 + tmSzL l) ih (by omega)
  rw [Fm.nodes_mk, h]
  have h1' : Tm.nodesL 1 l = some ((1 + tmSzL l : Nat) : Int) := h1
  simp only [if_true, h1']
  rw [h2]; congr 2; omega
theorem FmG.nodes_val {u : Bool} {f : Fm} (h : FmG u f) : fmSz f ≤ 1000000 → f.nodes = some (fmSz f : Int) := by
  induction h with
  | @eq x y h1 h2 => exact Fm.head_val rfl (by simp [h1, h2]) (by simp)
  | @two k a b hk _ _ h1 h2 =>
    have : formed k (.mk 0 []) ([] : List Tm).length [a, b].length = true := by rcases hk with rfl | rfl <;> rfl
    exact Fm.head_val this (by simp) (fun x hx => by simp at hx; rcases hx with rfl | rfl <;> assumption)
  | @q k s a hk hs _ h1 =>
    have : formed k s ([] : List Tm).length [a].length = true := by
      rcases hk with rfl | rfl | ⟨_, rfl | rfl⟩ <;> simp [formed, fmWant, hs.err]
    exact Fm.head_val this (by simp) (by intro x hx; simp at hx; subst hx; exact h1)
theorem FmG.err_val {u : Bool} {f : Fm} (h : FmG u f) (hs : fmSz f ≤ 1000000) : fmErr f = if fmSz f ≤ 4096 then 0 else 4 := by
  unfold fmErr
  rw [h.nodes_val hs, chk]
  by_cases h64 : fmSz f ≤ 4096
  · rw [if_neg (by omega), if_pos h64]
  · rw [if_pos (by omega), if_neg h64]

/-- How great a term may become that is made. -/
def bndT (M : Nat) : Nat → Nat
  | 0 => 3 * M
  | n + 1 => 40 + 3 * bndT M n
theorem bndT_ge (M : Nat) : ∀ n, 3 * M ≤ bndT M n
  | 0 => Nat.le_refl _
  | n + 1 => by have := bndT_ge M n; rw [bndT]; omega
theorem MkTm.sz {M : Nat} (hM : 1 ≤ M) {n : Nat} {g : List Ty} {t : Ty} {x : Tm} (h : MkTm n g t x) (hg : ∀ y ∈ g, tySz y ≤ M) (ht : tySz t ≤ M) :
    tmSz x ≤ bndT M n ∧ (n = 0 → tmSz x ≤ 3 * tySz t) := by
  have app : ∀ {g l : List Ty}, (∀ y ∈ g, tySz y ≤ M) → (∀ y ∈ l, tySz y ≤ M) → ∀ y ∈ g ++ l, tySz y ≤ M := by
    intro g l h1 h2 y hy
    rcases List.mem_append.1 hy with hy | hy
    · exact h1 y hy
    · exact h2 y hy
  have nat1 : tySz tNat ≤ M := by rw [tySz_nat]; exact hM
  have list1 : tySz tList ≤ M := by rw [tySz_list]; exact hM
  have small : ∀ {n : Nat} {t : Ty} {x : Tm}, tmSz x ≤ 3 → tmSz x ≤ bndT M n ∧ (n = 0 → tmSz x ≤ 3 * tySz t) := by
    intro n t x hx
    have := bndT_ge M n
    have := tySz_pos t
    exact ⟨by omega, fun _ => by omega⟩
  induction h with
  | var => exact small (by rw [tmSz_v]; omega)
  | @app n g t s b x hs _ _ h1 h2 =>
    have s1 : tySz s ≤ M := by rw [hs.sz0]; exact hM
    have a1 := (h1 (app hg (by simpa using s1)) ht).1
    have a2 := (h2 hg s1).1
    exact ⟨by rw [tmSz_2, tmSz_T1, bndT]; omega, fun h => by omega⟩
  | @fst n g t s x y hs _ _ h1 h2 =>
    have s1 : tySz s ≤ M := by rw [hs.sz0]; exact hM
    have a1 := (h1 hg ht).1
    have a2 := (h2 hg s1).1
    exact ⟨by rw [tmSz_1, tmSz_2, bndT]; omega, fun h => by omega⟩
  | @snd n g t s x y hs _ _ h1 h2 =>
    have s1 : tySz s ≤ M := by rw [hs.sz0]; exact hM
    have a1 := (h1 hg s1).1
    have a2 := (h2 hg ht).1
    exact ⟨by rw [tmSz_1, tmSz_2, bndT]; omega, fun h => by omega⟩
  | recr hk _ _ h1 h2 =>
    have a1 := (h1 (app hg (by simp [nat1, ht])) ht).1
    have a2 := (h2 hg ht).1
    exact ⟨by rw [tmSz_T3, tmSz_T1, tmSz_T1, tmSz_num, bndT]; omega, fun h => by omega⟩
  | fold _ _ _ h1 h2 h3 =>
    have a1 := (h1 (app hg (by simp [nat1, list1, ht])) ht).1
    have a2 := (h2 hg ht).1
    have a3 := (h3 hg list1).1
    exact ⟨by rw [tmSz_T3, tmSz_T1, tmSz_T1, tmSz_T1, bndT]; omega, fun h => by omega⟩
  | fapp hi h _ h1 =>
    have s1 := hg _ (List.mem_of_getElem? h)
    rw [tySz_fun] at s1
    have a1 := (h1 hg (by omega)).1
    exact ⟨by rw [tmSz_2, tmSz_v, bndT]; omega, fun h => by omega⟩
  | succ _ h1 =>
    have a1 := (h1 hg ht).1
    exact ⟨by rw [tmSz_1, bndT]; omega, fun h => by omega⟩
  | plus _ _ h1 h2 =>
    have a1 := (h1 hg ht).1
    have a2 := (h2 hg ht).1
    exact ⟨by rw [tmSz_2, tmSz_2, tmSz_plus, bndT]; omega, fun h => by omega⟩
  | sub _ _ h1 h2 =>
    have a1 := (h1 hg ht).1
    have a2 := (h2 hg ht).1
    exact ⟨by rw [tmSz_2, tmSz_2, tmSz_sub, bndT]; omega, fun h => by omega⟩
  | num hk => exact small (by rw [tmSz_num]; omega)
  | cons _ _ h1 h2 =>
    have a1 := (h1 hg nat1).1
    have a2 := (h2 hg ht).1
    exact ⟨by rw [tmSz_2, bndT]; omega, fun h => by omega⟩
  | nil => exact small (by rw [tmSz_0]; omega)
  | @pair n g a b x y _ _ h1 h2 =>
    rw [tySz_pair] at ht
    have a1 := h1 hg (by omega)
    have a2 := h2 hg (by omega)
    rw [tmSz_2, tySz_pair]
    cases n with
    | zero =>
      have b1 := a1.2 rfl
      have b2 := a2.2 rfl
      exact ⟨by rw [bndT]; omega, fun _ => by omega⟩
    | succ n =>
      have b1 := a1.1
      have b2 := a2.1
      simp only [Nat.add_sub_cancel] at b1 b2
      exact ⟨by rw [bndT]; omega, fun h => by omega⟩
  | @lam n g a b x _ h1 =>
    rw [tySz_fun] at ht
    have a1 := h1 (app hg (by simp; omega)) (by omega)
    rw [tmSz_T1, tySz_fun]
    cases n with
    | zero =>
      have b1 := a1.2 rfl
      exact ⟨by rw [bndT]; omega, fun _ => by omega⟩
    | succ n =>
      have b1 := a1.1
      simp only [Nat.add_sub_cancel] at b1
      exact ⟨by rw [bndT]; omega, fun h => by omega⟩
  | unit => exact small (by rw [tmSz_0]; omega)

/-- The law of formulas without quantifiers. -/
theorem law_free {x y x' y' : Tm} {k : Int} {t : Ty} (hk : k = 2 ∨ k = 3) (h1 : MkTm 1 [] tNat x) (h2 : MkTm 1 [] tNat y) (h3 : MkTm 1 [] tNat x') (h4 : MkTm 1 [] tNat y') (ht : MkTy 1 t) :
    (fmTwo k (fmEq x y) (fmEq x' y')).look = ((tUnit, tUnit), 0) ∧ (fmQ 4 t (fmTwo k (fmEq x y) (fmEq x' y'))).look = ((tUnit, t), 0) ∧
    (fmQ 5 t (fmTwo k (fmEq x y) (fmEq x' y'))).look = ((t, tUnit), 0) := by
  have sz : ∀ {x : Tm}, MkTm 1 [] tNat x → TmG x ∧ tmSz x ≤ 49 := fun h =>
    ⟨h.G (by simp) .nat, (MkTm.sz (M := 1) (by omega) h (by simp) (by rw [tySz_nat]; omega)).1⟩
  obtain ⟨g1, s1⟩ := sz h1
  obtain ⟨g2, s2⟩ := sz h2
  obtain ⟨g3, s3⟩ := sz h3
  obtain ⟨g4, s4⟩ := sz h4
  have tG := ht.G (by omega)
  have gh : FmG false (fmTwo k (fmEq x y) (fmEq x' y')) := .two hk (.eq g1 g2) (.eq g3 g4)
  have sh : fmSz (fmTwo k (fmEq x y) (fmEq x' y')) ≤ 200 := by rw [fmSz_two, fmSz_eq, fmSz_eq]; omega
  have ga : ∀ q, q = 4 ∨ q = 5 → FmG false (fmQ q t (fmTwo k (fmEq x y) (fmEq x' y'))) := fun q hq => .q (by rcases hq with rfl | rfl <;> simp) tG gh
  have look : ∀ {f : Fm}, FmG false f → fmSz f ≤ 300 → f.look = f.ch := by
    intro f hf hs
    unfold Fm.look
    have e : fmErr f = 0 := by rw [hf.err_val (by omega)]; exact if_pos (by omega)
    simp only [e, beq_self_eq_true, if_true, hf.uni, Bool.false_eq_true, if_false]
  have u5 : (tUnit.kind == 5) = true := rfl
  have z1 : sized tUnit tUnit = ((tUnit, tUnit), 0) := rfl
  have hch : (fmTwo k (fmEq x y) (fmEq x' y')).ch = ((tUnit, tUnit), 0) := by
    rw [ch_two, ch_eqn, ch_eqn]
    rcases hk with rfl | rfl <;> rfl
  have e1 : chFun t tUnit = tUnit := by simp only [chFun, u5, if_true]
  have e2 : chPair t tUnit = t := by
    cases hk : (t.kind == 5) with
    | true => rw [tG.1.kind5 hk]; rfl
    | false => simp only [chPair, hk, u5, if_true, Bool.false_eq_true, if_false]
  have su := TyG.unit
  have zt1 : sized tUnit t = ((tUnit, t), 0) := by simp [sized, su.err, tG.err]
  have zt2 : sized t tUnit = ((t, tUnit), 0) := by simp [sized, su.err, tG.err]
  refine ⟨by rw [look gh (by omega), hch], ?_, ?_⟩
  · rw [look (ga 4 (.inl rfl)) (by rw [fmSz_q]; omega), ch_q, hch]
    simp only [beq_self_eq_true, if_true, chCase, List.getD_cons_zero, Int.reduceBEq, Bool.false_eq_true, if_false, e1, e2, zt1]
  · rw [look (ga 5 (.inr rfl)) (by rw [fmSz_q]; omega), ch_q, hch]
    simp only [beq_self_eq_true, if_true, chCase, List.getD_cons_zero, Int.reduceBEq, Bool.false_eq_true, if_false, e1, e2, zt2]
end GoAbs
