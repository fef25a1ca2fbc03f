/-
  The abstract layer: plain laws.
-/
import Derived.Test.YtoaiejpnenfpnaaGreatDoorAbsLI
set_option linter.unusedSimpArgs false
set_option linter.unusedVariables false
set_option linter.unusedSectionVars false
namespace GoAbs
open Go

theorem fl_up {f : Fm} (gf : FmG true f) (lf : f.least 536870912 = true) (zf : fmSz f ≤ 1000) :
    (f.up 2 0).fl.c = f.fl.c ∧ (f.up 2 0).fl.f = f.fl.f ∧ (f.fl.d = true → (f.up 2 0).fl.d = true) := by
  refine fl_keep (fun x d => x.up 2 d) (fun f d => f.up 2 d) (fun k t l a d => by rw [Fm.up, Fm.upL_map]) ?_ (fmSz f) f gf lf (Nat.le_refl _) zf 0 (by omega) (by omega)
  intro q d gq zq lq h0 hd
  have e0 : addW (d + 1) (tmBelow 3) = d + 1 := addW_zero (by omega) (by omega)
  refine ⟨?_, ?_, fun oq => ?_⟩
  · rw [up_tm0 rfl, e0]
    simp only [List.map_cons, List.map_nil]
    rw [up_cl 19 _ (by rw [left_sz]; omega) 1 (d + 1) left_cl (by omega) (by omega) (by omega)]
  · rw [up_tm0 rfl]; rfl
  · rw [(TmG.up (b := 2) (by omega) (by omega) _ gq (Nat.le_refl _) lq (d + 1)).count_occ (by rw [tmSz_up]; omega) (least_mono (by omega) _ (least_up (M := 536870912) (by omega) (by omega) (by omega) (by omega) _ gq (Nat.le_refl _) lq (d + 1))) (by omega) (by omega),
      TmG.up_occ_lt (by omega) (by omega) _ gq (Nat.le_refl _) (least_mono (by omega) _ lq) (d + 1) 0 (by omega) (by omega) (by omega), oq]; rfl

theorem fl_inn {f : Fm} {s : Tm} (gs : TmG s) (ls : s.least 536870912 = true) (zs : tmSz s ≤ 100) (gf : FmG true f) (lf : f.least 536870912 = true) (zf : fmSz f ≤ 1000) :
    (fmInn s 0 f 0).fl.c = f.fl.c ∧ (fmInn s 0 f 0).fl.f = f.fl.f ∧ (f.fl.d = true → (fmInn s 0 f 0).fl.d = true) := by
  refine fl_keep (fun x d => tmInn s 0 x d) (fun f d => fmInn s 0 f d) (fun k t l a d => by rw [fmInn, fmInnL_map]) ?_ (fmSz f) f gf lf (Nat.le_refl _) (by omega) 0 (by omega) (by omega)
  intro q d gq zq lq h0 hd
  have e0 : addW (d + 1) (tmBelow 3) = d + 1 := addW_zero (by omega) (by omega)
  refine ⟨?_, ?_, fun oq => ?_⟩
  · rw [inn_tm0 rfl, e0]
    simp only [List.map_cons, List.map_nil]
    rw [inn_cl 19 _ (by rw [left_sz]; omega) 1 (d + 1) left_cl (by omega) (by omega) (by omega)]
  · rw [inn_tm0 rfl]; rfl
  · have hz := TmG.inn_sz (s := s) _ gq (Nat.le_refl _) (d + 1) (by omega) (by omega)
    have ho := tmOcc_le q (d + 1)
    have hm : tmOcc q (d + 1) * (tmSz s - 1) ≤ 1000 * 99 := Nat.mul_le_mul (by omega) (by omega)
    rw [(TmG.inn gs ls _ gq (Nat.le_refl _) lq (d + 1) (by omega) (by omega)).count_occ (by omega)
        (least_mono (by omega) _ (least_inn (M := 536870912) (by omega) (by omega) gs ls _ gq (Nat.le_refl _) lq (d + 1) (by omega) (by omega))) (by omega) (by omega),
      TmG.inn_occ gs (by omega) (least_mono (by omega) _ ls) _ gq (Nat.le_refl _) (least_mono (by omega) _ lq) (d + 1) 0 (by omega) (by omega) (by omega), oq]; rfl

theorem occ_cl : ∀ (t : Tm) (m x : Int), tmCl t m = true → m ≤ x → tmOcc t x = 0 := by
  intro t
  induction t using Tm.ind with | h t ih => ?_
  intro m x hc hm
  obtain ⟨k, i, ty, l⟩ := t
  rw [tmCl] at hc
  rw [tmOcc]
  cases hk : (k == 1) with
  | true =>
    rw [hk] at hc
    simp only [if_true, Bool.and_eq_true, decide_eq_true_eq] at hc
    have : (i == x) = false := by simp; omega
    simp [this]
  | false =>
    rw [hk] at hc
    simp only [Bool.false_eq_true, if_false] at hc
    simp only [Bool.false_eq_true, if_false]
    exact tmOccL_zero fun y hy => ih y hy (m + tmBelow k) _ (tmClL_mem hc y hy) (by omega)
theorem occ_sub {x : Int} (h : 0 ≤ x) : tmOcc subT x = 0 := occ_cl _ 0 _ (by decide) h
theorem occ_plus {x : Int} (h : 0 ≤ x) : tmOcc plusT x = 0 := occ_cl _ 0 _ (by decide) h
theorem occ_num {x : Int} : ∀ n, tmOcc (numT n) x = 0
  | 0 => by simp [numT, tm0, tmOcc, tmOccL]
  | n + 1 => by simp [numT, tm0, tmOcc, tmOccL, occ_num n]
theorem occ_var {i x : Int} : tmOcc (tmVar i) x ≤ 1 := by simp only [tmVar, tmOcc, beq_self_eq_true, if_true]; split <;> omega
theorem occ_1 {k x : Int} {a : Tm} (hk : (k == 1) = false) (hk2 : (k == 2) = false) : tmOcc (tm0 k [a]) x = tmOcc a x := by simp [tm0, tmOcc, tmOccL, hk, tmBelow, hk2]
theorem occ_2 {k x : Int} {a b : Tm} (hk : (k == 1) = false) (hk2 : (k == 2) = false) : tmOcc (tm0 k [a, b]) x = tmOcc a x + tmOcc b x := by simp [tm0, tmOcc, tmOccL, hk, tmBelow, hk2]
theorem occ_lam {x : Int} {t : Ty} {a : Tm} : tmOcc (tmT 2 t [a]) x = tmOcc a (x + 1) := by simp [tmT, tmOcc, tmOccL, tmBelow]
theorem occ_T3 {k x : Int} {t : Ty} {a b c : Tm} (hk : (k == 1) = false) (hk2 : (k == 2) = false) : tmOcc (tmT k t [a, b, c]) x = tmOcc a x + (tmOcc b x + tmOcc c x) := by simp [tmT, tmOcc, tmOccL, hk, tmBelow, hk2]

theorem MkTy.two0 {a b : Ty} : ¬ MkTy 0 (tPair a b) ∧ ¬ MkTy 0 (tFun a b) := by
  constructor <;> (intro h; cases h)
theorem MkTy.pair1 {a b : Ty} (h : MkTy 1 (tPair a b)) : MkTy 0 a ∧ MkTy 0 b := by cases h with | pair h1 h2 => exact ⟨h1, h2⟩
theorem MkTy.fun1 {a b : Ty} (h : MkTy 1 (tFun a b)) : MkTy 0 a ∧ MkTy 0 b := by cases h with | func h1 h2 => exact ⟨h1, h2⟩

/-- A term of depth 0 and of a type without parts. -/
theorem MkTm.occ0 {n : Nat} {g : List Ty} {t : Ty} {x : Tm} (h : MkTm n g t x) (hn : n = 0) (ht : MkTy 0 t) (a : Int) : tmOcc x a ≤ 1 := by
  cases h with
  | var => exact occ_var
  | num => rw [occ_num]; omega
  | nil => simp [tm0, tmOcc, tmOccL]
  | unit => simp [tm0, tmOcc, tmOccL]
  | pair => exact absurd ht MkTy.two0.1
  | lam => exact absurd ht MkTy.two0.2
  | _ => omega
theorem MkTm.occ1 {n : Nat} {g : List Ty} {t : Ty} {x : Tm} (h : MkTm n g t x) (hn : n = 1) (ht : t = tNat) (hg : ∀ y ∈ g, MkTy 1 y) {a : Int} (ha : 0 ≤ a) : tmOcc x a ≤ 3 := by
  have n0 : MkTy 0 tNat := .nat
  have l0 : MkTy 0 tList := .list
  cases h with
  | var => exact Nat.le_trans occ_var (by omega)
  | app hs h1 h2 =>
    subst ht
    rw [occ_2 rfl rfl, occ_lam]
    have := h1.occ0 (by omega) n0 (a + 1); have := h2.occ0 (by omega) hs a; omega
  | fst hs h1 h2 =>
    subst ht
    rw [occ_1 rfl rfl, occ_2 rfl rfl]
    have := h1.occ0 (by omega) n0 a; have := h2.occ0 (by omega) hs a; omega
  | snd hs h1 h2 =>
    subst ht
    rw [occ_1 rfl rfl, occ_2 rfl rfl]
    have := h1.occ0 (by omega) hs a; have := h2.occ0 (by omega) n0 a; omega
  | recr hk h1 h2 =>
    subst ht
    rw [occ_T3 rfl rfl, occ_lam, occ_lam, occ_num]
    have := h1.occ0 (by omega) n0 (a + 1 + 1); have := h2.occ0 (by omega) n0 a; omega
  | fold h1 h2 h3 =>
    subst ht
    rw [occ_T3 rfl rfl, occ_lam, occ_lam, occ_lam]
    have := h1.occ0 (by omega) n0 (a + 1 + 1 + 1); have := h2.occ0 (by omega) n0 a; have := h3.occ0 (by omega) l0 a; omega
  | @fapp n g t s x i hi h h1 =>
    subst ht
    rw [occ_2 rfl rfl]
    have := h1.occ0 (by omega) (hg _ (List.mem_of_getElem? h)).fun1.1 a
    have := occ_var (i := i) (x := a); omega
  | succ h1 => rw [occ_1 rfl rfl]; have := h1.occ0 (by omega) n0 a; omega
  | plus h1 h2 => rw [occ_2 rfl rfl, occ_2 rfl rfl, occ_plus ha]; have := h1.occ0 (by omega) n0 a; have := h2.occ0 (by omega) n0 a; omega
  | sub h1 h2 => rw [occ_2 rfl rfl, occ_2 rfl rfl, occ_sub ha]; have := h1.occ0 (by omega) n0 a; have := h2.occ0 (by omega) n0 a; omega
  | num => rw [occ_num]; omega
  | cons => simp [tNat, tList] at ht
  | nil => simp [tNat, tList] at ht
  | pair => simp [tNat, tPair] at ht
  | lam => simp [tNat, tFun] at ht
  | unit => simp [tNat, tUnit] at ht

def fA : Nat → Nat
  | 0 => 3
  | n + 1 => max (18 + 2 * fA n) (4 + 3 * fA n)
def fC : Nat → Nat
  | 0 => 7
  | n + 1 => max (fA (n + 1)) (max (6 + 2 * fC n) (4 + 2 * fC n + fA n))
theorem fA_ge : ∀ n, 3 ≤ fA n
  | 0 => by simp [fA]
  | n + 1 => by have := fA_ge n; rw [fA]; omega
theorem fC_ge : ∀ n, fA n ≤ fC n ∧ 7 ≤ fC n
  | 0 => by simp [fA, fC]
  | n + 1 => by have := fC_ge n; rw [fC]; omega
theorem MkTy.two1 {n : Nat} {t : Ty} (h : MkTy n t) : n = 1 → MkTy 0 t ∨ (∃ a b, t = tPair a b) ∨ ∃ a b, t = tFun a b := by
  intro e
  cases h with
  | nat => exact .inl .nat
  | list => exact .inl .list
  | unit => exact .inl .unit
  | pair => exact .inr (.inl ⟨_, _, rfl⟩)
  | func => exact .inr (.inr ⟨_, _, rfl⟩)
theorem MkTm.fine {n : Nat} {g : List Ty} {t : Ty} {x : Tm} (h : MkTm n g t x) : (∀ y ∈ g, MkTy 1 y) → MkTy 1 t → tmSz x ≤ fC n ∧ (MkTy 0 t → tmSz x ≤ fA n) := by
  have n1 : MkTy 1 tNat := .nat
  have l1 : MkTy 1 tList := .list
  have n0 : MkTy 0 tNat := .nat
  have l0 : MkTy 0 tList := .list
  have app : ∀ {g l : List Ty}, (∀ y ∈ g, MkTy 1 y) → (∀ y ∈ l, MkTy 1 y) → ∀ y ∈ g ++ l, MkTy 1 y := by
    intro g l h1 h2 y hy
    rcases List.mem_append.1 hy with hy | hy
    · exact h1 y hy
    · exact h2 y hy
  induction h with
  | @var n g t i hi h => intro _ _; have := fC_ge n; have := fA_ge n; rw [tmSz_v]; omega
  | @app n g t s b x hs _ _ h1 h2 =>
    intro hg ht
    have a1 := h1 (app hg (by simp [hs.up (Nat.zero_le 1)])) ht
    have a2 := (h2 hg (hs.up (Nat.zero_le 1))).2 hs
    rw [tmSz_2, tmSz_T1, fC, fA]
    refine ⟨by omega, fun h0 => ?_⟩
    have := a1.2 h0; omega
  | @fst n g t s x y hs _ _ h1 h2 =>
    intro hg ht
    have a1 := h1 hg ht
    have a2 := (h2 hg (hs.up (Nat.zero_le 1))).2 hs
    rw [tmSz_1, tmSz_2, fC, fA]
    refine ⟨by omega, fun h0 => ?_⟩
    have := a1.2 h0; omega
  | @snd n g t s x y hs _ _ h1 h2 =>
    intro hg ht
    have a1 := (h1 hg (hs.up (Nat.zero_le 1))).2 hs
    have a2 := h2 hg ht
    rw [tmSz_1, tmSz_2, fC, fA]
    refine ⟨by omega, fun h0 => ?_⟩
    have := a2.2 h0; omega
  | @recr n g t b f k hk _ _ h1 h2 =>
    intro hg ht
    have a1 := h1 (app hg (by simp [n1, ht])) ht
    have a2 := h2 hg ht
    rw [tmSz_T3, tmSz_T1, tmSz_T1, tmSz_num, fC, fA]
    refine ⟨by omega, fun h0 => ?_⟩
    have := a1.2 h0; have := a2.2 h0; omega
  | @fold n g t b f x _ _ _ h1 h2 h3 =>
    intro hg ht
    have a1 := h1 (app hg (by simp [n1, l1, ht])) ht
    have a2 := h2 hg ht
    have a3 := (h3 hg l1).2 l0
    rw [tmSz_T3, tmSz_T1, tmSz_T1, tmSz_T1, fC, fA]
    refine ⟨by omega, fun h0 => ?_⟩
    have := a1.2 h0; have := a2.2 h0; omega
  | @fapp n g t s x i hi h _ h1 =>
    intro hg ht
    have hs := (hg _ (List.mem_of_getElem? h)).fun1.1
    have a1 := (h1 hg (hs.up (Nat.zero_le 1))).2 hs
    rw [tmSz_2, tmSz_v, fC, fA]
    exact ⟨by omega, fun _ => by omega⟩
  | @succ n g x _ h1 => intro hg _; have a1 := (h1 hg n1).2 n0; rw [tmSz_1, fC, fA]; exact ⟨by omega, fun _ => by omega⟩
  | @plus n g x y _ _ h1 h2 => intro hg _; have a1 := (h1 hg n1).2 n0; have a2 := (h2 hg n1).2 n0; rw [tmSz_2, tmSz_2, tmSz_plus, fC, fA]; exact ⟨by omega, fun _ => by omega⟩
  | @sub n g x y _ _ h1 h2 => intro hg _; have a1 := (h1 hg n1).2 n0; have a2 := (h2 hg n1).2 n0; rw [tmSz_2, tmSz_2, tmSz_sub, fC, fA]; exact ⟨by omega, fun _ => by omega⟩
  | @num n g k hk => intro _ _; have := fC_ge n; have := fA_ge n; rw [tmSz_num]; omega
  | @cons n g x y _ _ h1 h2 => intro hg _; have a1 := (h1 hg n1).2 n0; have a2 := (h2 hg l1).2 l0; rw [tmSz_2, fC, fA]; exact ⟨by omega, fun _ => by omega⟩
  | @nil n g => intro _ _; have := fC_ge n; have := fA_ge n; rw [tmSz_0]; omega
  | @pair n g a b x y _ _ h1 h2 =>
    intro hg ht
    obtain ⟨p1, p2⟩ := ht.pair1
    have a1 := (h1 hg (p1.up (Nat.zero_le 1))).2 p1
    have a2 := (h2 hg (p2.up (Nat.zero_le 1))).2 p2
    refine ⟨?_, fun h0 => absurd h0 MkTy.two0.1⟩
    rw [tmSz_2]
    cases n with
    | zero => simp only [Nat.zero_sub, fA] at a1 a2; rw [fC]; omega
    | succ n => simp only [Nat.add_sub_cancel] at a1 a2; rw [fC, fA]; omega
  | @lam n g a b x _ h1 =>
    intro hg ht
    obtain ⟨p1, p2⟩ := ht.fun1
    have a1 := (h1 (app hg (by simp [p1.up (Nat.zero_le 1)])) (p2.up (Nat.zero_le 1))).2 p2
    refine ⟨?_, fun h0 => absurd h0 MkTy.two0.2⟩
    rw [tmSz_T1]
    cases n with
    | zero => simp only [Nat.zero_sub, fA] at a1; rw [fC]; omega
    | succ n => simp only [Nat.add_sub_cancel] at a1; rw [fC, fA]; omega
  | @unit n g => intro _ _; have := fC_ge n; have := fA_ge n; rw [tmSz_0]; omega

theorem fC2 : fC 2 = 76 := rfl
theorem fA1 : fA 1 = 24 := rfl

/-- Lifting moves the number of times of a variable behind. -/
theorem TmG.up_occ_shift {b : Int} (hb0 : 0 ≤ b) (hb1 : b ≤ 1000000) : ∀ (k : Nat) {t : Tm}, TmG t → tmSz t ≤ k → t.least 1000000000 = true → ∀ fr x : Int, 0 ≤ fr → fr ≤ x → x + k ≤ 1000000 → tmOcc (t.up b fr) (x + b) = tmOcc t x
  | 0, t, h, hn, _, _, _, _, _, _ => by have := tmSz_pos t; omega
  | k + 1, t, h, hn, hl, fr, x, h0, hx, hb => by
    revert hn hl
    refine h.cases' (p := fun t => tmSz t ≤ k + 1 → t.least 1000000000 = true → tmOcc (t.up b fr) (x + b) = tmOcc t x) ?_ ?_
    · intro i hi _ hl
      have hi2 := var_i hl
      rw [tmVar, Tm.up, Tm.upL, tmOcc, tmOcc]
      simp only [beq_self_eq_true, Bool.true_and, if_true]
      by_cases h : i ≥ fr
      · rw [decide_eq_true h, addW_eq (by omega) (by omega) (by omega) (by omega)]
        simp only [if_true]
        by_cases h2 : i = x
        · subst h2; simp
        · have e1 : (i + b == x + b) = false := by simp; omega
          have e2 : (i == x) = false := by simp; omega
          rw [e1, e2]
      · rw [decide_eq_false h]
        have e1 : (i == x + b) = false := by simp; omega
        have e2 : (i == x) = false := by simp; omega
        simp [e1, e2]
    · intro kk ty l hk _ hg _ hn hl
      rw [tmSz] at hn
      rw [Tm.least, Bool.and_eq_true] at hl
      have hr := tmBelow_range kk
      have e : addW fr (tmBelow kk) = fr + tmBelow kk := addW_eq (by omega) (by omega) (by omega) (by omega)
      rw [Tm.up, Tm.upL_map, tmOcc, tmOcc, hk, e]
      simp only [Bool.false_and, Bool.false_eq_true, if_false]
      refine occ_map fun y hy => ?_
      have := TmG.up_occ_shift hb0 hb1 k (hg y hy) (by have := tmSzL_mem hy; omega) (Tm.leastL_iff.1 hl.2 y hy) (fr + tmBelow kk) (x + tmBelow kk) (by omega) (by omega) (by omega)
      have e2 : x + b + tmBelow kk = x + tmBelow kk + b := by omega
      rw [e2]; exact this

theorem MkTm.one {g : List Ty} {x : Tm} (h : MkTm 1 g tNat x) (hg : ∀ y ∈ g, MkTy 1 y) : tmSz x ≤ 24 ∧ ∀ a : Int, 0 ≤ a → tmOcc x a ≤ 3 :=
  ⟨by have := (h.fine hg .nat).2 .nat; rw [fA1] at this; exact this, fun a ha => h.occ1 rfl rfl hg ha⟩

theorem fmOcc_eq {x y : Tm} {a : Int} : fmOcc (fmEq x y) a = tmOcc x a + tmOcc y a := by simp [fmEq, fmOcc, tmOccL, fmOccL]
theorem fmOcc_two {k : Int} {x y : Fm} {a : Int} (hk : k = 2 ∨ k = 3) : fmOcc (fmTwo k x y) a = fmOcc x a + fmOcc y a := by
  rcases hk with rfl | rfl <;> simp [fmTwo, fmOcc, tmOccL, fmOccL, fmBelow, quant]
theorem fmOcc_q {k : Int} {t : Ty} {x : Fm} {a : Int} (hk : k = 4 ∨ k = 5 ∨ k = 6 ∨ k = 7) : fmOcc (fmQ k t x) a = fmOcc x (a + 1) := by
  rcases hk with rfl | rfl | rfl | rfl <;> simp [fmQ, fmOcc, tmOccL, fmOccL, fmBelow, quant]

/-- What the law needs of a formula. -/
def Fine (n : Nat) (f : Fm) : Prop := FmG true f ∧ fmSz f + 1 ≤ 50 * 2 ^ n ∧ f.least 536870912 = true ∧ ∀ a : Int, 0 ≤ a → a + n ≤ 1000 → fmOcc f a ≤ 6 * 2 ^ n

theorem least_eqn {M : Int} {x y : Tm} (h1 : x.least M = true) (h2 : y.least M = true) : (fmEq x y).least M = true := by
  rw [Fm.least_eq]; simp only [fmEq, Fm.terms, Fm.args, Tm.leastL_cons, Tm.leastL_nil, Fm.leastL_nil, h1, h2, Bool.and_self]
theorem least_two {M k : Int} {x y : Fm} (h1 : x.least M = true) (h2 : y.least M = true) : (fmTwo k x y).least M = true := by
  rw [Fm.least_eq]; simp only [fmTwo, Fm.terms, Fm.args, Fm.leastL_cons, Tm.leastL_nil, Fm.leastL_nil, h1, h2, Bool.and_self]
theorem least_q {M k : Int} {t : Ty} {x : Fm} (h1 : x.least M = true) : (fmQ k t x).least M = true := by
  rw [Fm.least_eq]; simp only [fmQ, Fm.terms, Fm.args, Fm.leastL_cons, Tm.leastL_nil, Fm.leastL_nil, h1, Bool.and_self]

theorem fine_eq {n : Nat} {g : List Ty} {x y : Tm} (h1 : MkTm 1 g tNat x) (h2 : MkTm 1 g tNat y) (hg : ∀ y ∈ g, MkTy 1 y) (hb : g.length ≤ 10000) : Fine n (fmEq x y) := by
  obtain ⟨a1, _, a3⟩ := h1.small hg hb
  obtain ⟨b1, _, b3⟩ := h2.small hg hb
  obtain ⟨a4, a5⟩ := h1.one hg
  obtain ⟨b4, b5⟩ := h2.one hg
  have := Nat.one_le_two_pow (n := n)
  refine ⟨.eq a1 b1, by rw [fmSz_eq]; omega, least_eqn a3 b3, fun a ha _ => ?_⟩
  have := a5 a ha; have := b5 a ha
  rw [fmOcc_eq]; omega
theorem fine_two {n : Nat} {k : Int} {x y : Fm} (hk : k = 2 ∨ k = 3) (h1 : Fine n x) (h2 : Fine n y) : Fine (n + 1) (fmTwo k x y) := by
  obtain ⟨a1, a2, a3, a4⟩ := h1
  obtain ⟨b1, b2, b3, b4⟩ := h2
  refine ⟨.two hk a1 b1, by rw [fmSz_two, Nat.pow_succ]; omega, least_two a3 b3, fun a ha hb => ?_⟩
  have := a4 a ha (by omega); have := b4 a ha (by omega)
  rw [fmOcc_two hk, Nat.pow_succ]; omega

theorem MkFm.fine {n : Nat} {g : List Ty} {f : Fm} (h : MkFm true n g f) (hg : ∀ y ∈ g, MkTy 1 y) (hb : g.length + n ≤ 10000) : Fine n f := by
  induction h with
  | eq h1 h2 => exact fine_eq h1 h2 hg (by omega)
  | two hk _ _ h1 h2 => exact fine_two hk (h1 hg (by omega)) (h2 hg (by omega))
  | @q n g k s a hk hs _ h1 =>
    simp only [if_true] at hs
    obtain ⟨a1, a2, a3, a4⟩ := h1 (app_mk hg hs) (by simp; omega)
    have hk' : k = 4 ∨ k = 5 ∨ k = 6 ∨ k = 7 := by rcases hk with h | h | ⟨_, h | h⟩ <;> simp [h]
    refine ⟨.q hk (hs.G (by omega)) a1, by rw [fmSz_q, Nat.pow_succ]; omega, least_q a3, fun a ha hb => ?_⟩
    have := a4 (a + 1) (by omega) (by omega)
    rw [fmOcc_q hk', Nat.pow_succ]; omega

theorem MkDec.fine {n : Nat} {g : List Ty} {f : Fm} (h : MkDec n g f) (hg : ∀ y ∈ g, MkTy 1 y) (hb : g.length + n ≤ 10000) : Fine n f := by
  induction h with
  | eq h1 h2 => exact fine_eq h1 h2 hg (by omega)
  | two hk _ _ h1 h2 => exact fine_two hk (h1 hg (by omega)) (h2 hg (by omega))
  | @bnd n g all x b hx _ h1 =>
    obtain ⟨b1, b2, b3, b4⟩ := h1 (app_mk hg .nat) (by simp; omega)
    obtain ⟨x1, x2, x3⟩ := hx.small hg (by omega)
    obtain ⟨x4, x5⟩ := hx.one hg
    obtain ⟨u1, u2, u3⟩ := hx.up1 hg (by omega)
    have hl : (x.up 1 0).least 536870912 = true := by
      have := hx.least (M := 3) (m := 536870911) (by omega) (by omega) (fun y hy => (hg y hy).sz1) (by rw [tySz_nat]; omega) (by rw [tySz_nat]; omega)
      have := least_up (M := 536870911) (b := 1) (by omega) (by omega) (by omega) (by omega) _ x1 (Nat.le_refl _) (by simpa using this) 0
      simpa using this
    have := Nat.one_le_two_pow (n := n)
    have e := tmSz_up (b := 1) x 0
    have hless : (lessF (tmVar 0) (x.up 1 0)).least 536870912 = true :=
      least_eqn (least_2 (by omega) (least_2 (by omega) (least_sub (by omega)) (least_1 (by omega) (least_v (by omega)))) hl) (least_0 (by omega))
    refine ⟨bndF_G u1 b1, by rw [bndF_sz, Nat.pow_succ]; omega, least_q (least_two hless b3), fun a ha hb2 => ?_⟩
    have h4 := b4 (a + 1) (by omega) (by omega)
    have hk : (if all then (4 : Int) else 5) = 4 ∨ (if all then (4 : Int) else 5) = 5 ∨ (if all then (4 : Int) else 5) = 6 ∨ (if all then (4 : Int) else 5) = 7 := by cases all <;> simp
    have hk2 : (if all then (3 : Int) else 2) = 2 ∨ (if all then (3 : Int) else 2) = 3 := by cases all <;> simp
    have ho := TmG.up_occ_shift (b := 1) (by omega) (by omega) _ x1 (Nat.le_refl _) (least_mono (by omega) _ x3) 0 a (by omega) ha (by omega)
    have hv : tmOcc (tmVar 0) (a + 1) = 0 := by
      have : ((0 : Int) == a + 1) = false := by simp; omega
      simp [tmVar, tmOcc, this]
    have hz : tmOcc (tm0 4 []) (a + 1) = 0 := by simp [tm0, tmOcc, tmOccL]
    have := x5 a ha
    unfold bndF lessF
    rw [fmOcc_q hk, fmOcc_two hk2, fmOcc_eq, occ_2 rfl rfl, occ_2 rfl rfl, occ_1 rfl rfl, occ_sub (by omega), hv, hz, ho, Nat.pow_succ]
    omega
end GoAbs
namespace GoAbs
open Go
theorem FmG.free_dec {u : Bool} {f : Fm} (h : FmG u f) : f.fl.f = true → f.fl.d = true := by
  induction h with
  | eq => rw [Fm.fl_eqn]; exact fun _ => rfl
  | two hk _ _ h1 h2 =>
    rw [Fm.fl_two hk]
    intro h
    simp only [Bool.and_eq_true] at h ⊢
    exact ⟨h1 h.1, h2 h.2⟩
  | @q k s a hk _ _ _ =>
    intro h
    have h4 : 4 ≤ k := by rcases hk with rfl | rfl | ⟨_, rfl | rfl⟩ <;> omega
    rw [Fm.fl_q (f := fmQ k s a) h4 rfl] at h
    cases h

theorem fmUp_eqn {b d : Int} {x y : Tm} : (fmEq x y).up b d = fmEq (x.up b d) (y.up b d) := by rw [Fm.up_eq]; rfl
theorem fmUp_two {b d k : Int} {x y : Fm} : (fmTwo k x y).up b d = fmTwo k (x.up b (addW d (fmBelow k))) (y.up b (addW d (fmBelow k))) := by rw [Fm.up_eq]; rfl
theorem fmUp_q {b d k : Int} {t : Ty} {x : Fm} : (fmQ k t x).up b d = fmQ k t (x.up b (addW d (fmBelow k))) := by rw [Fm.up_eq]; rfl
theorem FmG.up {u : Bool} {b : Int} (hb0 : 0 ≤ b) (hb : b ≤ 1000000) {f : Fm} (h : FmG u f) : f.least 536870912 = true → ∀ d : Int, FmG u (f.up b d) ∧ fmSz (f.up b d) = fmSz f := by
  induction h with
  | @eq x y hx hy =>
    intro hl d
    have l1 := least_terms (x := x) hl (by simp [fmEq, Fm.terms])
    have l2 := least_terms (x := y) hl (by simp [fmEq, Fm.terms])
    rw [fmUp_eqn, fmSz_eq, fmSz_eq, tmSz_up, tmSz_up]
    exact ⟨.eq (TmG.up hb0 hb _ hx (Nat.le_refl _) l1 d) (TmG.up hb0 hb _ hy (Nat.le_refl _) l2 d), rfl⟩
  | @two k p q hk _ _ h1 h2 =>
    intro hl d
    obtain ⟨a1, a2⟩ := h1 (least_args hl (by simp [fmTwo, Fm.args])) (addW d (fmBelow k))
    obtain ⟨b1, b2⟩ := h2 (least_args hl (by simp [fmTwo, Fm.args])) (addW d (fmBelow k))
    rw [fmUp_two, fmSz_two, fmSz_two, a2, b2]
    exact ⟨.two hk a1 b1, rfl⟩
  | @q k t p hk ht _ h1 =>
    intro hl d
    obtain ⟨a1, a2⟩ := h1 (least_args hl (by simp [fmQ, Fm.args])) (addW d (fmBelow k))
    rw [fmUp_q, fmSz_q, fmSz_q, a2]
    exact ⟨.q hk ht a1, rfl⟩

theorem fmUp_W {b : Int} : ∀ (t : Fm) (d : Int), FmW t → FmW (t.up b d) := by
  intro t
  induction t using Fm.ind with | h t ih => ?_
  intro d ht
  rw [Fm.up_eq]
  refine .mk _ _ _ _ ht.ty (by rw [List.length_map]; exact ht.tlen) ?_ (by rw [List.length_map]; exact ht.len) ?_
  · intro x hx
    obtain ⟨y, hy, rfl⟩ := List.mem_map.1 hx
    have key : ∀ (t : Tm) (fr : Int), TmW t → TmW (t.up b fr) := by
      intro t
      induction t using Tm.ind with | h t ih => ?_
      intro fr ht
      rw [Tm.up_eq]
      refine .mk _ _ _ _ ht.ty (by rw [List.length_map]; exact ht.len) ?_
      intro x hx
      obtain ⟨y, hy, rfl⟩ := List.mem_map.1 hx
      exact ih y hy _ (ht.arg hy)
    exact key y _ (ht.term hy)
  · intro x hx
    obtain ⟨y, hy, rfl⟩ := List.mem_map.1 hx
    exact ih y hy _ (ht.arg hy)

theorem fmLift_ok {f : Fm} (gf : FmG true f) (zf : fmSz f ≤ 4096) (lf : f.least 536870912 = true) : fmLift f 0 2 = (f.up 2 0, 0) := by
  unfold fmLift
  rw [gf.err0 zf, lf]; rfl
theorem fmPut_ok {f : Fm} {t : Tm} (gf : FmG true f) (gt : TmG t) (zf : fmSz f ≤ 399) (zt : tmSz t ≤ 76) (lf : f.least 536870912 = true) (lt : t.least 536870912 = true) (ho : fmOcc f 0 ≤ 48) :
    fmPut f 0 t = (fmInn t 0 f 0, 0) := by
  have e1 := gf.szW (by omega)
  have e2 := gt.szW (by omega)
  have e3 := gf.times_occ 0 (by omega) (by omega)
  have hp := tmSz_pos t
  have e4 : subW t.szW 1 = ((tmSz t - 1 : Nat) : Int) := by rw [e2, subW_eq (by omega) (by omega) (by omega) (by omega)]; omega
  have hm : fmOcc f 0 * (tmSz t - 1) ≤ 48 * 75 := Nat.mul_le_mul ho (by omega)
  have e5 : mulW (f.times 0) (subW t.szW 1) = ((fmOcc f 0 * (tmSz t - 1) : Nat) : Int) := by
    rw [e3, e4]
    unfold mulW
    exact wrap_eq (by simp) (by omega) (by omega)
  have e6 : addW f.szW (mulW (f.times 0) (subW t.szW 1)) = ((fmSz f + fmOcc f 0 * (tmSz t - 1) : Nat) : Int) := by
    rw [e5, e1, addW_eq (by omega) (by omega) (by omega) (by omega)]; simp
  have d1 : decide (((fmSz f + fmOcc f 0 * (tmSz t - 1) : Nat) : Int) > 4096) = false := by simp; omega
  unfold fmPut
  rw [gf.err0 (by omega), gt.err0 (by omega), lf, lt, e6, d1]; rfl

theorem law_stays {f : Fm} {t : Tm} (hf : Fine 3 f) (gt : TmG t) (zt : tmSz t ≤ 76) (lt : t.least 536870912 = true) :
    fmLift f 0 2 = (f.up 2 0, 0) ∧ fmPut f 0 t = (fmInn t 0 f 0, 0) ∧
    f.has 1 = (f.fl.c, 0) ∧ f.has 2 = (f.fl.f, 0) ∧ f.has 4 = (f.fl.d, 0) ∧ (f.fl.f = true → f.fl.d = true) ∧
    (f.up 2 0).has 1 = (f.fl.c, 0) ∧ (f.up 2 0).has 2 = (f.fl.f, 0) ∧ (f.up 2 0).has 4 = ((f.up 2 0).fl.d, 0) ∧ (f.fl.d = true → (f.up 2 0).fl.d = true) ∧
    (fmInn t 0 f 0).has 1 = (f.fl.c, 0) ∧ (fmInn t 0 f 0).has 2 = (f.fl.f, 0) ∧ (fmInn t 0 f 0).has 4 = ((fmInn t 0 f 0).fl.d, 0) ∧ (f.fl.d = true → (fmInn t 0 f 0).fl.d = true) := by
  obtain ⟨gf, zf, lf, of⟩ := hf
  have zf : fmSz f ≤ 399 := by have e : 50 * 2 ^ 3 = 400 := rfl; omega
  have ho : fmOcc f 0 ≤ 48 := by have := of 0 (by omega) (by omega); have e : 6 * 2 ^ 3 = 48 := rfl; omega
  obtain ⟨gu, zu⟩ := gf.up (b := 2) (by omega) (by omega) lf 0
  have gi := gf.inn gt lt lf 0 (by omega) (by omega)
  have zi := gf.inn_sz (s := t) 0 (by omega) (by omega)
  have hm : fmOcc f 0 * (tmSz t - 1) ≤ 48 * 75 := Nat.mul_le_mul ho (by omega)
  obtain ⟨u1, u2, u3⟩ := fl_up gf lf (by omega)
  obtain ⟨i1, i2, i3⟩ := fl_inn gt lt (by omega) gf lf (by omega)
  refine ⟨fmLift_ok gf (by omega) lf, fmPut_ok gf gt zf zt lf lt ho, gf.has (by omega) 1, gf.has (by omega) 2, gf.has (by omega) 4, gf.free_dec, ?_, ?_, gu.has (by omega) 4, u3, ?_, ?_, gi.has (by omega) 4, i3⟩
  · rw [gu.has (by omega) 1, ← u1]; rfl
  · rw [gu.has (by omega) 2, ← u2]; rfl
  · rw [gi.has (by omega) 1, ← i1]; rfl
  · rw [gi.has (by omega) 2, ← i2]; rfl
end GoAbs
