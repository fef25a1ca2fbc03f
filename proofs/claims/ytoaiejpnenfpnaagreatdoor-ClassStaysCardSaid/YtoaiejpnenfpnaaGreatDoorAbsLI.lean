/-
  The abstract layer: plain laws.
-/
import Derived.Test.YtoaiejpnenfpnaaGreatDoorAbsLH
set_option linter.unusedSimpArgs false
set_option linter.unusedVariables false
set_option linter.unusedSectionVars false
namespace GoAbs
open Go

mutual
/-- All free variables are below n. -/
def tmCl : Tm → Int → Bool
  | .mk k i _ l, n => if k == 1 then decide (i < n) && l.isEmpty else tmClL l (n + tmBelow k)
def tmClL : List Tm → Int → Bool
  | [], _ => true
  | t :: l, n => tmCl t n && tmClL l n
end
theorem tmClL_mem : ∀ {l : List Tm} {n : Int}, tmClL l n = true → ∀ x ∈ l, tmCl x n = true
  | t :: l, n, h, x, hx => by
    rw [tmClL, Bool.and_eq_true] at h
    rcases List.mem_cons.1 hx with rfl | hx
    · exact h.1
    · exact tmClL_mem h.2 x hx
theorem map_id {g : Tm → Tm} : ∀ {l : List Tm}, (∀ x ∈ l, g x = x) → l.map g = l
  | [], _ => rfl
  | t :: l, h => by rw [List.map_cons, h t (by simp), map_id (fun x hx => h x (by simp [hx]))]

theorem up_cl {b : Int} : ∀ (n : Nat) (t : Tm), tmSz t ≤ n → ∀ m fr : Int, tmCl t m = true → m ≤ fr → 0 ≤ fr → fr + n ≤ 1000000 → t.up b fr = t
  | 0, t, hn, _, _, _, _, _, _ => by have := tmSz_pos t; omega
  | n + 1, .mk k i ty l, hn, m, fr, hc, hm, h0, hb => by
    rw [tmSz] at hn
    have hr := tmBelow_range k
    have e : addW fr (tmBelow k) = fr + tmBelow k := addW_eq (by omega) (by omega) (by omega) (by omega)
    rw [tmCl] at hc
    rw [Tm.up, Tm.upL_map, e]
    cases hk : (k == 1) with
    | true =>
      rw [hk] at hc
      simp only [if_true, Bool.and_eq_true, decide_eq_true_eq, List.isEmpty_iff] at hc
      obtain ⟨hc, rfl⟩ := hc
      have e2 : decide (i ≥ fr) = false := by simp; omega
      rw [e2]
      simp only [Bool.and_false, Bool.false_eq_true, if_false, List.map_nil]
    | false =>
      rw [hk] at hc
      simp only [Bool.false_eq_true, if_false] at hc
      simp only [Bool.false_and, Bool.false_eq_true, if_false]
      rw [map_id (fun x hx => up_cl n x (by have := tmSzL_mem hx; omega) (m + tmBelow k) _ (tmClL_mem hc x hx) (by omega) (by omega) (by omega))]

theorem inn_cl {s : Tm} : ∀ (n : Nat) (t : Tm), tmSz t ≤ n → ∀ m d : Int, tmCl t m = true → m ≤ d → 0 ≤ d → d + n ≤ 1000000 → tmInn s 0 t d = t
  | 0, t, hn, _, _, _, _, _, _ => by have := tmSz_pos t; omega
  | n + 1, .mk k i ty l, hn, m, d, hc, hm, h0, hb => by
    rw [tmSz] at hn
    have hr := tmBelow_range k
    have e : addW d (tmBelow k) = d + tmBelow k := addW_eq (by omega) (by omega) (by omega) (by omega)
    have e0 : addW 0 d = d := by rw [addW_eq (by omega) (by omega) (by omega) (by omega)]; omega
    rw [tmCl] at hc
    rw [tmInn, tmInnL_map, e, e0]
    cases hk : (k == 1) with
    | true =>
      rw [hk] at hc
      simp only [if_true, Bool.and_eq_true, decide_eq_true_eq, List.isEmpty_iff] at hc
      obtain ⟨hc, rfl⟩ := hc
      have e2 : (i == d) = false := by simp; omega
      have e3 : decide (i > d) = false := by simp; omega
      rw [e2, e3]
      simp only [Bool.false_eq_true, if_false, if_true]
    | false =>
      rw [hk] at hc
      simp only [Bool.false_eq_true, if_false] at hc
      simp only [Bool.false_eq_true, if_false]
      rw [map_id (fun x hx => inn_cl n x (by have := tmSzL_mem hx; omega) (m + tmBelow k) _ (tmClL_mem hc x hx) (by omega) (by omega) (by omega))]

theorem occ_map {g : Tm → Tm} {x y : Int} : ∀ {l : List Tm}, (∀ t ∈ l, tmOcc (g t) x = tmOcc t y) → tmOccL (l.map g) x = tmOccL l y
  | [], _ => rfl
  | t :: l, h => by rw [List.map_cons, tmOccL, tmOccL, h t (by simp), occ_map (fun z hz => h z (by simp [hz]))]

theorem var_i {i : Int} (hl : (tmVar i).least 1000000000 = true) : i ≤ 1000000000 := by
  rw [tmVar, Tm.least, Bool.and_eq_true] at hl; exact of_decide_eq_true hl.1

/-- Lifting from fr on keeps the number of times of a variable before it. -/
theorem TmG.up_occ_lt {b : Int} (hb0 : 0 ≤ b) (hb1 : b ≤ 1000000) : ∀ (k : Nat) {t : Tm}, TmG t → tmSz t ≤ k → t.least 1000000000 = true → ∀ fr x : Int, 0 ≤ x → x < fr → fr + k ≤ 1000000 → tmOcc (t.up b fr) x = tmOcc t x
  | 0, t, h, hn, _, _, _, _, _, _ => by have := tmSz_pos t; omega
  | k + 1, t, h, hn, hl, fr, x, hx, hxf, hb => by
    revert hn hl
    refine h.cases' (p := fun t => tmSz t ≤ k + 1 → t.least 1000000000 = true → tmOcc (t.up b fr) x = tmOcc t x) ?_ ?_
    · intro i hi _ hl
      have hi2 := var_i hl
      rw [tmVar, Tm.up, Tm.upL, tmOcc, tmOcc]
      simp only [beq_self_eq_true, Bool.true_and, if_true]
      by_cases h : i ≥ fr
      · rw [decide_eq_true h, addW_eq (by omega) (by omega) (by omega) (by omega)]
        have e1 : (i + b == x) = false := by simp; omega
        have e2 : (i == x) = false := by simp; omega
        simp [e1, e2]
      · rw [decide_eq_false h]; simp
    · intro kk ty l hk _ hg _ hn hl
      rw [tmSz] at hn
      rw [Tm.least, Bool.and_eq_true] at hl
      have hr := tmBelow_range kk
      have e : addW fr (tmBelow kk) = fr + tmBelow kk := addW_eq (by omega) (by omega) (by omega) (by omega)
      rw [Tm.up, Tm.upL_map, tmOcc, tmOcc, hk, e]
      simp only [Bool.false_and, Bool.false_eq_true, if_false]
      exact occ_map fun y hy => TmG.up_occ_lt hb0 hb1 k (hg y hy) (by have := tmSzL_mem hy; omega) (Tm.leastL_iff.1 hl.2 y hy) _ _ (by omega) (by omega) (by omega)

/-- What is lifted by b from fr on has no variable between. -/
theorem TmG.up_occ_gap {b : Int} (hb0 : 0 ≤ b) (hb1 : b ≤ 1000000) : ∀ (k : Nat) {t : Tm}, TmG t → tmSz t ≤ k → t.least 1000000000 = true → ∀ fr x : Int, 0 ≤ fr → fr ≤ x → x < fr + b → fr + k ≤ 1000000 → tmOcc (t.up b fr) x = 0
  | 0, t, h, hn, _, _, _, _, _, _, _ => by have := tmSz_pos t; omega
  | k + 1, t, h, hn, hl, fr, x, h0, hx, hxf, hb => by
    revert hn hl
    refine h.cases' (p := fun t => tmSz t ≤ k + 1 → t.least 1000000000 = true → tmOcc (t.up b fr) x = 0) ?_ ?_
    · intro i hi _ hl
      have hi2 := var_i hl
      rw [tmVar, Tm.up, Tm.upL, tmOcc]
      simp only [beq_self_eq_true, Bool.true_and, if_true]
      by_cases h : i ≥ fr
      · rw [decide_eq_true h, addW_eq (by omega) (by omega) (by omega) (by omega)]
        have e1 : (i + b == x) = false := by simp; omega
        simp [e1]
      · rw [decide_eq_false h]
        have e1 : (i == x) = false := by simp; omega
        simp [e1]
    · intro kk ty l hk _ hg _ hn hl
      rw [tmSz] at hn
      rw [Tm.least, Bool.and_eq_true] at hl
      have hr := tmBelow_range kk
      have e : addW fr (tmBelow kk) = fr + tmBelow kk := addW_eq (by omega) (by omega) (by omega) (by omega)
      rw [Tm.up, Tm.upL_map, tmOcc, hk, e]
      simp only [Bool.false_and, Bool.false_eq_true, if_false]
      refine tmOccL_zero ?_
      intro z hz
      obtain ⟨y, hy, rfl⟩ := List.mem_map.1 hz
      exact TmG.up_occ_gap hb0 hb1 k (hg y hy) (by have := tmSzL_mem hy; omega) (Tm.leastL_iff.1 hl.2 y hy) _ _ (by omega) (by omega) (by omega) (by omega)

/-- Putting in for d keeps the number of times of a variable before it. -/
theorem TmG.inn_occ {s : Tm} (hs : TmG s) (hss : tmSz s ≤ 10000) (hsl : s.least 1000000000 = true) : ∀ (k : Nat) {t : Tm}, TmG t → tmSz t ≤ k → t.least 1000000000 = true → ∀ d x : Int, 0 ≤ x → x < d → d + k ≤ 500000 → tmOcc (tmInn s 0 t d) x = tmOcc t x
  | 0, t, h, hn, _, _, _, _, _, _ => by have := tmSz_pos t; omega
  | k + 1, t, h, hn, hl, d, x, hx, hxf, hb => by
    revert hn hl
    have e0 : addW 0 d = d := by rw [addW_eq (by omega) (by omega) (by omega) (by omega)]; omega
    refine h.cases' (p := fun t => tmSz t ≤ k + 1 → t.least 1000000000 = true → tmOcc (tmInn s 0 t d) x = tmOcc t x) ?_ ?_
    · intro i hi _ hl
      have hi2 := var_i hl
      rw [tmVar, tmInn, tmOcc, e0]
      simp only [beq_self_eq_true, if_true]
      by_cases h1 : i = d
      · have e1 : (i == d) = true := by simpa using h1
        have e2 : (i == x) = false := by simp; omega
        rw [e1, e2]
        simp only [if_true, Bool.false_eq_true, if_false]
        exact TmG.up_occ_gap (by omega) (by omega) _ hs (Nat.le_refl _) hsl 0 x (by omega) hx (by omega) (by omega)
      · have e1 : (i == d) = false := by simpa using h1
        rw [e1]
        simp only [Bool.false_eq_true, if_false]
        by_cases h2 : i > d
        · have e2 : (i == x) = false := by simp; omega
          have e3 : (i - 1 == x) = false := by simp; omega
          rw [decide_eq_true h2, e2, subW_eq (by omega) (by omega) (by omega) (by omega)]
          simp [tmVar, tmOcc, e3]
        · rw [decide_eq_false h2]
          simp [tmOcc]
    · intro kk ty l hk _ hg _ hn hl
      rw [tmSz] at hn
      rw [Tm.least, Bool.and_eq_true] at hl
      have hr := tmBelow_range kk
      have e : addW d (tmBelow kk) = d + tmBelow kk := addW_eq (by omega) (by omega) (by omega) (by omega)
      rw [tmInn, tmInnL_map, tmOcc, hk, e]
      simp only [Bool.false_eq_true, if_false, tmOcc, hk]
      exact occ_map fun y hy => TmG.inn_occ hs hss hsl k (hg y hy) (by have := tmSzL_mem hy; omega) (Tm.leastL_iff.1 hl.2 y hy) _ _ (by omega) (by omega) (by omega)
end GoAbs
namespace GoAbs
open Go
mutual
def Fm.up (b : Int) : Fm → Int → Fm
  | .mk k t l a, fr => .mk k t (l.map fun x => x.up b fr) (Fm.upL b a (addW fr (fmBelow k)))
def Fm.upL (b : Int) : List Fm → Int → List Fm
  | [], _ => []
  | t :: l, fr => t.up b fr :: Fm.upL b l fr
end
theorem Fm.upL_map {b : Int} : ∀ (l : List Fm) (fr : Int), Fm.upL b l fr = l.map fun t => t.up b fr
  | [], fr => by simp [Fm.upL]
  | t :: l, fr => by simp [Fm.upL, Fm.upL_map l fr]
theorem Fm.up_eq (b : Int) (t : Fm) (fr : Int) : t.up b fr = .mk t.kind t.type (t.terms.map fun x => x.up b fr) (t.args.map fun x => x.up b (addW fr (fmBelow t.kind))) := by
  cases t; rw [Fm.up, Fm.upL_map]; rfl
def fmLift (f : Fm) (fr b : Int) : Fm × Int :=
  if fmErr f != 0 then (zeroF, fmErr f)
  else if decide (fr < 0) || decide (fr > 4096) || decide (b < 0) || decide (b > 4096) || !f.least 536870912 then (zeroF, 1)
  else (f.up b fr, 0)

theorem TmG.arg {t x : Tm} (h : TmG t) (hx : x ∈ t.args) : TmG x := by
  cases h with
  | plain _ _ _ h => exact h x hx
  | var => simp [tmVar, Tm.args] at hx
  | typd _ _ _ _ h => exact h x hx
theorem TyG.nat1 {s : Ty} (h : TyG s) (hk : (s.kind != 1) = false) : s = tNat := by
  obtain ⟨h, _⟩ := h
  cases h with
  | nat => rfl
  | _ => simp [tList, tUnit, tPair, tFun, Ty.kind] at hk

theorem FmG.bnd {u : Bool} {f : Fm} (h : FmG u f) (hb : isBnd f = true) : ∃ all q y, f = bndF all q y ∧ TmG q ∧ FmG u y ∧ ¬ q.count 0 > 0 := by
  unfold isBnd bndHead bndRest at hb
  simp only [Bool.and_eq_true, Bool.not_eq_true'] at hb
  obtain ⟨⟨⟨⟨b1, b2⟩, b3⟩, b4⟩, ⟨b5, b6⟩, b7⟩ := hb
  cases h with
  | eq => simp [fmEq, Fm.kind] at b1
  | two hk => rcases hk with rfl | rfl <;> simp [fmTwo, Fm.kind] at b1
  | @q k s a hk hs ha =>
    have e0 : fa (fmQ k s a) 0 = a := rfl
    rw [e0] at b3 b4 b7
    have hsn := hs.nat1 b2
    subst hsn
    have hk2 : (k = 4 ∧ a.kind = 3) ∨ (k = 5 ∧ a.kind = 2) := by
      have ek : (fmQ k tNat a).kind = k := rfl
      rw [ek] at b1 b3
      by_cases h4 : k = 4
      · subst h4
        left
        exact ⟨rfl, by simpa using b3⟩
      · have e4 : (k == 4) = false := by simpa using h4
        rw [e4] at b1 b3
        right
        exact ⟨by simpa using b1, by simpa using b3⟩
    cases ha with
    | eq => simp [fmEq, Fm.kind] at hk2
    | @q k2 s2 a2 hk3 => simp only [fmQ, Fm.kind] at hk2; omega
    | @two k2 p y hk3 hp hy =>
      have e1 : fa (fmTwo k2 p y) 0 = p := rfl
      rw [e1] at b4 b7
      have hp1 := Fm.same_true b7
      generalize hq : bndTerm (fmQ k tNat (fmTwo k2 p y)) = q at *
      subst hp1
      have gq : TmG q := by
        have hx : ∃ x y, lessF (tmVar 0) q = fmEq x y ∧ TmG x := by
          generalize hz : lessF (tmVar 0) q = z at hp
          cases hp with
          | @eq x y hx hy => exact ⟨x, y, rfl, hx⟩
          | two hk => simp [lessF, fmEq, fmTwo] at hz
          | q hk => simp [lessF, fmEq, fmQ] at hz
        obtain ⟨x, y, e, hx⟩ := hx
        unfold lessF at e
        have : x = tm0 3 [tm0 3 [subT, tm0 5 [tmVar 0]], q] := by
          simp only [fmEq, Fm.mk.injEq, List.cons.injEq] at e
          exact e.2.2.1.1.symm
        subst this
        exact hx.arg (by simp [tm0, Tm.args])
      rcases hk2 with ⟨rfl, h3⟩ | ⟨rfl, h3⟩
      · have h3 : k2 = 3 := h3
        subst h3
        exact ⟨true, q, y, rfl, gq, hy, by simpa using b6⟩
      · have h3 : k2 = 2 := h3
        subst h3
        exact ⟨false, q, y, rfl, gq, hy, by simpa using b6⟩
end GoAbs
namespace GoAbs
open Go
theorem least_args {M : Int} {f x : Fm} (h : f.least M = true) (hx : x ∈ f.args) : x.least M = true := by
  rw [Fm.least_eq, Bool.and_eq_true] at h
  exact Fm.leastL_iff.1 h.2 x hx
theorem least_terms {M : Int} {f : Fm} {x : Tm} (h : f.least M = true) (hx : x ∈ f.terms) : x.least M = true := by
  rw [Fm.least_eq, Bool.and_eq_true] at h
  exact Tm.leastL_iff.1 h.1 x hx
theorem least_arg {M : Int} {t x : Tm} (h : t.least M = true) (hx : x ∈ t.args) : x.least M = true := by
  rw [Tm.least_eq, Bool.and_eq_true] at h
  exact Tm.leastL_iff.1 h.2 x hx

theorem fl_keep (m : Tm → Int → Tm) (F : Fm → Int → Fm)
    (hF : ∀ k t l a d, F (.mk k t l a) d = .mk k t (l.map fun x => m x d) (a.map fun x => F x (addW d (fmBelow k))))
    (hm : ∀ q d, TmG q → tmSz q ≤ 1000 → q.least 536870912 = true → 0 ≤ d → d ≤ 100000 →
      m (tm0 3 [tm0 3 [subT, tm0 5 [tmVar 0]], q]) (d + 1) = tm0 3 [tm0 3 [subT, tm0 5 [tmVar 0]], m q (d + 1)] ∧ m (tm0 4 []) (d + 1) = tm0 4 [] ∧ (tmOcc q 0 = 0 → (m q (d + 1)).count 0 = 0)) :
    ∀ (n : Nat) (f : Fm), FmG true f → f.least 536870912 = true → fmSz f ≤ n → n ≤ 1000 → ∀ d : Int, 0 ≤ d → d + n ≤ 100000 →
      (F f d).fl.c = f.fl.c ∧ (F f d).fl.f = f.fl.f ∧ (f.fl.d = true → (F f d).fl.d = true) := by
  intro n
  induction n with
  | zero => intro f _ _ hz; have : 1 ≤ fmSz f := by (cases f; rw [fmSz]; omega)
            omega
  | succ n ih =>
  intro f hf hl hz hn d h0 hd
  have aw0 : addW d 0 = d := addW_zero h0 (by omega)
  have aw1 : addW d 1 = d + 1 := addW_eq (by omega) (by omega) (by omega) (by omega)
  have hf' := hf
  cases hf with
  | eq hx hy =>
    have e : ∀ x y, F (fmEq x y) d = fmEq (m x d) (m y d) := fun x y => hF 1 _ _ _ d
    rw [e, Fm.fl_eqn, Fm.fl_eqn]; exact ⟨rfl, rfl, fun _ => rfl⟩
  | @two k a b hk ha hb =>
    rw [fmSz_two] at hz
    have e : F (fmTwo k a b) d = fmTwo k (F a d) (F b d) := by
      have := hF k (.mk 0 []) [] [a, b] d
      rw [below_two hk, aw0] at this
      exact this
    obtain ⟨a1, a2, a3⟩ := ih a ha (least_args hl (by simp [fmTwo, Fm.args])) (by omega) (by omega) d h0 (by omega)
    obtain ⟨b1, b2, b3⟩ := ih b hb (least_args hl (by simp [fmTwo, Fm.args])) (by omega) (by omega) d h0 (by omega)
    rw [e, Fm.fl_two hk, Fm.fl_two hk]
    refine ⟨by simp only [a1, b1], by simp only [a2, b2], fun h => ?_⟩
    simp only [Bool.and_eq_true] at h ⊢
    exact ⟨a3 h.1, b3 h.2⟩
  | @q k s a hk hs ha =>
    rw [fmSz_q] at hz
    have hk4 : 4 ≤ k := by rcases hk with rfl | rfl | ⟨_, rfl | rfl⟩ <;> omega
    have hb1 : fmBelow k = 1 := by rcases hk with rfl | rfl | ⟨_, rfl | rfl⟩ <;> rfl
    have e : F (fmQ k s a) d = fmQ k s (F a (d + 1)) := by
      have := hF k s [] [a] d
      rw [hb1, aw1] at this
      exact this
    have la := least_args (x := a) hl (by simp [fmQ, Fm.args])
    obtain ⟨a1, a2, a3⟩ := ih a ha la (by omega) (by omega) (d + 1) (by omega) (by omega)
    refine ⟨by rw [e, Fm.fl_qc hk4, Fm.fl_qc hk4, a1], by rw [e, Fm.fl_q (f := fmQ k s (F a (d + 1))) hk4 rfl, Fm.fl_q (f := fmQ k s a) hk4 rfl], fun h => ?_⟩
    cases hb : isBnd (fmQ k s a) with
    | false => rw [Fm.fl_qn (f := fmQ k s a) hk4 rfl hb] at h; cases h
    | true =>
      obtain ⟨all, q, y, e2, gq, gy, hc⟩ := hf'.bnd hb
      have ea : fmTwo (if all then 3 else 2) (lessF (tmVar 0) q) y = a := by
        unfold bndF fmQ at e2
        simp only [Fm.mk.injEq, List.cons.injEq, and_true] at e2
        exact e2.2.2.2.symm
      have ek : (if all then (4 : Int) else 5) = k := by
        unfold bndF fmQ at e2
        simp only [Fm.mk.injEq] at e2
        exact e2.1.symm
      have es : s = tNat := by
        unfold bndF fmQ at e2
        simp only [Fm.mk.injEq] at e2
        exact e2.2.1
      subst ea
      subst es
      subst ek
      rw [fmSz_two, lessF_sz, tmSz_v] at hz
      have ly := least_args (x := y) la (by simp [fmTwo, Fm.args])
      have lL := least_args (x := lessF (tmVar 0) q) la (by simp [fmTwo, Fm.args])
      have lt := least_terms (x := tm0 3 [tm0 3 [subT, tm0 5 [tmVar 0]], q]) lL (by simp [lessF, fmEq, Fm.terms])
      have lq := least_arg (x := q) lt (by simp [tm0, Tm.args])
      obtain ⟨m1, m2, m3⟩ := hm q d gq (by omega) lq h0 (by omega)
      have oq : tmOcc q 0 = 0 := by
        have := gq.count_occ (by omega) (least_mono (by omega) _ lq) (a := 0) (by omega) (by omega)
        rw [this] at hc; omega
      have eF : F (fmTwo (if all then 3 else 2) (lessF (tmVar 0) q) y) (d + 1) = fmTwo (if all then 3 else 2) (lessF (tmVar 0) (m q (d + 1))) (F y (d + 1)) := by
        have hb2 : fmBelow (if all then 3 else 2) = 0 := by cases all <;> rfl
        have q1 := hF (if all then 3 else 2) (.mk 0 []) [] [lessF (tmVar 0) q, y] (d + 1)
        rw [hb2, addW_zero (by omega) (by omega)] at q1
        have q2 : F (lessF (tmVar 0) q) (d + 1) = lessF (tmVar 0) (m q (d + 1)) := by
          have := hF 1 (.mk 0 []) [tm0 3 [tm0 3 [subT, tm0 5 [tmVar 0]], q], tm0 4 []] [] (d + 1)
          simp only [List.map_cons, List.map_nil, m1, m2] at this
          exact this
        simp only [List.map_cons, List.map_nil, q2] at q1
        exact q1
      rw [e, eF]
      have h2 : (bndF all (m q (d + 1)) (F y (d + 1))).fl.d = (F y (d + 1)).fl.d := bndF_fl (m3 oq)
      have h3 : (bndF all q y).fl.d = y.fl.d := bndF_fl (by have := gq.count_occ (by omega) (least_mono (by omega) _ lq) (a := 0) (by omega) (by omega); rw [this, oq]; rfl)
      have h4 : (bndF all q y).fl.d = true := h
      rw [h3] at h4
      have := (ih y gy ly (by omega) (by omega) (d + 1) (by omega) (by omega)).2.2 h4
      rw [← h2] at this
      exact this

theorem left_cl : tmCl (tm0 3 [subT, tm0 5 [tmVar 0]]) 1 = true := by decide
theorem left_sz : tmSz (tm0 3 [subT, tm0 5 [tmVar 0]]) = 19 := by rw [tmSz_2, tmSz_sub, tmSz_1, tmSz_v]
theorem up_tm0 {b k fr : Int} {l : List Tm} (hk : (k == 1) = false) : (tm0 k l).up b fr = tm0 k (l.map fun x => x.up b (addW fr (tmBelow k))) := by
  rw [tm0, Tm.up, Tm.upL_map, hk]; rfl
theorem inn_tm0 {s : Tm} {k d : Int} {l : List Tm} (hk : (k == 1) = false) : tmInn s 0 (tm0 k l) d = tm0 k (l.map fun x => tmInn s 0 x (addW d (tmBelow k))) := by
  rw [tm0, tmInn, tmInnL_map, hk]; rfl
theorem h0_of {t : Tm} (h : TmG t) : 0 ≤ t.index := by cases h <;> simp [tm0, tmVar, tmT, Tm.index] <;> assumption
theorem least_up {M b : Int} (hM : 0 ≤ M) (hM2 : M ≤ 1000000000) (hb0 : 0 ≤ b) (hb : b ≤ 1000000) : ∀ (n : Nat) {t : Tm}, TmG t → tmSz t ≤ n → t.least M = true → ∀ fr : Int, (t.up b fr).least (M + b) = true
  | 0, t, _, hn, _, _ => by have := tmSz_pos t; omega
  | n + 1, .mk k i ty l, hG, hn, hl, fr => by
    rw [tmSz] at hn
    have h0 : 0 ≤ i := h0_of hG
    rw [Tm.least, Bool.and_eq_true] at hl
    have hi := of_decide_eq_true hl.1
    rw [Tm.up, Tm.upL_map]
    refine least_mk ?_ ?_
    · split
      · rw [addW_eq (by omega) (by omega) (by omega) (by omega)]; omega
      · omega
    · intro z hz
      obtain ⟨y, hy, rfl⟩ := List.mem_map.1 hz
      exact least_up hM hM2 hb0 hb n (hG.arg hy) (by have := tmSzL_mem hy; omega) (Tm.leastL_iff.1 hl.2 y hy) _
theorem least_inn {M : Int} (hM : 0 ≤ M) (hM2 : M ≤ 900000000) {s : Tm} (hs : TmG s) (hsl : s.least M = true) : ∀ (n : Nat) {t : Tm}, TmG t → tmSz t ≤ n → t.least M = true →
    ∀ d : Int, 0 ≤ d → d + n ≤ 1000000 → (tmInn s 0 t d).least (M + 1000000) = true
  | 0, t, _, hn, _, _, _, _ => by have := tmSz_pos t; omega
  | n + 1, .mk k i ty l, hG, hn, hl, d, h0, hb => by
    rw [tmSz] at hn
    have hi0 : 0 ≤ i := h0_of hG
    have hr := tmBelow_range k
    have e : addW d (tmBelow k) = d + tmBelow k := addW_eq (by omega) (by omega) (by omega) (by omega)
    have e0 : addW 0 d = d := by rw [addW_eq (by omega) (by omega) (by omega) (by omega)]; omega
    have hl' := hl
    rw [Tm.least, Bool.and_eq_true] at hl
    have hi := of_decide_eq_true hl.1
    rw [tmInn, tmInnL_map, e, e0]
    split
    · split
      · exact least_mono (by omega) _ (least_up hM (by omega) h0 (by omega) _ hs (Nat.le_refl _) hsl 0)
      · split
        · refine least_v ?_
          rw [subW_eq (by omega) (by omega) (by omega) (by omega)]; omega
        · exact least_mono (by omega) _ hl'
    · refine least_mk (by omega) ?_
      intro z hz
      obtain ⟨y, hy, rfl⟩ := List.mem_map.1 hz
      exact least_inn hM hM2 hs hsl n (hG.arg hy) (by have := tmSzL_mem hy; omega) (Tm.leastL_iff.1 hl.2 y hy) _ (by omega) (by omega)
end GoAbs
