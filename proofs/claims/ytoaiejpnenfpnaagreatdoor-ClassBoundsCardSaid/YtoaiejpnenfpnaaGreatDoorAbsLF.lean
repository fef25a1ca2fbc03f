/-
  The abstract layer: plain laws.
-/
import Derived.Test.YtoaiejpnenfpnaaGreatDoorAbsLE
set_option linter.unusedSimpArgs false
set_option linter.unusedVariables false
set_option linter.unusedSectionVars false
namespace GoAbs
open Go

theorem FmG.has {f : Fm} {u : Bool} (h : FmG u f) (hs : fmSz f ≤ 4096) (k : Int) : f.has k = ((if k == 1 then f.fl.c else if k == 2 then f.fl.f else f.fl.d), 0) := by
  unfold Fm.has
  rw [h.err_val (by omega), if_pos hs]; rfl

theorem law_content {f h : Fm} {s : Ty} (gf : FmG true f) (gh : FmG true h) (zf : fmSz f ≤ 2000) (zh : fmSz h ≤ 2000) (hs : TyG s) :
    f.has 1 = (f.fl.c, 0) ∧ h.has 1 = (h.fl.c, 0) ∧ (fmTwo 2 f h).has 1 = (f.fl.c || h.fl.c, 0) ∧ (fmTwo 3 f h).has 1 = (h.fl.c, 0) ∧
    ∀ k : Int, (k = 4 ∨ k = 5 ∨ k = 6 ∨ k = 7) → (fmQ k s f).has 1 = (f.fl.c || k == 5, 0) := by
  refine ⟨gf.has (by omega) 1, gh.has (by omega) 1, ?_, ?_, fun k hk => ?_⟩
  · rw [(FmG.two (.inl rfl) gf gh).has (by rw [fmSz_two]; omega) 1, Fm.fl_two (.inl rfl)]
    simp [Bool.or_comm]
  · rw [(FmG.two (.inr rfl) gf gh).has (by rw [fmSz_two]; omega) 1, Fm.fl_two (.inr rfl)]
    simp
  · have hq : k = 4 ∨ k = 5 ∨ (true = true ∧ (k = 6 ∨ k = 7)) := by rcases hk with h | h | h | h <;> simp [h]
    have h4 : 4 ≤ k := by rcases hk with h | h | h | h <;> omega
    rw [(FmG.q hq hs gf).has (by rw [fmSz_q]; omega) 1]
    simp only [beq_self_eq_true, if_true]
    rw [Fm.fl_qc h4]

theorem eachL_count {a b : Int} : ∀ (l : List Tm) (n : Nat), (∀ y ∈ l, ∀ m : Nat, m + tmSz y ≤ 1000000 → y.eachF (countF a) b (m : Int) = ((m + tmOcc y (a + b) : Nat) : Int)) → n + tmSzL l ≤ 1000000 →
    Tm.eachL (countF a) l b (n : Int) = ((n + tmOccL l (a + b) : Nat) : Int)
  | [], n, _, _ => by rw [Tm.eachL_nil, tmOccL]; rfl
  | t :: l, n, h, hb => by
    rw [tmSzL] at hb
    have := tmOcc_le t (a + b)
    rw [Tm.eachL_cons, h t (by simp) n (by omega), eachL_count l _ (fun y hy => h y (by simp [hy])) (by omega), tmOccL, Nat.add_assoc]

theorem below_eq {k b : Int} (h0 : 0 ≤ b) (h1 : b ≤ 1000000) : (if k == 2 then addW b 1 else b) = b + tmBelow k := by
  unfold tmBelow
  cases k == 2 with
  | true => simp only [if_true]; exact addW_eq (by omega) (by omega) (by omega) (by omega)
  | false => simp

mutual
theorem least_mono {m m' : Int} (h : m ≤ m') : ∀ t : Tm, t.least m = true → t.least m' = true
  | .mk k i ty l, e => by
    rw [Tm.least, Bool.and_eq_true] at e ⊢
    exact ⟨by have := of_decide_eq_true e.1; simp; omega, leastL_mono h l e.2⟩
theorem leastL_mono {m m' : Int} (h : m ≤ m') : ∀ l : List Tm, Tm.leastL m l = true → Tm.leastL m' l = true
  | [], _ => by rw [Tm.leastL]
  | t :: l, e => by
    rw [Tm.leastL, Bool.and_eq_true] at e ⊢
    exact ⟨least_mono h t e.1, leastL_mono h l e.2⟩
end
theorem TmG.each_occ : ∀ (k : Nat) {t : Tm}, TmG t → tmSz t ≤ k → t.least 1000000000 = true → ∀ a b : Int, 0 ≤ a → 0 ≤ b → a + b + k ≤ 1000000 →
    ∀ m : Nat, m + tmSz t ≤ 1000000 → t.eachF (countF a) b (m : Int) = ((m + tmOcc t (a + b) : Nat) : Int)
  | 0, t, h, hn, _, _, _, _, _, _, _, _ => by have := tmSz_pos t; omega
  | k + 1, t, h, hn, hl, a, b, ha, hb, hab, m, hm => by
    revert hn hl hm
    refine h.cases' (p := fun t => tmSz t ≤ k + 1 → t.least 1000000000 = true → m + tmSz t ≤ 1000000 → t.eachF (countF a) b (m : Int) = ((m + tmOcc t (a + b) : Nat) : Int)) ?_ ?_
    · intro i hi _ hl _
      rw [tmVar, Tm.least_eq] at hl
      have hi2 : i ≤ 1000000000 := by rw [Bool.and_eq_true] at hl; exact of_decide_eq_true hl.1
      rw [tmVar, Tm.eachF, Tm.eachL_nil, tmOcc]
      unfold countF
      rw [subW_eq (by omega) (by omega) (by omega) (by omega)]
      have e : (i - b == a) = (i == a + b) := by
        by_cases h : i = a + b
        · have h1 : (i == a + b) = true := by simpa using h
          rw [h1]; simp; omega
        · have h1 : (i == a + b) = false := by simpa using h
          rw [h1]; simp; omega
      rw [e]
      cases (i == a + b) with
      | true => simp only [beq_self_eq_true, if_true]; rw [addW_eq (by omega) (by omega) (by omega) (by omega)]; rfl
      | false => rfl
    · intro kk ty l hk _ hg _ hn hl hm
      rw [tmSz] at hn hm
      rw [Tm.least, Bool.and_eq_true] at hl
      have hr := tmBelow_range kk
      rw [Tm.eachF, tmOcc, hk, below_eq hb (by omega)]
      simp only [Bool.false_eq_true, if_false]
      have := eachL_count (a := a) (b := b + tmBelow kk) l m (fun y hy m' hm' => by
        have hsy := tmSzL_mem hy
        exact TmG.each_occ k (hg y hy) (by omega) (Tm.leastL_iff.1 hl.2 y hy) a _ ha (by omega) (by omega) m' hm') (by omega)
      rw [this, Int.add_assoc]

theorem TmG.count_occ {t : Tm} (h : TmG t) (hs : tmSz t ≤ 100000) (hl : t.least 1000000000 = true) {a : Int} (h0 : 0 ≤ a) (h1 : a ≤ 100000) : t.count a = (tmOcc t a : Int) := by
  unfold Tm.count
  have := TmG.each_occ (tmSz t) h (Nat.le_refl _) hl a 0 h0 (by omega) (by omega) 0 (by omega)
  simpa using this

theorem tmOccL_zero {x : Int} : ∀ {l : List Tm}, (∀ y ∈ l, tmOcc y x = 0) → tmOccL l x = 0
  | [], _ => rfl
  | y :: l, h => by rw [tmOccL, h y (by simp), tmOccL_zero (fun z hz => h z (by simp [hz]))]

theorem TmG.up_occ : ∀ (k : Nat) {t : Tm}, TmG t → tmSz t ≤ k → t.least 536870912 = true → ∀ b : Int, 0 ≤ b → b + k ≤ 1000000 → tmOcc (t.up 1 b) b = 0
  | 0, t, h, hn, _, _, _, _ => by have := tmSz_pos t; omega
  | k + 1, t, h, hn, hl, b, hb, hab => by
    revert hn hl
    refine h.cases' (p := fun t => tmSz t ≤ k + 1 → t.least 536870912 = true → tmOcc (t.up 1 b) b = 0) ?_ ?_
    · intro i hi _ hl
      rw [tmVar, Tm.least_eq] at hl
      have hi2 : i ≤ 536870912 := by rw [Bool.and_eq_true] at hl; exact of_decide_eq_true hl.1
      rw [tmVar, Tm.up, Tm.upL, tmOcc]
      simp only [beq_self_eq_true, Bool.true_and, if_true]
      by_cases h : i ≥ b
      · rw [decide_eq_true h, addW_eq (by omega) (by omega) (by omega) (by omega)]
        have : (i + 1 == b) = false := by simp; omega
        simp [this]
      · rw [decide_eq_false h]
        have : (i == b) = false := by simp; omega
        simp [this]
    · intro kk ty l hk _ hg _ hn hl
      rw [tmSz] at hn
      rw [Tm.least, Bool.and_eq_true] at hl
      have hr := tmBelow_range kk
      have e : addW b (tmBelow kk) = b + tmBelow kk := addW_eq (by omega) (by omega) (by omega) (by omega)
      rw [Tm.up, Tm.upL_map, tmOcc, hk, e]
      simp only [Bool.false_and, Bool.false_eq_true, if_false]
      refine tmOccL_zero ?_
      intro x hx
      obtain ⟨y, hy, rfl⟩ := List.mem_map.1 hx
      exact TmG.up_occ k (hg y hy) (by have := tmSzL_mem hy; omega) (Tm.leastL_iff.1 hl.2 y hy) _ (by omega) (by omega)

/-- A bounded quantifier. -/
def bndF (all : Bool) (x : Tm) (f : Fm) : Fm := fmQ (if all then 4 else 5) tNat (fmTwo (if all then 3 else 2) (lessF (tmVar 0) x) f)
theorem bndF_bnd {all : Bool} {x : Tm} {f : Fm} (hx : x.count 0 = 0) : isBnd (bndF all x f) = true := by
  have h1 : bndHead (bndF all x f) = true := by cases all <;> rfl
  have h2 : bndTerm (bndF all x f) = x := rfl
  have h3 : (bndSide (bndF all x f)).kind = 3 := rfl
  have h4 : fa (fa (bndF all x f) 0) 0 = lessF (tmVar 0) x := rfl
  unfold isBnd bndRest
  rw [h1, h2, h3, h4, Fm.same_refl, hx]; rfl
theorem bndF_fl {all : Bool} {x : Tm} {f : Fm} (hx : x.count 0 = 0) : (bndF all x f).fl.d = f.fl.d := by
  have hk : 4 ≤ (bndF all x f).kind := by cases all <;> simp [bndF, fmQ, Fm.kind]
  rw [Fm.fl_qb hk rfl (bndF_bnd hx) rfl]
theorem lessF_G {u : Bool} {s t : Tm} (hs : TmG s) (ht : TmG t) : FmG u (lessF s t) := .eq (.t2 ar3 rfl (.t2 ar3 rfl subT_G (.t1 ar5 rfl hs)) ht) (.t0 ar4 rfl)
theorem lessF_sz {s t : Tm} : fmSz (lessF s t) = tmSz s + tmSz t + 21 := by unfold lessF; rw [fmSz_eq, tmSz_2, tmSz_2, tmSz_1, tmSz_0, tmSz_sub]; omega
theorem bndF_sz {all : Bool} {x : Tm} {f : Fm} : fmSz (bndF all x f) = tmSz x + fmSz f + 24 := by unfold bndF; rw [fmSz_q, fmSz_two, lessF_sz, tmSz_v]; omega
theorem bndF_G {u all : Bool} {x : Tm} {f : Fm} (hx : TmG x) (hf : FmG u f) : FmG u (bndF all x f) :=
  .q (by cases all <;> simp) .nat (.two (by cases all <;> simp) (lessF_G v0_G hx) hf)
theorem bndF_W {all : Bool} {x : Tm} {f : Fm} (hx : TmW x) (hf : FmW f) : FmW (bndF all x f) := fmQ_W tNat_W (fmTwo_W (lessF_W (tmVar_W _) hx) hf)

/-- The decidable formulas that are made. -/
inductive MkDec : Nat → List Ty → Fm → Prop
  | eq {n : Nat} {g : List Ty} {x y : Tm} : MkTm 1 g tNat x → MkTm 1 g tNat y → MkDec n g (fmEq x y)
  | two {n : Nat} {g : List Ty} {k : Int} {a b : Fm} (hk : k = 2 ∨ k = 3) : MkDec n g a → MkDec n g b → MkDec (n + 1) g (fmTwo k a b)
  | bnd {n : Nat} {g : List Ty} {all : Bool} {x : Tm} {a : Fm} : MkTm 1 g tNat x → MkDec n (g ++ [tNat]) a → MkDec (n + 1) g (bndF all (x.up 1 0) a)

theorem MkTm.small {g : List Ty} {x : Tm} (h : MkTm 1 g tNat x) (hg : ∀ y ∈ g, MkTy 1 y) (hb : g.length ≤ 10000) : TmG x ∧ tmSz x ≤ 67 ∧ x.least 536870912 = true := by
  have b1 : bndT 3 1 = 67 := rfl
  have g3 : ∀ y ∈ g, tySz y ≤ 3 := fun y hy => (hg y hy).sz1
  have l1 := tySz_nat
  refine ⟨h.G (fun y hy => (hg y hy).G (by omega)) .nat, ?_, ?_⟩
  · have := (MkTm.sz (M := 3) (by omega) h g3 (by omega)).1; omega
  · have := h.least (M := 3) (m := 536870912) (by omega) (by omega) g3 (by omega) (by omega); simpa using this

theorem app_mk {g : List Ty} {s : Ty} (hg : ∀ y ∈ g, MkTy 1 y) (hs : MkTy 1 s) : ∀ y ∈ g ++ [s], MkTy 1 y := by
  intro y hy
  rcases List.mem_append.1 hy with hy | hy
  · exact hg y hy
  · simp at hy; subst hy; exact hs

theorem MkTm.up1 {g : List Ty} {x : Tm} (h : MkTm 1 g tNat x) (hg : ∀ y ∈ g, MkTy 1 y) (hb : g.length ≤ 10000) :
    TmG (x.up 1 0) ∧ tmSz (x.up 1 0) ≤ 67 ∧ (x.up 1 0).count 0 = 0 := by
  obtain ⟨h1, h2, h3⟩ := h.small hg hb
  have hG := TmG.up (b := 1) (by omega) (by omega) 67 h1 h2 h3 0
  refine ⟨hG, by rw [tmSz_up]; exact h2, ?_⟩
  have hl : (x.up 1 0).least 536870912 = true := by
    have := h.least (M := 3) (m := 536870911) (by omega) (by omega) (fun y hy => (hg y hy).sz1) (by rw [tySz_nat]; omega) (by rw [tySz_nat]; omega)
    have key : ∀ (n : Nat) {t : Tm}, tmSz t ≤ n → t.least 536870911 = true → ∀ fr : Int, TmG t → (t.up 1 fr).least 536870912 = true := by
      intro n
      induction n with
      | zero => intro t hn _ _ _; have := tmSz_pos t; omega
      | succ n ih =>
        intro t hn hl fr hG
        cases t with | mk k i ty l =>
        rw [tmSz] at hn
        rw [Tm.least, Bool.and_eq_true] at hl
        have hi := of_decide_eq_true hl.1
        rw [Tm.up, Tm.upL_map]
        have h0 : 0 ≤ i := by cases hG <;> omega
        refine least_mk ?_ ?_
        · split
          · rw [addW_eq (by omega) (by omega) (by omega) (by omega)]; omega
          · omega
        · intro z hz
          obtain ⟨y, hy, rfl⟩ := List.mem_map.1 hz
          refine ih (by have := tmSzL_mem hy; omega) (Tm.leastL_iff.1 hl.2 y hy) _ ?_
          cases hG with
          | plain _ _ _ h => exact h y hy
          | var => simp at hy
          | typd _ _ _ _ h => exact h y hy
    exact key _ (Nat.le_refl _) (by simpa using this) 0 h1
  rw [hG.count_occ (by rw [tmSz_up]; omega) (least_mono (by omega) _ hl) (by omega) (by omega), TmG.up_occ 67 h1 h2 h3 0 (by omega) (by omega)]; rfl

theorem MkDec.all {n : Nat} {g : List Ty} {f : Fm} (h : MkDec n g f) (hg : ∀ y ∈ g, MkTy 1 y) (hb : g.length + n ≤ 10000) :
    FmG true f ∧ fmSz f + 1 ≤ 136 * 2 ^ n ∧ f.fl.d = true := by
  induction h with
  | @eq n g x y h1 h2 =>
    obtain ⟨a1, a2, _⟩ := h1.small hg (by omega)
    obtain ⟨b1, b2, _⟩ := h2.small hg (by omega)
    have := Nat.one_le_two_pow (n := n)
    exact ⟨.eq a1 b1, by rw [fmSz_eq]; omega, by rw [Fm.fl_eqn]⟩
  | @two n g k a b hk _ _ h1 h2 =>
    obtain ⟨a1, a2, a3⟩ := h1 hg (by omega)
    obtain ⟨b1, b2, b3⟩ := h2 hg (by omega)
    exact ⟨.two hk a1 b1, by rw [fmSz_two, Nat.pow_succ]; omega, by rw [Fm.fl_two hk, a3, b3]; rfl⟩
  | @bnd n g all x a hx _ h1 =>
    obtain ⟨c1, c2, c3⟩ := hx.up1 hg (by omega)
    obtain ⟨a1, a2, a3⟩ := h1 (app_mk hg .nat) (by simp; omega)
    have := Nat.one_le_two_pow (n := n)
    exact ⟨bndF_G c1 a1, by rw [bndF_sz, Nat.pow_succ]; omega, by rw [bndF_fl c3, a3]⟩
end GoAbs
