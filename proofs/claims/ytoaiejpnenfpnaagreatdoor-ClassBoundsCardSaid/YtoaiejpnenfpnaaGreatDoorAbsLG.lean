/-
  The abstract layer: plain laws.
-/
import Derived.Test.YtoaiejpnenfpnaaGreatDoorAbsLF
set_option linter.unusedSimpArgs false
set_option linter.unusedVariables false
set_option linter.unusedSectionVars false
namespace GoAbs
open Go

theorem Fm.good_head {f : Fm} (h : f.good = true) : formed f.kind f.type f.terms.length f.args.length = true ∧ (∀ x ∈ f.terms, x.good = true) ∧ ∀ x ∈ f.args, x.good = true := by
  rw [Fm.good_eq] at h
  simp only [Bool.and_eq_true, List.all_eq_true] at h
  exact ⟨h.1.1, h.1.2, h.2⟩
theorem Fm.good_kind {f : Fm} (h : f.good = true) : f.kind = 1 ∨ f.kind = 2 ∨ f.kind = 3 ∨ f.kind = 4 ∨ f.kind = 5 ∨ f.kind = 6 ∨ f.kind = 7 := by
  have h := (Fm.good_head h).1
  unfold formed fmWant at h
  by_cases h1 : f.kind = 1
  · exact .inl h1
  by_cases h2 : f.kind = 2
  · exact .inr (.inl h2)
  by_cases h3 : f.kind = 3
  · exact .inr (.inr (.inl h3))
  by_cases h4 : f.kind = 4
  · exact .inr (.inr (.inr (.inl h4)))
  by_cases h5 : f.kind = 5
  · exact .inr (.inr (.inr (.inr (.inl h5))))
  by_cases h6 : f.kind = 6
  · exact .inr (.inr (.inr (.inr (.inr (.inl h6)))))
  by_cases h7 : f.kind = 7
  · exact .inr (.inr (.inr (.inr (.inr (.inr h7)))))
  simp [h1, h2, h3, h4, h5, h6, h7] at h
theorem Fm.good_two {f : Fm} (h : f.good = true) (hk : f.kind = 2 ∨ f.kind = 3) : ∃ a b, f.args = [a, b] ∧ a.good = true ∧ b.good = true := by
  obtain ⟨h1, _, h3⟩ := Fm.good_head h
  have hl : f.args.length = 2 := by
    unfold formed fmWant at h1
    rcases hk with hk | hk <;> rw [hk] at h1 <;> simp at h1 <;> omega
  obtain ⟨a, b, e⟩ := lst2 hl
  rw [e] at h3
  exact ⟨a, b, e, h3 a (by simp), h3 b (by simp)⟩
theorem Fm.good_q {f : Fm} (h : f.good = true) (hk : f.kind = 4 ∨ f.kind = 5 ∨ f.kind = 6 ∨ f.kind = 7) : ∃ a, f.args = [a] ∧ a.good = true := by
  obtain ⟨h1, _, h3⟩ := Fm.good_head h
  have hl : f.args.length = 1 := by
    unfold formed fmWant at h1
    rcases hk with hk | hk | hk | hk <;> rw [hk] at h1 <;> simp at h1 <;> omega
  obtain ⟨a, e⟩ := lst1 hl
  rw [e] at h3
  exact ⟨a, e, h3 a (by simp)⟩
theorem Fm.good_eqn {f : Fm} (h : f.good = true) (hk : f.kind = 1) : ∃ u v, f.terms = [u, v] ∧ u.good = true ∧ v.good = true := by
  obtain ⟨h1, h3, _⟩ := Fm.good_head h
  have hl : f.terms.length = 2 := by
    unfold formed fmWant at h1
    rw [hk] at h1; simp at h1; omega
  obtain ⟨a, b, e⟩ := lst2 hl
  rw [e] at h3
  exact ⟨a, b, e, h3 a (by simp), h3 b (by simp)⟩
theorem Tm.good_app {t : Tm} (h : t.good = true) (hk : t.kind = 3) : ∃ p q, t.args = [p, q] ∧ p.good = true ∧ q.good = true := by
  rw [Tm.good_eq] at h
  simp only [Bool.and_eq_true, List.all_eq_true] at h
  have hl : t.args.length = 2 := by
    have h1 := h.1
    unfold tmHead at h1
    rw [hk, ar3] at h1
    simp at h1; omega
  obtain ⟨a, b, e⟩ := lst2 hl
  have h3 := h.2
  rw [e] at h3
  exact ⟨a, b, e, h3 a (by simp), h3 b (by simp)⟩

theorem bnd_k {f : Fm} (hk : f.kind = 6 ∨ f.kind = 7) : isBnd f = false := by
  unfold isBnd bndHead
  rcases hk with hk | hk <;> rw [hk] <;> rfl
theorem bnd_ty {f : Fm} (h : (f.type.kind != 1) = true) : isBnd f = false := by
  unfold isBnd bndHead
  rw [h]; simp
theorem bnd_a4 {f a : Fm} (hk : f.kind = 4) (ha : f.args = [a]) (h : (a.kind != 3) = true) : isBnd f = false := by
  unfold isBnd bndHead fa
  rw [ha, hk]; simp [h]
theorem bnd_a5 {f a : Fm} (hk : f.kind = 5) (ha : f.args = [a]) (h : (a.kind != 2) = true) : isBnd f = false := by
  unfold isBnd bndHead fa
  rw [ha, hk]; simp [h]
theorem bnd_x {f a x y : Fm} (ha : f.args = [a]) (hx : a.args = [x, y]) (h : (x.kind != 1) = true) : isBnd f = false := by
  unfold isBnd bndHead fa
  rw [ha]
  have e : ([a].getD 0 zeroF) = a := rfl
  rw [e, hx]
  have e : ([x, y].getD 0 zeroF) = x := rfl
  rw [e, h]; simp
theorem bnd_t {f a x y : Fm} {u v : Tm} (ha : f.args = [a]) (hx : a.args = [x, y]) (hu : x.terms = [u, v]) : bndSide f = u ∧ bndTerm f = ta u 1 ∧ bndBody f = y ∧ fa (fa f 0) 0 = x := by
  unfold bndTerm bndBody bndSide fa ft
  rw [ha]
  have e : ([a].getD 0 zeroF) = a := rfl
  rw [e, hx]
  have e : ([x, y].getD 0 zeroF) = x := rfl
  rw [e, hu]
  exact ⟨rfl, rfl, rfl, rfl⟩
theorem bnd_u {f a x y : Fm} {u v : Tm} (ha : f.args = [a]) (hx : a.args = [x, y]) (hu : x.terms = [u, v]) (h : (u.kind != 3) = true) : isBnd f = false := by
  obtain ⟨h1, h2, h3, h4⟩ := bnd_t ha hx hu
  unfold isBnd bndRest
  rw [h1, h]; simp
theorem bnd_q {f a x y : Fm} {u v p q : Tm} (ha : f.args = [a]) (hx : a.args = [x, y]) (hu : x.terms = [u, v]) (hq : u.args = [p, q]) (h : decide (q.count 0 > 0) = true) : isBnd f = false := by
  obtain ⟨h1, h2, h3, h4⟩ := bnd_t ha hx hu
  have e : ta u 1 = q := ta_at (by rw [hq]; rfl)
  unfold isBnd bndRest
  rw [h2, e, h]; simp
theorem bnd_s {f a x y : Fm} {u v p q : Tm} (ha : f.args = [a]) (hx : a.args = [x, y]) (hu : x.terms = [u, v]) (hq : u.args = [p, q]) (h : Fm.same x (lessF (tmVar 0) q) = false) : isBnd f = false := by
  obtain ⟨h1, h2, h3, h4⟩ := bnd_t ha hx hu
  have e : ta u 1 = q := ta_at (by rw [hq]; rfl)
  unfold isBnd bndRest
  rw [h2, e, h4, h]; simp
theorem bnd_yes {f a x y : Fm} {u v p q : Tm} (hk : (f.kind = 4 ∧ (a.kind != 3) = false) ∨ (f.kind = 5 ∧ (a.kind != 2) = false)) (ht : (f.type.kind != 1) = false) (ha : f.args = [a]) (hx : a.args = [x, y])
    (hx1 : (x.kind != 1) = false) (hu : x.terms = [u, v]) (hu1 : (u.kind != 3) = false) (hq : u.args = [p, q]) (hc : decide (q.count 0 > 0) = false) (h : Fm.same x (lessF (tmVar 0) q) = true) :
    isBnd f = true ∧ bndTerm f = q ∧ bndBody f = y := by
  obtain ⟨h1, h2, h3, h4⟩ := bnd_t ha hx hu
  have e : ta u 1 = q := ta_at (by rw [hq]; rfl)
  have e0 : fa f 0 = a := fa_at (by rw [ha]; rfl)
  refine ⟨?_, by rw [h2, e], h3⟩
  unfold isBnd bndRest bndHead
  rw [h1, h2, e, h4, h, hc, hu1, hx1, ht, e0]
  rcases hk with ⟨hk, hk2⟩ | ⟨hk, hk2⟩ <;> rw [hk] <;> simp [hk2]

mutual
/-- The types of All in front of a formula, and what is below. -/
def Fm.univ : Fm → List Ty × Fm
  | .mk k t l a => if k == 4 then (match Fm.univL a with | x :: _ => (t :: x.1, x.2) | [] => ([], .mk k t l a)) else ([], .mk k t l a)
def Fm.univL : List Fm → List (List Ty × Fm)
  | [] => []
  | f :: l => f.univ :: Fm.univL l
end
theorem Fm.univ_4 {f a : Fm} (hk : (f.kind == 4) = true) (ha : f.args = [a]) : f.univ = (f.type :: a.univ.1, a.univ.2) := by
  obtain ⟨k, t, l, ar⟩ := f
  simp only [Fm.kind, Fm.args] at hk ha
  subst ha
  rw [Fm.univ, Fm.univL, Fm.univL, hk]; rfl
theorem Fm.univ_n {f : Fm} (hk : (f.kind == 4) = false) : f.univ = ([], f) := by
  obtain ⟨k, t, l, ar⟩ := f
  simp only [Fm.kind] at hk
  rw [Fm.univ, hk]; rfl

/-- What 'Task' returns. -/
def Fm.task (f : Fm) : (List Ty × Ty) × (Fm × Bool) :=
  if fmErr f != 0 then (([], tZero), (zeroF, false))
  else if f.univ.2.kind != 5 || !(fa f.univ.2 0).fl.d then (([], tZero), (zeroF, false)) else ((f.univ.1, f.univ.2.type), (fa f.univ.2 0, true))
@[go_sem] def taskV (p : (List Ty × Ty) × (Fm × Bool)) : V := .tup [.sl .any (p.1.1.map Ty.cells), .agg p.1.2.cells, .agg p.2.1.cells, .bool p.2.2]
theorem Fm.ok_good {f : Fm} (h : (fmErr f != 0) = false) : f.good = true := by
  have h0 : fmErr f = 0 := by simpa using h
  have := Fm.ok_nodes h0
  unfold Fm.good
  cases hn : f.nodes with
  | none => exact absurd hn this
  | some n => rfl
end GoAbs
namespace GoAbs
open Go
theorem fmSzL_mem : ∀ {l : List Fm} {x : Fm}, x ∈ l → fmSz x ≤ fmSzL l
  | y :: l, x, h => by
    rw [fmSzL]
    rcases List.mem_cons.1 h with rfl | h
    · omega
    · have := fmSzL_mem h; omega
theorem fmSz_arg {f x : Fm} (h : x ∈ f.args) : fmSz x < fmSz f := by
  obtain ⟨k, t, l, a⟩ := f
  rw [fmSz]
  have := fmSzL_mem (show x ∈ a from h)
  omega
theorem bnd_body {f a : Fm} (ha : f.args = [a]) (ga : a.good = true) (h : isBnd f = true) : ∃ x y, a.args = [x, y] ∧ bndBody f = y ∧ y.good = true := by
  unfold isBnd bndHead at h
  simp only [Bool.and_eq_true, Bool.not_eq_true'] at h
  have e0 : fa f 0 = a := fa_at (by rw [ha]; rfl)
  have h3 := h.1.1.2
  rw [e0] at h3
  have hk : a.kind = 2 ∨ a.kind = 3 := by
    split at h3 <;> simp at h3
    · exact .inr h3
    · exact .inl h3
  obtain ⟨x, y, e, gx, gy⟩ := Fm.good_two ga hk
  exact ⟨x, y, e, by unfold bndBody; rw [e0]; exact fa_at (by rw [e]; rfl), gy⟩
theorem flag_eqn : (Fl.mk false true true).n = 6 := rfl
attribute [go_sem] Fl.and Fl.or Fl.and6 Fl.and1 Fl.and2 Fl.and4 Fl.or1 Bool.false_or Bool.or_false Bool.and_false Bool.false_and
end GoAbs
namespace GoAbs
open Go
theorem univ_len : ∀ f : Fm, f.univ.1.length ≤ fmSz f := by
  intro f
  induction f using Fm.ind with | h f ih => ?_
  obtain ⟨k, t, l, a⟩ := f
  rw [Fm.univ, fmSz]
  cases k == 4 with
  | false => simp
  | true =>
    match a, ih with
    | [], _ => simp [Fm.univL]
    | x :: a, ih =>
      have := ih x (by simp [Fm.args])
      rw [fmSzL]
      simp only [Fm.univL, if_true, List.length_cons]
      omega
theorem univ_good : ∀ f : Fm, FmW f → f.good = true → FmW f.univ.2 ∧ f.univ.2.good = true ∧ ∀ t ∈ f.univ.1, TyW t := by
  intro f
  induction f using Fm.ind with | h f ih => ?_
  intro hf hg
  cases hk : (f.kind == 4) with
  | false => rw [Fm.univ_n hk]; exact ⟨hf, hg, by simp⟩
  | true =>
    obtain ⟨a, ha, ga⟩ := Fm.good_q hg (.inl (by simpa using hk))
    have hm : a ∈ f.args := by rw [ha]; simp
    obtain ⟨h1, h2, h3⟩ := ih a hm (hf.arg hm) ga
    rw [Fm.univ_4 hk ha]
    refine ⟨h1, h2, ?_⟩
    intro t ht
    rcases List.mem_cons.1 ht with rfl | ht
    · exact hf.ty
    · exact h3 t ht
end GoAbs
