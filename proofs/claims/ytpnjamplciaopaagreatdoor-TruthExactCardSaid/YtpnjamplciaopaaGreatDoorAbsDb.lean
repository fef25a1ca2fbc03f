/-
 The abstract layer: plain laws, further ones.
-/
import Derived.Test.YtpnjamplciaopaaGreatDoorAbsD
set_option linter.unusedSimpArgs false
set_option linter.unusedVariables false
set_option linter.unusedSectionVars false
namespace GoAbs
open Go
theorem tNNF : TyF (tFun tNat tNat) := .func .nat .nat
theorem tNNNF : TyF (tFun tNat (tFun tNat tNat)) := .func .nat tNNF
theorem HasTy.plusF {g : List Ty} : HasTy TyF g plusT (tFun tNat (tFun tNat tNat)) :=
 .lam tNNNF (.lam tNNF (.n3 .recr .v1 (.lam tNNNF (.lam tNNF (.n1 (ty := .mk 0 []) .succ .v0))) .v0))
theorem HasTy.predF {g : List Ty} : HasTy TyF g predT (tFun tNat tNat) :=
 .lam tNNF (.n3 .recr (.n0 (ty := .mk 0 []) .zero) (.lam tNNNF (.lam tNNF .v1)) .v0)
theorem HasTy.subF {g : List Ty} : HasTy TyF g subT (tFun tNat (tFun tNat tNat)) :=
 .lam tNNNF (.lam tNNF (.n3 .recr .v1 (.lam tNNNF (.lam tNNF (.n2 (ty := .mk 0 []) .app .predF .v0))) .v0))
theorem MkTm.tyF {n : Nat} {g : List Ty} {t : Ty} {x : Tm} (h : MkTm n g t x) : (∀ y ∈ g, TyF y) → TyF t → HasTy TyF g x t := by
 have app : ∀ {g l : List Ty}, (∀ y ∈ g, TyF y) → (∀ y ∈ l, TyF y) → ∀ y ∈ g ++ l, TyF y := by
  intro g l h1 h2 y hy
  rcases List.mem_append.1 hy with hy | hy
  ·exact h1 y hy
  ·exact h2 y hy
 have nn : TyF tNat := .nat
 have ll : TyF tList := .list
 induction h with
 | var hi h => exact fun _ _ => .var hi h
 | @app n g t s b x hs _ _ h1 h2 =>
  intro hg ht
  have hs' : TyF s := hs.F
  exact .n2 (ty := .mk 0 []) .app (.lam (.func hs' ht) (h1 (app hg (by simp [hs'])) ht)) (h2 hg hs')
 | @fst n g t s x y hs _ _ h1 h2 =>
  intro hg ht
  have hs' : TyF s := hs.F
  exact .n1 (ty := .mk 0 []) .fst (.n2 (ty := .mk 0 []) (.pair (.pair ht hs')) (h1 hg ht) (h2 hg hs'))
 | @snd n g t s x y hs _ _ h1 h2 =>
  intro hg ht
  have hs' : TyF s := hs.F
  exact .n1 (ty := .mk 0 []) .snd (.n2 (ty := .mk 0 []) (.pair (.pair hs' ht)) (h1 hg hs') (h2 hg ht))
 | @recr n g t b f k hk _ _ h1 h2 =>
  intro hg ht
  have e : g ++ [tNat, t] = g ++ [tNat] ++ [t] := by simp
  have hf := h1 (app hg (by simp [nn, ht])) ht
  rw [e] at hf
  have tt : TyF (tFun t t) := .func ht ht
  exact .n3 .recr (h2 hg ht) (.lam (.func .nat tt) (.lam tt hf)) (.num k)
 | @fold n g t b f x _ _ _ h1 h2 h3 =>
  intro hg ht
  have e : g ++ [tNat, tList, t] = g ++ [tNat] ++ [tList] ++ [t] := by simp
  have hf := h1 (app hg (by simp [nn, ll, ht])) ht
  rw [e] at hf
  have tt : TyF (tFun t t) := .func ht ht
  have lt : TyF (tFun tList (tFun t t)) := .func .list tt
  exact .n3 .fold (h2 hg ht) (.lam (.func .nat lt) (.lam lt (.lam tt hf))) (h3 hg ll)
 | @fapp n g t s x i hi h _ h1 =>
  intro hg ht
  have hs := hg _ (List.mem_of_getElem? h)
  have hs' : TyF s := by
   cases hs with
   | func ha hb => exact ha
  exact .n2 (ty := .mk 0 []) .app (.var hi h) (h1 hg hs')
 | succ _ h1 => exact fun hg _ => .n1 (ty := .mk 0 []) .succ (h1 hg nn)
 | plus _ _ h1 h2 => exact fun hg _ => .n2 (ty := .mk 0 []) .app (.n2 (ty := .mk 0 []) .app HasTy.plusF (h1 hg nn)) (h2 hg nn)
 | sub _ _ h1 h2 => exact fun hg _ => .n2 (ty := .mk 0 []) .app (.n2 (ty := .mk 0 []) .app HasTy.subF (h1 hg nn)) (h2 hg nn)
 | num => exact fun _ _ => .num _
 | cons _ _ h1 h2 => exact fun hg _ => .n2 (ty := .mk 0 []) .cons (h1 hg nn) (h2 hg ll)
 | nil => exact fun _ _ => .n0 (ty := .mk 0 []) .nil
 | @pair n g a b x y _ _ h1 h2 =>
  intro hg ht
  cases ht with
  | pair ha hb => exact .n2 (ty := .mk 0 []) (.pair (.pair ha hb)) (h1 hg ha) (h2 hg hb)
 | @lam n g a b x _ h1 =>
  intro hg ht
  cases ht with
  | func ha hb => exact .lam (.func ha hb) (h1 (app hg (by simp [ha])) hb)
 | unit => exact fun _ _ => .n0 (ty := .mk 0 []) .unit
theorem chPart_ty {g : List Ty} {a b : Ty} {t : Tm} (hb : TyF b) (h : HasTy TyF g t (chPair a b)) (ha : TyF a) : HasTy TyF g (chPart 11 a b t) a ∧ HasTy TyF g (chPart 12 b a t) b := by
 unfold chPart chPair at *
 cases ka : (a.kind == 5) with
 | true =>
  have ea := ha.kind5 ka
  rw [ka] at h
  simp only [if_true] at h ⊢
  refine ⟨by rw [ea]; exact .n0 (ty := .mk 0 []) .unit, ?_⟩
  cases kb : (b.kind == 5) with
  | true => rw [hb.kind5 kb]; exact .n0 (ty := .mk 0 []) .unit
  | false => simp only [Bool.false_eq_true, if_false]; exact h
 | false =>
  rw [ka] at h
  simp only [Bool.false_eq_true, if_false] at h ⊢
  cases kb : (b.kind == 5) with
  | true =>
   rw [kb] at h
   simp only [if_true] at h ⊢
   exact ⟨h, by rw [hb.kind5 kb]; exact .n0 (ty := .mk 0 []) .unit⟩
  | false =>
   rw [kb] at h
   simp only [Bool.false_eq_true, if_false] at h ⊢
   exact ⟨.n1 (ty := .mk 0 []) .fst h, .n1 (ty := .mk 0 []) .snd h⟩
theorem chCall_ty {g : List Ty} {a b : Ty} {f t : Tm} (hb : TyF b) (h : HasTy TyF g f (chFun a b)) (ht : HasTy TyF g t a) : HasTy TyF g (chCall a b f t) b := by
 unfold chCall chFun at *
 cases kb : (b.kind == 5) with
 | true => simp only [if_true]; rw [hb.kind5 kb]; exact .n0 (ty := .mk 0 []) .unit
 | false =>
  rw [kb] at h
  simp only [Bool.false_eq_true, if_false] at h ⊢
  cases ka : (a.kind == 5) with
  | true => rw [ka] at h; simp only [if_true] at h ⊢; exact h
  | false =>
   rw [ka] at h
   simp only [Bool.false_eq_true, if_false] at h ⊢
   exact .n2 (ty := .mk 0 []) .app h ht
theorem FmTy.inn {a : Ty} {x : Tm} {f : Fm} {g' : List Ty} (h : FmTy TyF g' f) : ∀ g l : List Ty, g' = g ++ [a] ++ l → HasTy TyF g x a → l.length + fmSz f ≤ 40000 → g.length + tmSz x ≤ 40000 → FmTy TyF (g ++ l) (fmInn x 0 f (l.length : Int)) := by
 induction h with
 | @eq g' p q h1 h2 =>
  intro g l e hx hb hg
  rw [fmSz_eq] at hb
  rw [fmInn_eqn]
  exact .eq (h1.inn g l e hx (by omega) (by omega)) (h2.inn g l e hx (by omega) (by omega))
 | @two g' k p q hk _ _ ih1 ih2 =>
  intro g l e hx hb hg
  rw [fmSz_two] at hb
  rw [fmInn_two, below_two hk, addW_zero (by omega) (by omega)]
  exact .two hk (ih1 g l e hx (by omega) hg) (ih2 g l e hx (by omega) hg)
 | @q g' k s p hk _ ih =>
  intro g l e hx hb hg
  subst e
  rw [fmSz_q] at hb
  have hq : fmBelow k = 1 := by rcases hk with rfl | rfl | rfl | rfl <;> rfl
  have e1 : addW (l.length : Int) (fmBelow k) = ((l ++ [s]).length : Int) := by
   rw [hq, addW_eq (by omega) (by omega) (by omega) (by omega)]; simp
  rw [fmInn_q, e1]
  refine .q hk ?_
  have := ih g (l ++ [s]) (by simp) hx (by simp; omega) hg
  rw [List.append_assoc]; exact this
theorem MkFm.tyF {n : Nat} {g : List Ty} {f : Fm} (h : MkFm false n g f) : (∀ y ∈ g, TyF y) → FmTy TyF g f := by
 induction h with
 | eq h1 h2 => exact fun hg => .eq (h1.tyF hg .nat) (h2.tyF hg .nat)
 | two hk _ _ h1 h2 => exact fun hg => .two hk (h1 hg) (h2 hg)
 | @q n g k s a hk hs _ h1 =>
  intro hg
  refine .q ?_ (h1 ?_)
  ·rcases hk with h | h | ⟨h, _⟩
   ·exact .inl h
   ·exact .inr (.inl h)
   ·cases h
  ·intro y hy
   rcases List.mem_append.1 hy with hy | hy
   ·exact hg y hy
   ·simp at hy; subst hy; exact hs.F
inductive Shp : Nat → Fm → Prop
 | eq {n : Nat} {x y : Tm} : TmG x → TmG y → Shp n (fmEq x y)
 | two {n : Nat} {k : Int} {a b : Fm} (hk : k = 2 ∨ k = 3) : Shp n a → Shp n b → Shp (n + 1) (fmTwo k a b)
 | q {n : Nat} {k : Int} {s : Ty} {a : Fm} (hk : k = 4 ∨ k = 5) (hs : TyG s) : Shp n a → Shp (n + 1) (fmQ k s a)
theorem Shp.G {n : Nat} {f : Fm} (h : Shp n f) : FmG false f := by
 induction h with
 | eq h1 h2 => exact .eq h1 h2
 | two hk _ _ h1 h2 => exact .two hk h1 h2
 | q hk hs _ h1 => exact .q (by rcases hk with h | h; exact .inl h; exact .inr (.inl h)) hs h1
theorem Shp.of {n : Nat} {g : List Ty} {f : Fm} (h : MkFm false n g f) : (∀ y ∈ g, TyG y) → Shp n f := by
 induction h with
 | eq h1 h2 => exact fun hg => .eq (h1.G hg .nat) (h2.G hg .nat)
 | two hk _ _ h1 h2 => exact fun hg => .two hk (h1 hg) (h2 hg)
 | q hk hs _ h1 =>
  intro hg
  have hG := hs.G (by split <;> omega)
  refine .q ?_ hG (h1 ?_)
  ·rcases hk with h | h | ⟨h, _⟩
   ·exact .inl h
   ·exact .inr h
   ·cases h
  ·intro y hy
   rcases List.mem_append.1 hy with hy | hy
   ·exact hg y hy
   ·simp at hy; subst hy; exact hG
theorem fleast_parts2 {k M : Int} {a b : Fm} (h : (fmTwo k a b).least M = true) : a.least M = true ∧ b.least M = true := by
 rw [fmTwo, Fm.least] at h; simpa [Tm.leastL_nil, Fm.leastL_cons, Fm.leastL_nil] using h
theorem fleast_part {k M : Int} {s : Ty} {a : Fm} (h : (fmQ k s a).least M = true) : a.least M = true := by
 rw [fmQ, Fm.least] at h; simpa [Tm.leastL_nil, Fm.leastL_cons, Fm.leastL_nil] using h
theorem fleast_eq {M : Int} {x y : Tm} : (fmEq x y).least M = true ↔ x.least M = true ∧ y.least M = true := by
 rw [fmEq, Fm.least]; simp [Tm.leastL_nil, Tm.leastL_cons, Fm.leastL_nil]
theorem Shp.inn {s : Tm} (hs : TmG s) (hsl : s.least 536870912 = true) {n : Nat} {f : Fm} (h : Shp n f) : f.least 536870912 = true → ∀ d : Int, 0 ≤ d → d + fmSz f ≤ 500000 → Shp n (fmInn s 0 f d) := by
 induction h with
 | @eq n x y hx hy =>
  intro hl d h0 hb
  rw [fmSz_eq] at hb
  obtain ⟨l1, l2⟩ := fleast_eq.1 hl
  rw [fmInn_eqn]
  exact .eq (TmG.inn hs hsl _ hx (Nat.le_refl _) l1 d h0 (by omega)) (TmG.inn hs hsl _ hy (Nat.le_refl _) l2 d h0 (by omega))
 | @two n k p q hk _ _ h1 h2 =>
  intro hl d h0 hb
  rw [fmSz_two] at hb
  obtain ⟨l1, l2⟩ := fleast_parts2 hl
  rw [fmInn_two, below_two hk, addW_zero h0 (by omega)]
  exact .two hk (h1 l1 d h0 (by omega)) (h2 l2 d h0 (by omega))
 | @q n k t p hk ht _ h1 =>
  intro hl d h0 hb
  rw [fmSz_q] at hb
  have hr := fmBelow_range k
  have e := addW_eq (a := d) (b := fmBelow k) (by omega) (by omega) (by omega) (by omega)
  rw [fmInn_q, e]
  exact .q hk ht (h1 (fleast_part hl) _ (by omega) (by omega))
theorem fleast_inn {M : Int} (hM : 0 ≤ M) (hM2 : M ≤ 900000000) {s : Tm} (hs : TmG s) (hsl : s.least M = true) {n : Nat} {f : Fm} (h : Shp n f) : f.least M = true → ∀ d : Int, 0 ≤ d → d + fmSz f ≤ 500000 →
  (fmInn s 0 f d).least (M + 1000000) = true := by
 induction h with
 | @eq n x y hx hy =>
  intro hl d h0 hb
  rw [fmSz_eq] at hb
  obtain ⟨l1, l2⟩ := fleast_eq.1 hl
  rw [fmInn_eqn]
  exact fleast_eq.2 ⟨least_inn hM hM2 hs hsl _ hx (Nat.le_refl _) l1 d h0 (by omega), least_inn hM hM2 hs hsl _ hy (Nat.le_refl _) l2 d h0 (by omega)⟩
 | @two n k p q hk _ _ h1 h2 =>
  intro hl d h0 hb
  rw [fmSz_two] at hb
  obtain ⟨l1, l2⟩ := fleast_parts2 hl
  rw [fmInn_two, below_two hk, addW_zero h0 (by omega)]
  exact fleast_two (h1 l1 d h0 (by omega)) (h2 l2 d h0 (by omega))
 | @q n k t p hk ht _ h1 =>
  intro hl d h0 hb
  rw [fmSz_q] at hb
  have hr := fmBelow_range k
  have e := addW_eq (a := d) (b := fmBelow k) (by omega) (by omega) (by omega) (by omega)
  rw [fmInn_q, e]
  exact least_q (h1 (fleast_part hl) _ (by omega) (by omega))
theorem qs_eqn {x y : Tm} : (fmEq x y).qs = 0 := by rw [fmEq, Fm.qs, Fm.qsL_nil]; rfl
theorem qs_two {k : Int} (hk : k = 2 ∨ k = 3) {p q : Fm} (hp : FmG false p) (hq : FmG false q) (h1 : fmSz p ≤ 1000000) (h2 : fmSz q ≤ 1000000) : (fmTwo k p q).qs = p.qs + q.qs := by
 obtain ⟨a1, a2⟩ := qs_range hp h1
 obtain ⟨b1, b2⟩ := qs_range hq h2
 have e : (k == 4 || k == 5) = false := by rcases hk with rfl | rfl <;> rfl
 rw [fmTwo, Fm.qs, e, Fm.qsL_cons, Fm.qsL_cons, Fm.qsL_nil]
 simp only [Bool.false_eq_true, if_false]
 rw [addW_z (by omega) (by omega), addW_eq (by omega) (by omega) (by omega) (by omega)]
theorem qs_q {k : Int} (hk : k = 4 ∨ k = 5) {s : Ty} {p : Fm} (hp : FmG false p) (h1 : fmSz p ≤ 1000000) : (fmQ k s p).qs = p.qs + 1 := by
 obtain ⟨a1, a2⟩ := qs_range hp h1
 have e : (k == 4 || k == 5) = true := by rcases hk with rfl | rfl <;> rfl
 rw [fmQ, Fm.qs, e, Fm.qsL_cons, Fm.qsL_nil]
 simp only [if_true]
 rw [addW_eq (by omega) (by omega) (by omega) (by omega)]; omega
theorem fmSz_ge3 {n : Nat} {f : Fm} (h : Shp n f) : 3 ≤ fmSz f := by
 induction h with
 | @eq n x y _ _ => rw [fmSz_eq]; have := tmSz_pos x; have := tmSz_pos y; omega
 | two _ _ _ h1 h2 => rw [fmSz_two]; omega
 | q _ _ _ h1 => rw [fmSz_q]; omega
theorem Shp.qs0 {f : Fm} (h : Shp 0 f) : f.qs = 0 := by cases h with | eq _ _ => exact qs_eqn
theorem Shp.qs1 {f : Fm} (h : Shp 1 f) (hz : fmSz f ≤ 100000) : f.qs = 0 ∨ (f.qs = 1 ∧ ∃ k s x y, f = fmQ k s (fmEq x y)) := by
 cases h with
 | eq _ _ => exact .inl qs_eqn
 | @two _ k a b hk h1 h2 =>
  rw [fmSz_two] at hz
  left; rw [qs_two hk h1.G h2.G (by omega) (by omega), h1.qs0, h2.qs0]; rfl
 | @q _ k s a hk hs h1 =>
  rw [fmSz_q] at hz
  right
  refine ⟨by rw [qs_q hk h1.G (by omega), h1.qs0]; rfl, ?_⟩
  cases h1 with
  | @eq _ x y _ _ => exact ⟨k, s, x, y, rfl⟩
def ArgsOk (f : Fm) : Prop := (∀ a ∈ f.args, fmSz a ≤ 4096) ∧ (f.args = [] → fmSz f ≤ 4096)
def QQE (a : Fm) : Prop := ∃ k s k' s' x y, a = fmQ k s (fmQ k' s' (fmEq x y))
theorem argsOk_inn {x : Tm} {n : Nat} (hn : n ≤ 2) {a : Fm} (h : Shp n a) (za : fmSz a ≤ 4096) (hz : (fmSz (fmInn x 0 a 0) : Int) ≤ 4096 + a.qs) (hc : QQE a → fmSz (fmInn x 0 a 0) ≤ 4096) : ArgsOk (fmInn x 0 a 0) := by
 have sz : ∀ {m : Nat} {f : Fm}, Shp m f → ∀ d : Int, 0 ≤ d → d + fmSz f ≤ 500000 → 3 ≤ fmSz (fmInn x 0 f d) := fun {m f} hf d h0 hb => by
  have := hf.G.inn_sz (s := x) d h0 hb
  have := fmSz_ge3 hf
  omega
 cases h with
 | @eq _ u v _ _ =>
  rw [qs_eqn] at hz
  exact ⟨by rw [fmInn_eqn]; simp [fmEq, Fm.args], fun _ => by omega⟩
 | @two m k p q hk h1 h2 =>
  rw [fmSz_two] at za
  rw [qs_two hk h1.G h2.G (by omega) (by omega)] at hz
  rw [fmInn_two, below_two hk, addW_zero (by omega) (by omega)] at hz ⊢
  rw [fmSz_two] at hz
  have s1 := sz h1 0 (by omega) (by omega)
  have s2 := sz h2 0 (by omega) (by omega)
  have hq : p.qs ≤ 1 ∧ q.qs ≤ 1 := by
   obtain rfl | rfl : m = 0 ∨ m = 1 := by omega
   ·rw [h1.qs0, h2.qs0]; omega
   ·rcases h1.qs1 (by omega) with e | ⟨e, _⟩ <;> rcases h2.qs1 (by omega) with e' | ⟨e', _⟩ <;> omega
  refine ⟨fun b hb => ?_, fun e => by simp [fmTwo, Fm.args] at e⟩
  simp [fmTwo, Fm.args] at hb
  rcases hb with rfl | rfl <;> omega
 | @q m k s p hk hs h1 =>
  rw [fmSz_q] at za
  rw [qs_q hk h1.G (by omega)] at hz
  have hq : fmBelow k = 1 := by rcases hk with rfl | rfl <;> rfl
  have e1 : addW 0 (fmBelow k) = 1 := by rw [hq]; rfl
  rw [fmInn_q, e1] at hz hc ⊢
  rw [fmSz_q] at hz hc
  refine ⟨fun b hb => ?_, fun e => by simp [fmQ, Fm.args] at e⟩
  simp [fmQ, Fm.args] at hb
  subst hb
  obtain rfl | rfl : m = 0 ∨ m = 1 := by omega
  ·rw [h1.qs0] at hz; omega
  ·rcases h1.qs1 (by omega) with e | ⟨e, k', s', u, v, rfl⟩
   ·omega
   ·have := hc ⟨k, s, k', s', u, v, rfl⟩
    omega
end GoAbs
namespace GoAbs
open Go
/-- A value whose numbers, lists and surroundings are bounded. -/
inductive ResW (B : Nat) : Res → Prop
 | mk (n : Nat) (l : List Nat) (p : List Res) (b : Tm) (e : List Res) (hn : n ≤ B) (hl : ∀ x ∈ l, x ≤ B) (hll : l.length ≤ B)
   (hp : ∀ x ∈ p, ResW B x) (hb : TmW b) (hel : e.length ≤ B) (he : ∀ x ∈ e, ResW B x) : ResW B (.mk n l p b e)
theorem ResW.up {B B' : Nat} (hB : B ≤ B') {r : Res} (h : ResW B r) : ResW B' r := by
 induction h with
 | mk n l p b e h2 h3 h4 _ h6 h7 _ i1 i2 => exact .mk n l p b e (by omega) (fun x hx => by have := h3 x hx; omega) (by omega) i1 h6 (by omega) i2
section
variable {B : Nat} {r : Res}
theorem ResW.n1 (h : ResW B r) : r.num ≤ B := by cases h; assumption
theorem ResW.ls (h : ResW B r) : ∀ x ∈ r.list, x ≤ B := by cases h; assumption
theorem ResW.ll (h : ResW B r) : r.list.length ≤ B := by cases h; assumption
theorem ResW.ps (h : ResW B r) : ∀ x ∈ r.pair, ResW B x := by cases h; assumption
theorem ResW.bd (h : ResW B r) : TmW r.body := by cases h; assumption
theorem ResW.el (h : ResW B r) : r.env.length ≤ B := by cases h; assumption
theorem ResW.es (h : ResW B r) : ∀ x ∈ r.env, ResW B x := by cases h; assumption
end
theorem ResW.num {B : Nat} {n : Nat} (h : n ≤ B) : ResW B (numR n) := .mk _ _ _ _ _ h (by simp) (by simp) (by simp) zeroT_W (by simp) (by simp)
theorem ResW.zero {B : Nat} : ResW B zeroR := ResW.num (by omega)
theorem ResW.list {B : Nat} {l : List Nat} (h : ∀ x ∈ l, x ≤ B) (hl : l.length ≤ B) : ResW B (listR l) := .mk _ _ _ _ _ (by omega) h hl (by simp) zeroT_W (by simp) (by simp)
theorem ResW.pair {B : Nat} {l : List Res} (h : ∀ x ∈ l, ResW B x) : ResW B (pairR l) := .mk _ _ _ _ _ (by omega) (by simp) (by simp) h zeroT_W (by simp) (by simp)
theorem ResW.clo {B : Nat} {b : Tm} {e : List Res} (hb : TmW b) (hl : e.length ≤ B) (h : ∀ x ∈ e, ResW B x) : ResW B (cloR b e) := .mk _ _ _ _ _ (by omega) (by simp) (by simp) (by simp) hb hl h
/-- An evaluation keeps the bounds. -/
def EvW (most : Nat) (E : Evl) : Prop := ∀ c u t e r u' o, E u t e = some (r, u', o) → c ≤ u → u ≤ most → TmW t → e.length ≤ u - c → (∀ x ∈ e, ResW (u - c) x) →
 u ≤ u' ∧ u' ≤ most ∧ (o = false → u < u' ∧ ResW (u' - c - 1) r)
section
variable {most : Nat} {E : Evl} (hE : EvW most E)
include hE
theorem evCall_W {c u u' : Nat} {f a r : Res} {o : Bool} (h : evCall E u f a = some (r, u', o)) (hc : c + 1 ≤ u) (hu : u ≤ most) (hf : ResW (u - c - 1) f) (ha : ResW (u - c - 1) a) :
  u ≤ u' ∧ u' ≤ most ∧ (o = false → u < u' ∧ ResW (u' - c - 1) r) := by
 refine hE c u _ _ _ _ _ h (by omega) hu hf.bd (by have := hf.el; simp; omega) fun x hx => ?_
 rcases List.mem_append.1 hx with hx | hx
 ·exact (hf.es x hx).up (by omega)
 ·simp at hx; subst hx; exact ha.up (by omega)
theorem evArgs_W {c : Nat} {e : List Res} : ∀ {l : List Tm} {u u' : Nat} {l' : List Res} {o : Bool}, evArgs E e u l = some (l', u', o) → c ≤ u → u ≤ most → (∀ t ∈ l, TmW t) → e.length ≤ u - c → (∀ x ∈ e, ResW (u - c) x) →
  u ≤ u' ∧ u' ≤ most ∧ (o = false → (l ≠ [] → u < u') ∧ l'.length = l.length ∧ ∀ x ∈ l', ResW (u' - c - 1) x) := by
 intro l
 induction l with
 | nil =>
  intro u u' l' o h hc hu ht hel he
  simp only [evArgs, Option.some.injEq, Prod.mk.injEq] at h
  obtain ⟨rfl, rfl, rfl⟩ := h
  exact ⟨Nat.le_refl _, hu, fun _ => ⟨fun h => (h rfl).elim, rfl, by simp⟩⟩
 | cons t l ih =>
  intro u u' l' o h hc hu ht hel he
  rw [evArgs] at h
  cases h1 : E u t e with
  | none => rw [h1] at h; cases h
  | some p =>
   obtain ⟨r, u1, o1⟩ := p
   obtain ⟨a1, a2, a3⟩ := hE c u t e r u1 o1 h1 hc hu (ht t (by simp)) hel he
   rw [h1] at h
   cases o1 with
   | true =>
    simp only [Option.some.injEq, Prod.mk.injEq] at h
    obtain ⟨rfl, rfl, rfl⟩ := h
    exact ⟨a1, a2, fun h => by cases h⟩
   | false =>
    obtain ⟨a3, a4⟩ := a3 rfl
    simp only at h
    cases h2 : evArgs E e u1 l with
    | none => rw [h2] at h; cases h
    | some q =>
     obtain ⟨l1, u2, o2⟩ := q
     rw [h2] at h
     simp only [Option.some.injEq, Prod.mk.injEq] at h
     obtain ⟨rfl, rfl, rfl⟩ := h
     obtain ⟨b1, b2, b3⟩ := ih h2 (by omega) a2 (fun x hx => ht x (by simp [hx])) (by omega) (fun x hx => (he x hx).up (by omega))
     refine ⟨by omega, b2, fun ho => ?_⟩
     obtain ⟨_, b3, b4⟩ := b3 ho
     refine ⟨fun _ => by omega, by simp [b3], fun x hx => ?_⟩
     rcases List.mem_cons.1 hx with rfl | hx
     ·exact a4.up (by omega)
     ·exact b4 x hx
theorem evRec_W {c : Nat} {s : Res} : ∀ {n k u u' : Nat} {r r' : Res} {o : Bool}, evRec E s n k u r = some (r', u', o) → c + 1 ≤ u → u ≤ most → k + n ≤ u - c - 1 → ResW (u - c - 1) s → ResW (u - c - 1) r →
  u ≤ u' ∧ u' ≤ most ∧ (o = false → ResW (u' - c - 1) r') := by
 intro n
 induction n with
 | zero =>
  intro k u u' r r' o h hc hu hk hs hr
  simp only [evRec, Option.some.injEq, Prod.mk.injEq] at h
  obtain ⟨rfl, rfl, rfl⟩ := h
  exact ⟨Nat.le_refl _, hu, fun _ => hr⟩
 | succ n ih =>
  intro k u u' r r' o h hc hu hk hs hr
  rw [evRec] at h
  cases h1 : evCall E u s (numR k) with
  | none => rw [h1] at h; cases h
  | some p =>
   obtain ⟨f, u1, o1⟩ := p
   obtain ⟨a1, a2, a3⟩ := evCall_W hE h1 hc hu hs (ResW.num (by omega))
   rw [h1] at h
   cases o1 with
   | true =>
    simp only [Option.some.injEq, Prod.mk.injEq] at h
    obtain ⟨rfl, rfl, rfl⟩ := h
    exact ⟨a1, a2, fun h => by cases h⟩
   | false =>
    obtain ⟨a3, a4⟩ := a3 rfl
    simp only at h
    cases h2 : evCall E u1 f r with
    | none => rw [h2] at h; cases h
    | some q =>
     obtain ⟨r1, u2, o2⟩ := q
     obtain ⟨b1, b2, b3⟩ := evCall_W hE h2 (by omega) a2 a4 (hr.up (by omega))
     rw [h2] at h
     cases o2 with
     | true =>
      simp only [Option.some.injEq, Prod.mk.injEq] at h
      obtain ⟨rfl, rfl, rfl⟩ := h
      exact ⟨by omega, b2, fun h => by cases h⟩
     | false =>
      obtain ⟨b3, b4⟩ := b3 rfl
      simp only at h
      obtain ⟨c1, c2, c3⟩ := ih h (by omega) b2 (by omega) (hs.up (by omega)) b4
      exact ⟨by omega, c2, c3⟩
theorem evFold_W {c : Nat} {s : Res} {l : List Nat} : ∀ {n u u' : Nat} {r r' : Res} {o : Bool}, evFold E s l n u r = some (r', u', o) → c + 1 ≤ u → u ≤ most → n ≤ l.length → l.length ≤ u - c - 1 →
  (∀ x ∈ l, x ≤ u - c - 1) → ResW (u - c - 1) s → ResW (u - c - 1) r → u ≤ u' ∧ u' ≤ most ∧ (o = false → ResW (u' - c - 1) r') := by
 intro n
 induction n with
 | zero =>
  intro u u' r r' o h hc hu hk hll hl hs hr
  simp only [evFold, Option.some.injEq, Prod.mk.injEq] at h
  obtain ⟨rfl, rfl, rfl⟩ := h
  exact ⟨Nat.le_refl _, hu, fun _ => hr⟩
 | succ n ih =>
  intro u u' r r' o h hc hu hk hll hl hs hr
  rw [evFold] at h
  have hx : l.getD n 0 ∈ l := by
   rw [List.getD_eq_getElem?_getD, List.getElem?_eq_getElem (by omega)]; exact List.getElem_mem _
  cases h1 : evCall E u s (numR (l.getD n 0)) with
  | none => rw [h1] at h; cases h
  | some p =>
   obtain ⟨f, u1, o1⟩ := p
   obtain ⟨a1, a2, a3⟩ := evCall_W hE h1 hc hu hs (ResW.num (hl _ hx))
   rw [h1] at h
   cases o1 with
   | true =>
    simp only [Option.some.injEq, Prod.mk.injEq] at h
    obtain ⟨rfl, rfl, rfl⟩ := h
    exact ⟨a1, a2, fun h => by cases h⟩
   | false =>
    obtain ⟨a3, a4⟩ := a3 rfl
    simp only at h
    have hw : ResW (u1 - c - 1) (listR (l.drop (n + 1))) := ResW.list (fun x hx => by have := hl x (List.mem_of_mem_drop hx); omega) (by simp; omega)
    cases h2 : evCall E u1 f (listR (l.drop (n + 1))) with
    | none => rw [h2] at h; cases h
    | some q =>
     obtain ⟨f2, u2, o2⟩ := q
     obtain ⟨b1, b2, b3⟩ := evCall_W hE h2 (by omega) a2 a4 hw
     rw [h2] at h
     cases o2 with
     | true =>
      simp only [Option.some.injEq, Prod.mk.injEq] at h
      obtain ⟨rfl, rfl, rfl⟩ := h
      exact ⟨by omega, b2, fun h => by cases h⟩
     | false =>
      obtain ⟨b3, b4⟩ := b3 rfl
      simp only at h
      cases h3 : evCall E u2 f2 r with
      | none => rw [h3] at h; cases h
      | some q =>
       obtain ⟨r3, u3, o3⟩ := q
       obtain ⟨d1, d2, d3⟩ := evCall_W hE h3 (by omega) b2 b4 (hr.up (by omega))
       rw [h3] at h
       cases o3 with
       | true =>
        simp only [Option.some.injEq, Prod.mk.injEq] at h
        obtain ⟨rfl, rfl, rfl⟩ := h
        exact ⟨by omega, d2, fun h => by cases h⟩
       | false =>
        obtain ⟨d3, d4⟩ := d3 rfl
        simp only at h
        obtain ⟨c1, c2, c3⟩ := ih h (by omega) d2 (by omega) (by omega) (fun x hx => by have := hl x hx; omega) (hs.up (by omega)) d4
        exact ⟨by omega, c2, c3⟩
theorem evOf_W (hm : most ≤ 1000000) {c : Nat} {k : Int} {u u' : Nat} {l : List Res} {r : Res} {o : Bool} (h : evOf E k u l = some (r, u', o)) (hc : c + 1 ≤ u) (hu : u ≤ most)
  (hl : ∀ x ∈ l, ResW (u - c - 2) x) (h2 : l ≠ [] → c + 2 ≤ u) : u ≤ u' ∧ u' ≤ most ∧ (o = false → ResW (u' - c - 1) r) := by
 unfold evOf at h
 split at h
 ·split at h
  ·rename_i f a
   have := h2 (by simp)
   obtain ⟨a1, a2, a3⟩ := evCall_W hE h hc hu ((hl f (by simp)).up (by omega)) ((hl a (by simp)).up (by omega))
   exact ⟨a1, a2, fun ho => (a3 ho).2⟩
  ·cases h
 split at h
 ·split at h
  ·rename_i a
   have := h2 (by simp)
   have ha := hl a (by simp)
   simp only [Option.some.injEq, Prod.mk.injEq] at h
   obtain ⟨rfl, rfl, rfl⟩ := h
   have b2 := ha.n1
   exact ⟨Nat.le_refl _, hu, fun _ => ResW.num (by omega)⟩
  ·cases h
 split at h
 ·split at h
  ·rename_i z s n
   have := h2 (by simp)
   have hn := hl n (by simp)
   have b2 := hn.n1
   exact evRec_W hE h hc hu (by omega) ((hl s (by simp)).up (by omega)) ((hl z (by simp)).up (by omega))
  ·cases h
 split at h
 ·split at h
  ·rename_i a b
   have := h2 (by simp)
   have ha := hl a (by simp)
   have hb := hl b (by simp)
   simp only [Option.some.injEq, Prod.mk.injEq] at h
   obtain ⟨rfl, rfl, rfl⟩ := h
   refine ⟨Nat.le_refl _, hu, fun _ => ResW.list (fun x hx => ?_) (by have := hb.ll; simp; omega)⟩
   rcases List.mem_cons.1 hx with rfl | hx
   ·have := ha.n1; omega
   ·have := hb.ls x hx; omega
  ·cases h
 split at h
 ·split at h
  ·rename_i z s n
   have := h2 (by simp)
   have hn := hl n (by simp)
   exact evFold_W hE h hc hu (Nat.le_refl _) (by have := hn.ll; omega) (fun x hx => by have := hn.ls x hx; omega) ((hl s (by simp)).up (by omega)) ((hl z (by simp)).up (by omega))
  ·cases h
 split at h
 ·simp only [Option.some.injEq, Prod.mk.injEq] at h
  obtain ⟨rfl, rfl, rfl⟩ := h
  exact ⟨Nat.le_refl _, hu, fun _ => ResW.pair fun x hx => (hl x hx).up (by omega)⟩
 split at h
 ·split at h
  ·rename_i a
   split at h
   ·rename_i x y hp
    simp only [Option.some.injEq, Prod.mk.injEq] at h
    obtain ⟨rfl, rfl, rfl⟩ := h
    exact ⟨Nat.le_refl _, hu, fun _ => ((hl a (by simp)).ps _ (by rw [hp]; simp)).up (by omega)⟩
   ·cases h
  ·cases h
 split at h
 ·split at h
  ·rename_i a
   split at h
   ·rename_i x y hp
    simp only [Option.some.injEq, Prod.mk.injEq] at h
    obtain ⟨rfl, rfl, rfl⟩ := h
    exact ⟨Nat.le_refl _, hu, fun _ => ((hl a (by simp)).ps _ (by rw [hp]; simp)).up (by omega)⟩
   ·cases h
  ·cases h
 ·simp only [Option.some.injEq, Prod.mk.injEq] at h
  obtain ⟨rfl, rfl, rfl⟩ := h
  exact ⟨Nat.le_refl _, hu, fun _ => ResW.zero⟩
theorem evStep_W (hm : most ≤ 1000000) : EvW most (evStep most E) := by
 intro c u t e r u' o h hc hu ht hel he
 unfold evStep at h
 split at h
 ·simp only [Option.some.injEq, Prod.mk.injEq] at h
  obtain ⟨rfl, rfl, rfl⟩ := h
  exact ⟨Nat.le_refl _, hu, fun h => by cases h⟩
 rename_i hne
 split at h
 ·split at h
  ·rename_i h0
   cases hx : e[((e.length : Int) - 1 - t.index).toNat]? with
   | none => rw [hx] at h; cases h
   | some x =>
    rw [hx] at h
    simp only [Option.map_some, Option.some.injEq, Prod.mk.injEq] at h
    obtain ⟨rfl, rfl, rfl⟩ := h
    exact ⟨by omega, by omega, fun _ => ⟨by omega, (he _ (List.mem_of_getElem? hx)).up (by omega)⟩⟩
  ·cases h
 split at h
 ·split at h
  ·rename_i b hb
   simp only [Option.some.injEq, Prod.mk.injEq] at h
   obtain ⟨rfl, rfl, rfl⟩ := h
   exact ⟨by omega, by omega, fun _ => ⟨by omega, ResW.clo (ht.arg (by rw [hb]; simp)) (by omega) fun x hx => (he x hx).up (by omega)⟩⟩
  ·cases h
 ·cases h1 : evArgs E e (u + 1) t.args with
  | none => rw [h1] at h; cases h
  | some p =>
   obtain ⟨l, u1, o1⟩ := p
   obtain ⟨a1, a2, a3⟩ := evArgs_W (c := c + 1) hE h1 (by omega) (by omega) (fun x hx => ht.arg hx) (by omega) (fun x hx => (he x hx).up (by omega))
   rw [h1] at h
   cases o1 with
   | true =>
    simp only [Option.some.injEq, Prod.mk.injEq] at h
    obtain ⟨rfl, rfl, rfl⟩ := h
    exact ⟨by omega, a2, fun h => by cases h⟩
   | false =>
    obtain ⟨a3, a4, a5⟩ := a3 rfl
    simp only at h
    obtain ⟨b1, b2, b3⟩ := evOf_W (c := c) hE hm h (by omega) a2 (fun x hx => (a5 x hx).up (by omega)) (fun hn => by
     have : t.args ≠ [] := by intro e; rw [e] at a4; simp at a4; exact hn a4
     have := a3 this; omega)
    exact ⟨by omega, b2, fun ho => ⟨by omega, b3 ho⟩⟩
end
theorem ev_W {most : Nat} (hm : most ≤ 1000000) : ∀ f, EvW most (ev most f)
 | 0 => fun c u t e r u' o h => by simp [ev] at h
 | f + 1 => by rw [ev_succ]; exact evStep_W (ev_W hm f) hm
/-- A value is of a type. -/
inductive RTy (Q : Ty → Prop) : Res → Ty → Prop
 | num {n : Nat} : RTy Q (numR n) tNat
 | list {l : List Nat} : RTy Q (listR l) tList
 | pair {x y : Res} {a b : Ty} : RTy Q x a → RTy Q y b → RTy Q (pairR [x, y]) (tPair a b)
 | unit : RTy Q zeroR tUnit
 | clo {G : List Ty} {es : List Res} {b : Tm} {s t : Ty} (hl : es.length = G.length) (he : ∀ (i : Nat) (r : Res) (a : Ty), es[i]? = some r → G[i]? = some a → RTy Q r a) (hb : HasTy Q (G ++ [s]) b t) : RTy Q (cloR b es) (tFun s t)
def EnvTy (Q : Ty → Prop) (es : List Res) (G : List Ty) : Prop := es.length = G.length ∧ ∀ (i : Nat) (r : Res) (a : Ty), es[i]? = some r → G[i]? = some a → RTy Q r a
theorem EnvTy.snoc {Q : Ty → Prop} {es : List Res} {G : List Ty} {r : Res} {a : Ty} (h : EnvTy Q es G) (hr : RTy Q r a) : EnvTy Q (es ++ [r]) (G ++ [a]) := by
 refine ⟨by simp [h.1], fun i x b hx hb => ?_⟩
 by_cases hi : i < es.length
 ·rw [List.getElem?_append_left hi] at hx
  rw [List.getElem?_append_left (by rw [← h.1]; exact hi)] at hb
  exact h.2 i x b hx hb
 ·rw [List.getElem?_append_right (by omega)] at hx
  rw [List.getElem?_append_right (by rw [← h.1]; omega), ← h.1] at hb
  cases hj : i - es.length with
  | zero => rw [hj] at hx hb; simp at hx hb; subst hx; subst hb; exact hr
  | succ j => rw [hj] at hx; simp at hx
theorem len2 {α : Type} {l : List α} (h : l.length = 2) : ∃ x y, l = [x, y] := by
 match l, h with
 | [x, y], _ => exact ⟨x, y, rfl⟩
theorem len3 {α : Type} {l : List α} (h : l.length = 3) : ∃ x y z, l = [x, y, z] := by
 match l, h with
 | [x, y, z], _ => exact ⟨x, y, z, rfl⟩
/-- The evaluation of what is typed does not stop short. -/
def EvP (Q : Ty → Prop) (most : Nat) (N : Nat) (E : Evl) : Prop := ∀ u t e G s, N ≤ u → u ≤ most → HasTy Q G t s → EnvTy Q e G →
 ∃ r u' o, E u t e = some (r, u', o) ∧ u ≤ u' ∧ u' ≤ most ∧ (o = false → RTy Q r s)
section
variable {Q : Ty → Prop} {most N : Nat} {E : Evl} (hE : EvP Q most N E)
include hE
theorem evCall_P {u : Nat} {f a : Res} {s t : Ty} (hN : N ≤ u) (hu : u ≤ most) (hf : RTy Q f (tFun s t)) (ha : RTy Q a s) :
  ∃ r u' o, evCall E u f a = some (r, u', o) ∧ u ≤ u' ∧ u' ≤ most ∧ (o = false → RTy Q r t) := by
 cases hf with
 | clo hl he hb => exact hE u _ _ _ _ hN hu hb (EnvTy.snoc ⟨hl, he⟩ ha)
theorem evArgs_P {e : List Res} {G : List Ty} (he : EnvTy Q e G) : ∀ (l : List Tm) (ts : List Ty) (u : Nat), N ≤ u → u ≤ most → l.length = ts.length → (∀ (i : Nat) x a, l[i]? = some x → ts[i]? = some a → HasTy Q G x a) →
  ∃ l' u' o, evArgs E e u l = some (l', u', o) ∧ u ≤ u' ∧ u' ≤ most ∧ (o = false → l'.length = ts.length ∧ ∀ (i : Nat) r a, l'[i]? = some r → ts[i]? = some a → RTy Q r a)
 | [], ts, u, hN, hu, hl, h => by
  refine ⟨[], u, false, rfl, Nat.le_refl _, hu, fun _ => ⟨by simpa using hl, by simp⟩⟩
 | t :: l, [], u, hN, hu, hl, h => by simp at hl
 | t :: l, a :: ts, u, hN, hu, hl, h => by
  obtain ⟨r, u1, o1, h1, h2, h3, h4⟩ := hE u t e G a hN hu (h 0 t a rfl rfl) he
  rw [evArgs, h1]
  cases o1 with
  | true => exact ⟨_, _, _, rfl, h2, h3, fun h => by cases h⟩
  | false =>
   obtain ⟨l', u2, o2, g1, g2, g3, g4⟩ := evArgs_P he l ts u1 (by omega) h3 (by simpa using hl) (fun i x b hx hb => h (i + 1) x b (by simpa using hx) (by simpa using hb))
   simp only [g1]
   refine ⟨_, _, _, rfl, by omega, g3, fun ho => ?_⟩
   obtain ⟨g4, g5⟩ := g4 ho
   refine ⟨by simp [g4], fun i x b hx hb => ?_⟩
   cases i with
   | zero => simp at hx hb; subst hx; subst hb; exact h4 rfl
   | succ i => exact g5 i x b (by simpa using hx) (by simpa using hb)
theorem evRec_P {s : Res} {t : Ty} (hs : RTy Q s (tFun tNat (tFun t t))) : ∀ (n k u : Nat) (r : Res), N ≤ u → u ≤ most → RTy Q r t →
  ∃ r' u' o, evRec E s n k u r = some (r', u', o) ∧ u ≤ u' ∧ u' ≤ most ∧ (o = false → RTy Q r' t)
 | 0, k, u, r, hN, hu, hr => ⟨_, _, _, rfl, Nat.le_refl _, hu, fun _ => hr⟩
 | n + 1, k, u, r, hN, hu, hr => by
  obtain ⟨f, u1, o1, h1, h2, h3, h4⟩ := evCall_P hE hN hu hs (RTy.num (n := k))
  rw [evRec, h1]
  cases o1 with
  | true => exact ⟨_, _, _, rfl, h2, h3, fun h => by cases h⟩
  | false =>
   obtain ⟨r1, u2, o2, g1, g2, g3, g4⟩ := evCall_P hE (by omega) h3 (h4 rfl) hr
   simp only [g1]
   cases o2 with
   | true => exact ⟨_, _, _, rfl, by omega, g3, fun h => by cases h⟩
   | false =>
    obtain ⟨r2, u3, o3, k1, k2, k3, k4⟩ := evRec_P hs n (k + 1) u2 r1 (by omega) g3 (g4 rfl)
    exact ⟨_, _, _, k1, by omega, k3, k4⟩
theorem evFold_P {s : Res} {t : Ty} {l : List Nat} (hs : RTy Q s (tFun tNat (tFun tList (tFun t t)))) : ∀ (n u : Nat) (r : Res), N ≤ u → u ≤ most → RTy Q r t →
  ∃ r' u' o, evFold E s l n u r = some (r', u', o) ∧ u ≤ u' ∧ u' ≤ most ∧ (o = false → RTy Q r' t)
 | 0, u, r, hN, hu, hr => ⟨_, _, _, rfl, Nat.le_refl _, hu, fun _ => hr⟩
 | n + 1, u, r, hN, hu, hr => by
  obtain ⟨f, u1, o1, h1, h2, h3, h4⟩ := evCall_P hE hN hu hs (RTy.num (n := l.getD n 0))
  rw [evFold, h1]
  cases o1 with
  | true => exact ⟨_, _, _, rfl, h2, h3, fun h => by cases h⟩
  | false =>
   obtain ⟨f1, u2, o2, g1, g2, g3, g4⟩ := evCall_P hE (by omega) h3 (h4 rfl) (RTy.list (l := l.drop (n + 1)))
   simp only [g1]
   cases o2 with
   | true => exact ⟨_, _, _, rfl, by omega, g3, fun h => by cases h⟩
   | false =>
    obtain ⟨r1, u3, o3, g1, g5, g6, g7⟩ := evCall_P hE (by omega) g3 (g4 rfl) hr
    simp only [g1]
    cases o3 with
    | true => exact ⟨_, _, _, rfl, by omega, g6, fun h => by cases h⟩
    | false =>
     obtain ⟨r2, u4, o4, k1, k2, k3, k4⟩ := evFold_P hs n u3 r1 (by omega) g6 (g7 rfl)
     exact ⟨_, _, _, k1, by omega, k3, k4⟩
theorem evOf_P {k : Int} {ty s : Ty} {ts : List Ty} (hN : NodeTy Q k ty ts s) {u : Nat} {l : List Res} (hu0 : N ≤ u) (hu : u ≤ most) (hl : l.length = ts.length)
  (h : ∀ (i : Nat) r a, l[i]? = some r → ts[i]? = some a → RTy Q r a) : ∃ r u' o, evOf E k u l = some (r, u', o) ∧ u ≤ u' ∧ u' ≤ most ∧ (o = false → RTy Q r s) := by
 have l0 : ts.length = 0 → l = [] := fun h => by rw [h] at hl; exact List.length_eq_zero_iff.1 hl
 have l1 : ts.length = 1 → ∃ x, l = [x] := fun h => by rw [h] at hl; exact List.length_eq_one_iff.1 hl
 have l2 : ts.length = 2 → ∃ x y, l = [x, y] := fun h => by rw [h] at hl; exact len2 hl
 have l3 : ts.length = 3 → ∃ x y z, l = [x, y, z] := fun h => by rw [h] at hl; exact len3 hl
 cases hN with
 | app =>
  obtain ⟨x, y, rfl⟩ := l2 rfl
  simp only [evOf, BEq.rfl, if_true]
  exact evCall_P hE hu0 hu (h 0 x _ rfl rfl) (h 1 y _ rfl rfl)
 | zero => obtain rfl := l0 rfl; exact ⟨zeroR, u, false, by simp [evOf], Nat.le_refl _, hu, fun _ => .num⟩
 | succ =>
  obtain ⟨x, rfl⟩ := l1 rfl
  exact ⟨_, u, false, by simp [evOf] <;> rfl, Nat.le_refl _, hu, fun _ => .num⟩
 | recr =>
  obtain ⟨x, y, z, rfl⟩ := l3 rfl
  have e : evOf E 6 u [x, y, z] = evRec E y z.num 0 u x := by simp [evOf]
  rw [e]
  exact evRec_P hE (h 1 y _ rfl rfl) _ _ _ _ hu0 hu (h 0 x _ rfl rfl)
 | nil => obtain rfl := l0 rfl; exact ⟨zeroR, u, false, by simp [evOf], Nat.le_refl _, hu, fun _ => .list (l := [])⟩
 | cons =>
  obtain ⟨x, y, rfl⟩ := l2 rfl
  exact ⟨_, u, false, by simp [evOf] <;> rfl, Nat.le_refl _, hu, fun _ => .list⟩
 | fold =>
  obtain ⟨x, y, z, rfl⟩ := l3 rfl
  have e : evOf E 9 u [x, y, z] = evFold E y z.list z.list.length u x := by simp [evOf]
  rw [e]
  exact evFold_P hE (h 1 y _ rfl rfl) _ _ _ hu0 hu (h 0 x _ rfl rfl)
 | pair =>
  obtain ⟨x, y, rfl⟩ := l2 rfl
  exact ⟨_, u, false, by simp [evOf] <;> rfl, Nat.le_refl _, hu, fun _ => .pair (h 0 x _ rfl rfl) (h 1 y _ rfl rfl)⟩
 | fst =>
  obtain ⟨x, rfl⟩ := l1 rfl
  have hx := h 0 x _ rfl rfl
  cases hx with
  | pair ha hb => exact ⟨_, u, false, by simp [evOf, pairR, Res.pair] <;> rfl, Nat.le_refl _, hu, fun _ => ha⟩
 | snd =>
  obtain ⟨x, rfl⟩ := l1 rfl
  have hx := h 0 x _ rfl rfl
  cases hx with
  | pair ha hb => exact ⟨_, u, false, by simp [evOf, pairR, Res.pair] <;> rfl, Nat.le_refl _, hu, fun _ => hb⟩
 | unit => obtain rfl := l0 rfl; exact ⟨zeroR, u, false, by simp [evOf], Nat.le_refl _, hu, fun _ => .unit⟩
theorem evStep_P (hNm : 1 ≤ N) : EvP Q most (N - 1) (evStep most E) := by
 intro u t e G s hN hu ht he
 unfold evStep
 split
 ·exact ⟨_, _, _, rfl, Nat.le_refl _, hu, fun h => by cases h⟩
 rename_i hne
 have node : ∀ {k : Int} {ty : Ty} {l : List Tm} {ts : List Ty}, NodeTy Q k ty ts s → l.length = ts.length → (∀ (i : Nat) x a, l[i]? = some x → ts[i]? = some a → HasTy Q G x a) → (k == 1) = false → (k == 2) = false →
   ∃ r u' o, (if (tmT k ty l).kind == 1 then
     (if 0 ≤ (e.length : Int) - 1 - (tmT k ty l).index then (e[((e.length : Int) - 1 - (tmT k ty l).index).toNat]?).map fun r => (r, u + 1, false) else none)
    else if (tmT k ty l).kind == 2 then (match (tmT k ty l).args with | [b] => some (cloR b e, u + 1, false) | _ => none)
    else match evArgs E e (u + 1) (tmT k ty l).args with
     | none => none
     | some (_, u', true) => some (zeroR, u', true)
     | some (l2, u', false) => evOf E (tmT k ty l).kind u' l2) = some (r, u', o) ∧ u ≤ u' ∧ u' ≤ most ∧ (o = false → RTy Q r s) := by
  intro k ty l ts hT hl h k1 k2
  obtain ⟨l', u1, o1, g1, g2, g3, g4⟩ := evArgs_P hE he l ts (u + 1) (by omega) (by omega) hl h
  simp only [tmT, Tm.kind, Tm.args, k1, k2, Bool.false_eq_true, if_false, g1]
  cases o1 with
  | true => exact ⟨_, _, _, rfl, by omega, g3, fun h => by cases h⟩
  | false =>
   obtain ⟨g4, g5⟩ := g4 rfl
   obtain ⟨r, u', o, k1, k2, k3, k4⟩ := evOf_P hE hT (by omega) g3 g4 g5
   exact ⟨r, u', o, k1, by omega, k3, k4⟩
 have nk : ∀ {k : Int} {ty : Ty} {ts : List Ty}, NodeTy Q k ty ts s → (k == 1) = false ∧ (k == 2) = false := by
  intro k ty ts h; cases h <;> exact ⟨rfl, rfl⟩
 cases ht with
 | @var _ i _ hi hg =>
  have hel := he.1
  have e1 : ((e.length : Int) - 1 - (i : Int)).toNat = G.length - 1 - i := by omega
  have h0 : 0 ≤ (e.length : Int) - 1 - (i : Int) := by omega
  obtain ⟨r, hr⟩ : ∃ r, e[G.length - 1 - i]? = some r := ⟨_, List.getElem?_eq_getElem (by omega)⟩
  refine ⟨r, u + 1, false, ?_, by omega, by omega, fun _ => he.2 _ r s hr hg⟩
  simp only [tmVar, Tm.kind, Tm.index, BEq.rfl, if_true, if_pos h0, e1, hr, Option.map_some]
 | @lam _ a b t hq hb =>
  exact ⟨cloR t e, u + 1, false, by simp [tmT, Tm.kind, Tm.args], by omega, by omega, fun _ => .clo he.1 he.2 hb⟩
 | n0 hT => exact node hT rfl (by simp) (nk hT).1 (nk hT).2
 | n1 hT h1 =>
  refine node hT rfl (fun i x a hx ha => ?_) (nk hT).1 (nk hT).2
  match i with
  | 0 => simp at hx ha; subst hx; subst ha; exact h1
  | i + 1 => simp at hx
 | n2 hT h1 h2 =>
  refine node hT rfl (fun i x a hx ha => ?_) (nk hT).1 (nk hT).2
  match i with
  | 0 => simp at hx ha; subst hx; subst ha; exact h1
  | 1 => simp at hx ha; subst hx; subst ha; exact h2
  | i + 2 => simp at hx
 | n3 hT h1 h2 h3 =>
  refine node hT rfl (fun i x a hx ha => ?_) (nk hT).1 (nk hT).2
  match i with
  | 0 => simp at hx ha; subst hx; subst ha; exact h1
  | 1 => simp at hx ha; subst hx; subst ha; exact h2
  | 2 => simp at hx ha; subst hx; subst ha; exact h3
  | i + 3 => simp at hx
end
theorem ev_P {Q : Ty → Prop} {most : Nat} : ∀ f, EvP Q most (most + 1 - f) (ev most f)
 | 0 => fun u t e G s hN hu => by omega
 | f + 1 => by
  rw [ev_succ, show most + 1 - (f + 1) = most + 1 - f - 1 by omega]
  by_cases h : 1 ≤ most + 1 - f
  ·exact evStep_P (ev_P f) h
  ·intro u t e G s hN hu ht he
   have := evStep_P (N := 1) (fun u t e G s hN hu ht he => ev_P f u t e G s (by omega) hu ht he) (Nat.le_refl _) u t e G s (by omega) hu ht he
   exact this
end GoAbs
namespace GoAbs
open Go
abbrev Vl := Tm → List Res → Option Res
def vlCall (E : Vl) (f a : Res) : Option Res := E f.body (f.env ++ [a])
def vlArgs (E : Vl) (e : List Res) : List Tm → Option (List Res)
 | [] => some []
 | t :: l =>
  match E t e with
  | none => none
  | some r => match vlArgs E e l with
   | none => none
   | some l' => some (r :: l')
def vlRec (E : Vl) (s : Res) : Nat → Nat → Res → Option Res
 | 0, _, r => some r
 | n + 1, k, r =>
  match vlCall E s (numR k) with
  | none => none
  | some f => match vlCall E f r with
   | none => none
   | some r' => vlRec E s n (k + 1) r'
def vlFold (E : Vl) (s : Res) (l : List Nat) : Nat → Res → Option Res
 | 0, r => some r
 | i + 1, r =>
  match vlCall E s (numR (l.getD i 0)) with
  | none => none
  | some f => match vlCall E f (listR (l.drop (i + 1))) with
   | none => none
   | some f' => match vlCall E f' r with
    | none => none
    | some r' => vlFold E s l i r'
def vlOf (E : Vl) (k : Int) (l : List Res) : Option Res :=
 if k == 3 then (match l with | [f, a] => vlCall E f a | _ => none)
 else if k == 5 then (match l with | [a] => some (numR (a.num + 1)) | _ => none)
 else if k == 6 then (match l with | [z, s, n] => vlRec E s n.num 0 z | _ => none)
 else if k == 8 then (match l with | [a, b] => some (listR (a.num :: b.list)) | _ => none)
 else if k == 9 then (match l with | [z, s, n] => vlFold E s n.list n.list.length z | _ => none)
 else if k == 10 then some (pairR l)
 else if k == 11 then (match l with | [a] => (match a.pair with | [x, _] => some x | _ => none) | _ => none)
 else if k == 12 then (match l with | [a] => (match a.pair with | [_, y] => some y | _ => none) | _ => none)
 else some zeroR
def vlStep (E : Vl) : Vl := fun t e =>
 if t.kind == 1 then (if 0 ≤ (e.length : Int) - 1 - t.index then e[((e.length : Int) - 1 - t.index).toNat]? else none)
 else if t.kind == 2 then (match t.args with | [b] => some (cloR b e) | _ => none)
 else match vlArgs E e t.args with
  | none => none
  | some l => vlOf E t.kind l
def vl : Nat → Vl
 | 0 => fun _ _ => none
 | f + 1 => vlStep (vl f)
theorem vl_succ (f : Nat) : vl (f + 1) = vlStep (vl f) := rfl
section
variable {E : Evl} {F : Vl} (hEF : ∀ u t e r u', E u t e = some (r, u', false) → F t e = some r)
include hEF
theorem evCall_vl {u u' : Nat} {f a r : Res} (h : evCall E u f a = some (r, u', false)) : vlCall F f a = some r := hEF _ _ _ _ _ h
theorem evArgs_vl {e : List Res} : ∀ {l : List Tm} {u u' : Nat} {l' : List Res}, evArgs E e u l = some (l', u', false) → vlArgs F e l = some l'
 | [], u, u', l', h => by simp only [evArgs, Option.some.injEq, Prod.mk.injEq] at h; obtain ⟨rfl, _, _⟩ := h; rfl
 | t :: l, u, u', l', h => by
  rw [evArgs] at h
  split at h
  ·cases h
  ·cases h
  ·rename_i r u1 h1
   split at h
   ·cases h
   ·rename_i l1 u2 o h2
    simp only [Option.some.injEq, Prod.mk.injEq] at h
    obtain ⟨rfl, rfl, rfl⟩ := h
    rw [vlArgs, hEF _ _ _ _ _ h1]
    simp only
    rw [evArgs_vl h2]
theorem evRec_vl {s : Res} : ∀ {n k u u' : Nat} {r r' : Res}, evRec E s n k u r = some (r', u', false) → vlRec F s n k r = some r'
 | 0, k, u, u', r, r', h => by simp only [evRec, Option.some.injEq, Prod.mk.injEq] at h; obtain ⟨rfl, _, _⟩ := h; rfl
 | n + 1, k, u, u', r, r', h => by
  rw [evRec] at h
  split at h
  ·cases h
  ·cases h
  ·rename_i f u1 h1
   split at h
   ·cases h
   ·cases h
   ·rename_i r1 u2 h2
    rw [vlRec, evCall_vl hEF h1]
    simp only
    rw [evCall_vl hEF h2]
    exact evRec_vl h
theorem evFold_vl {s : Res} {l : List Nat} : ∀ {n u u' : Nat} {r r' : Res}, evFold E s l n u r = some (r', u', false) → vlFold F s l n r = some r'
 | 0, u, u', r, r', h => by simp only [evFold, Option.some.injEq, Prod.mk.injEq] at h; obtain ⟨rfl, _, _⟩ := h; rfl
 | n + 1, u, u', r, r', h => by
  rw [evFold] at h
  split at h
  ·cases h
  ·cases h
  ·rename_i f u1 h1
   split at h
   ·cases h
   ·cases h
   ·rename_i f1 u2 h2
    split at h
    ·cases h
    ·cases h
    ·rename_i r1 u3 h3
     rw [vlFold, evCall_vl hEF h1]
     simp only
     rw [evCall_vl hEF h2]
     simp only
     rw [evCall_vl hEF h3]
     exact evFold_vl h
theorem evOf_vl {k : Int} {u u' : Nat} {l : List Res} {r : Res} (h : evOf E k u l = some (r, u', false)) : vlOf F k l = some r := by
 unfold evOf at h
 unfold vlOf
 split at h
 ·rename_i hk
  rw [if_pos hk]
  split at h
  ·exact evCall_vl hEF h
  ·cases h
 rename_i hk; rw [if_neg hk]
 split at h
 ·rename_i hk
  rw [if_pos hk]
  split at h
  ·simp only [Option.some.injEq, Prod.mk.injEq] at h; obtain ⟨rfl, _, _⟩ := h; rfl
  ·cases h
 rename_i hk; rw [if_neg hk]
 split at h
 ·rename_i hk
  rw [if_pos hk]
  split at h
  ·exact evRec_vl hEF h
  ·cases h
 rename_i hk; rw [if_neg hk]
 split at h
 ·rename_i hk
  rw [if_pos hk]
  split at h
  ·simp only [Option.some.injEq, Prod.mk.injEq] at h; obtain ⟨rfl, _, _⟩ := h; rfl
  ·cases h
 rename_i hk; rw [if_neg hk]
 split at h
 ·rename_i hk
  rw [if_pos hk]
  split at h
  ·exact evFold_vl hEF h
  ·cases h
 rename_i hk; rw [if_neg hk]
 split at h
 ·rename_i hk
  rw [if_pos hk]
  simp only [Option.some.injEq, Prod.mk.injEq] at h; obtain ⟨rfl, _, _⟩ := h; rfl
 rename_i hk; rw [if_neg hk]
 split at h
 ·rename_i hk
  rw [if_pos hk]
  split at h
  ·split at h
   ·rename_i hp
    simp only [Option.some.injEq, Prod.mk.injEq] at h; obtain ⟨rfl, _, _⟩ := h; simp only [hp]
   ·cases h
  ·cases h
 rename_i hk; rw [if_neg hk]
 split at h
 ·rename_i hk
  rw [if_pos hk]
  split at h
  ·split at h
   ·rename_i hp
    simp only [Option.some.injEq, Prod.mk.injEq] at h; obtain ⟨rfl, _, _⟩ := h; simp only [hp]
   ·cases h
  ·cases h
 rename_i hk; rw [if_neg hk]
 simp only [Option.some.injEq, Prod.mk.injEq] at h; obtain ⟨rfl, _, _⟩ := h; rfl
theorem evStep_vl {most u u' : Nat} {t : Tm} {e : List Res} {r : Res} (h : evStep most E u t e = some (r, u', false)) : vlStep F t e = some r := by
 unfold evStep at h
 unfold vlStep
 split at h
 ·simp only [Option.some.injEq, Prod.mk.injEq] at h; obtain ⟨_, _, h⟩ := h; cases h
 split at h
 ·rename_i hk
  rw [if_pos hk]
  split at h
  ·rename_i h0
   rw [if_pos h0]
   cases hx : e[((e.length : Int) - 1 - t.index).toNat]? with
   | none => rw [hx] at h; cases h
   | some x => rw [hx] at h; simp only [Option.map_some, Option.some.injEq, Prod.mk.injEq] at h; obtain ⟨rfl, _, _⟩ := h; rfl
  ·cases h
 rename_i hk; rw [if_neg hk]
 split at h
 ·rename_i hk
  rw [if_pos hk]
  split at h
  ·rename_i b hb
   simp only [Option.some.injEq, Prod.mk.injEq] at h; obtain ⟨rfl, _, _⟩ := h; simp only [hb]
  ·cases h
 rename_i hk; rw [if_neg hk]
 split at h
 ·cases h
 ·cases h
 ·rename_i l u1 h1
  rw [evArgs_vl hEF h1]
  exact evOf_vl hEF h
end
theorem ev_vl {most : Nat} : ∀ (f : Nat) (u : Nat) (t : Tm) (e : List Res) (r : Res) (u' : Nat), ev most f u t e = some (r, u', false) → vl f t e = some r
 | 0, u, t, e, r, u', h => by simp [ev] at h
 | f + 1, u, t, e, r, u', h => by rw [vl_succ]; rw [ev_succ] at h; exact evStep_vl (ev_vl f) h
section
variable {E F : Vl} (hEF : ∀ t e r, E t e = some r → F t e = some r)
include hEF
theorem vlArgs_mono {e : List Res} : ∀ {l : List Tm} {l' : List Res}, vlArgs E e l = some l' → vlArgs F e l = some l'
 | [], l', h => h
 | t :: l, l', h => by
  rw [vlArgs] at h ⊢
  split at h
  ·cases h
  ·rename_i r h1
   rw [hEF _ _ _ h1]
   simp only
   split at h
   ·cases h
   ·rename_i l1 h2
    rw [vlArgs_mono h2]; exact h
theorem vlRec_mono {s : Res} : ∀ {n k : Nat} {r r' : Res}, vlRec E s n k r = some r' → vlRec F s n k r = some r'
 | 0, k, r, r', h => h
 | n + 1, k, r, r', h => by
  rw [vlRec] at h ⊢
  split at h
  ·cases h
  ·rename_i f h1
   rw [show vlCall F s (numR k) = some f from hEF _ _ _ h1]
   simp only
   split at h
   ·cases h
   ·rename_i r1 h2
    rw [show vlCall F f r = some r1 from hEF _ _ _ h2]
    exact vlRec_mono h
theorem vlFold_mono {s : Res} {l : List Nat} : ∀ {n : Nat} {r r' : Res}, vlFold E s l n r = some r' → vlFold F s l n r = some r'
 | 0, r, r', h => h
 | n + 1, r, r', h => by
  rw [vlFold] at h ⊢
  split at h
  ·cases h
  ·rename_i f h1
   rw [show vlCall F s (numR (l.getD n 0)) = some f from hEF _ _ _ h1]
   simp only
   split at h
   ·cases h
   ·rename_i f1 h2
    rw [show vlCall F f (listR (l.drop (n + 1))) = some f1 from hEF _ _ _ h2]
    simp only
    split at h
    ·cases h
    ·rename_i r1 h3
     rw [show vlCall F f1 r = some r1 from hEF _ _ _ h3]
     exact vlFold_mono h
theorem vlOf_mono {k : Int} {l : List Res} {r : Res} (h : vlOf E k l = some r) : vlOf F k l = some r := by
 unfold vlOf at h ⊢
 split at h
 ·rename_i hk; rw [if_pos hk]
  split at h
  ·exact hEF _ _ _ h
  ·cases h
 rename_i hk; rw [if_neg hk]
 split at h
 ·rename_i hk; rw [if_pos hk]; exact h
 rename_i hk; rw [if_neg hk]
 split at h
 ·rename_i hk; rw [if_pos hk]
  split at h
  ·exact vlRec_mono hEF h
  ·cases h
 rename_i hk; rw [if_neg hk]
 split at h
 ·rename_i hk; rw [if_pos hk]; exact h
 rename_i hk; rw [if_neg hk]
 split at h
 ·rename_i hk; rw [if_pos hk]
  split at h
  ·exact vlFold_mono hEF h
  ·cases h
 rename_i hk; rw [if_neg hk]
 exact h
theorem vlStep_mono {t : Tm} {e : List Res} {r : Res} (h : vlStep E t e = some r) : vlStep F t e = some r := by
 unfold vlStep at h ⊢
 split at h
 ·rename_i hk; rw [if_pos hk]; exact h
 rename_i hk; rw [if_neg hk]
 split at h
 ·rename_i hk; rw [if_pos hk]; exact h
 rename_i hk; rw [if_neg hk]
 split at h
 ·cases h
 ·rename_i l h1
  rw [vlArgs_mono hEF h1]
  exact vlOf_mono hEF h
end
theorem vl_mono1 : ∀ (f : Nat) (t : Tm) (e : List Res) (r : Res), vl f t e = some r → vl (f + 1) t e = some r
 | 0, t, e, r, h => by simp [vl] at h
 | f + 1, t, e, r, h => by rw [vl_succ] at h ⊢; exact vlStep_mono (vl_mono1 f) h
theorem vl_mono {f g : Nat} (hfg : f ≤ g) : ∀ (t : Tm) (e : List Res) (r : Res), vl f t e = some r → vl g t e = some r := by
 induction hfg with
 | refl => exact fun _ _ _ h => h
 | step _ ih => exact fun t e r h => vl_mono1 _ t e r (ih t e r h)
/-- A term has a value. -/
def Val (t : Tm) (e : List Res) (r : Res) : Prop := ∃ f, vl f t e = some r
theorem Val.det {t : Tm} {e : List Res} {r r' : Res} (h : Val t e r) (h' : Val t e r') : r = r' := by
 obtain ⟨f, h⟩ := h
 obtain ⟨f', h'⟩ := h'
 have h1 := vl_mono (Nat.le_max_left f f') _ _ _ h
 have h2 := vl_mono (Nat.le_max_right f f') _ _ _ h'
 rw [h1] at h2
 exact Option.some.inj h2
theorem ev_Val {most f u u' : Nat} {t : Tm} {e : List Res} {r : Res} (h : ev most f u t e = some (r, u', false)) : Val t e r := ⟨f, ev_vl f u t e r u' h⟩
/-- A value behind the rounds of a recursion. -/
def RecV (s : Res) (n k : Nat) (r r' : Res) : Prop := ∃ f, vlRec (vl f) s n k r = some r'
theorem RecV.zero {s : Res} {k : Nat} {r r' : Res} (h : RecV s 0 k r r') : r' = r := by
 obtain ⟨f, h⟩ := h; simp only [vlRec, Option.some.injEq] at h; exact h.symm
theorem RecV.succ {s : Res} {n k : Nat} {r r' : Res} (h : RecV s (n + 1) k r r') : ∃ f r1, Val s.body (s.env ++ [numR k]) f ∧ Val f.body (f.env ++ [r]) r1 ∧ RecV s n (k + 1) r1 r' := by
 obtain ⟨g, h⟩ := h
 rw [vlRec] at h
 split at h
 ·cases h
 ·rename_i f h1
  split at h
  ·cases h
  ·rename_i r1 h2
   exact ⟨f, r1, ⟨g, h1⟩, ⟨g, h2⟩, g, h⟩
theorem vl_node {f : Nat} {k : Int} {ty : Ty} {l : List Tm} {e : List Res} {r : Res} (k1 : (k == 1) = false) (k2 : (k == 2) = false) (h : vl f (tmT k ty l) e = some r) :
  ∃ g l', vlArgs (vl g) e l = some l' ∧ vlOf (vl g) k l' = some r := by
 cases f with
 | zero => simp [vl] at h
 | succ g =>
  rw [vl_succ, vlStep] at h
  simp only [tmT, Tm.kind, Tm.args, k1, k2, Bool.false_eq_true, if_false] at h
  split at h
  ·cases h
  ·rename_i l' h1
   exact ⟨g, l', h1, h⟩
theorem vlArgs1 {E : Vl} {e : List Res} {a : Tm} {l' : List Res} (h : vlArgs E e [a] = some l') : ∃ x, E a e = some x ∧ l' = [x] := by
 simp only [vlArgs] at h
 split at h
 ·cases h
 ·rename_i r h1; exact ⟨r, h1, by simpa using h.symm⟩
theorem vlArgs2 {E : Vl} {e : List Res} {a b : Tm} {l' : List Res} (h : vlArgs E e [a, b] = some l') : ∃ x y, E a e = some x ∧ E b e = some y ∧ l' = [x, y] := by
 rw [vlArgs] at h
 split at h
 ·cases h
 ·rename_i r h1
  split at h
  ·cases h
  ·rename_i l1 h2
   obtain ⟨y, h3, rfl⟩ := vlArgs1 h2
   exact ⟨r, y, h1, h3, by simpa using h.symm⟩
theorem vlArgs3 {E : Vl} {e : List Res} {a b c : Tm} {l' : List Res} (h : vlArgs E e [a, b, c] = some l') : ∃ x y z, E a e = some x ∧ E b e = some y ∧ E c e = some z ∧ l' = [x, y, z] := by
 rw [vlArgs] at h
 split at h
 ·cases h
 ·rename_i r h1
  split at h
  ·cases h
  ·rename_i l1 h2
   obtain ⟨y, z, h3, h4, rfl⟩ := vlArgs2 h2
   exact ⟨r, y, z, h1, h3, h4, by simpa using h.symm⟩
theorem Val.var {i : Nat} {e : List Res} {r : Res} (h : Val (tmVar i) e r) : i < e.length ∧ e[e.length - 1 - i]? = some r := by
 obtain ⟨f, h⟩ := h
 cases f with
 | zero => simp [vl] at h
 | succ g =>
  have e0 : vlStep (vl g) (tmVar i) e = if 0 ≤ (e.length : Int) - 1 - (i : Int) then e[((e.length : Int) - 1 - (i : Int)).toNat]? else none := rfl
  rw [vl_succ, e0] at h
  by_cases h0 : 0 ≤ (e.length : Int) - 1 - (i : Int)
  ·have e1 : ((e.length : Int) - 1 - (i : Int)).toNat = e.length - 1 - i := by omega
   rw [if_pos h0, e1] at h
   exact ⟨by omega, h⟩
  ·rw [if_neg h0] at h; cases h
theorem Val.lam {ty : Ty} {b : Tm} {e : List Res} {r : Res} (h : Val (tmT 2 ty [b]) e r) : r = cloR b e := by
 obtain ⟨f, h⟩ := h
 cases f with
 | zero => simp [vl] at h
 | succ g =>
  rw [vl_succ, vlStep] at h
  simp [tmT, Tm.kind, Tm.args] at h
  exact h.symm
theorem Val.app {ty : Ty} {a b : Tm} {e : List Res} {r : Res} (h : Val (tmT 3 ty [a, b]) e r) : ∃ x y, Val a e x ∧ Val b e y ∧ Val x.body (x.env ++ [y]) r := by
 obtain ⟨f, h⟩ := h
 obtain ⟨g, l', h1, h2⟩ := vl_node rfl rfl h
 obtain ⟨x, y, h3, h4, rfl⟩ := vlArgs2 h1
 simp [vlOf] at h2
 exact ⟨x, y, ⟨g, h3⟩, ⟨g, h4⟩, ⟨g, h2⟩⟩
theorem Val.zero {ty : Ty} {e : List Res} {r : Res} (h : Val (tmT 4 ty []) e r) : r = zeroR := by
 obtain ⟨f, h⟩ := h
 obtain ⟨g, l', h1, h2⟩ := vl_node rfl rfl h
 simp [vlArgs] at h1; subst h1
 simp [vlOf] at h2; exact h2.symm
theorem Val.succ {ty : Ty} {a : Tm} {e : List Res} {r : Res} (h : Val (tmT 5 ty [a]) e r) : ∃ x, Val a e x ∧ r = numR (x.num + 1) := by
 obtain ⟨f, h⟩ := h
 obtain ⟨g, l', h1, h2⟩ := vl_node rfl rfl h
 obtain ⟨x, h3, rfl⟩ := vlArgs1 h1
 simp [vlOf] at h2
 exact ⟨x, ⟨g, h3⟩, h2.symm⟩
theorem Val.recr {ty : Ty} {a b c : Tm} {e : List Res} {r : Res} (h : Val (tmT 6 ty [a, b, c]) e r) : ∃ x y z, Val a e x ∧ Val b e y ∧ Val c e z ∧ RecV y z.num 0 x r := by
 obtain ⟨f, h⟩ := h
 obtain ⟨g, l', h1, h2⟩ := vl_node rfl rfl h
 obtain ⟨x, y, z, h3, h4, h5, rfl⟩ := vlArgs3 h1
 simp [vlOf] at h2
 exact ⟨x, y, z, ⟨g, h3⟩, ⟨g, h4⟩, ⟨g, h5⟩, ⟨g, h2⟩⟩
/-- The same value, but for what lies below in the surroundings. -/
inductive Like : Res → Res → Prop
 | mk {n : Nat} {l : List Nat} {p p' : List Res} {b : Tm} {e e' pre : List Res} (hp : p.length = p'.length) (hps : ∀ (i : Nat) x y, p[i]? = some x → p'[i]? = some y → Like x y)
   (he : e.length = e'.length) (hes : ∀ (i : Nat) x y, e[i]? = some x → e'[i]? = some y → Like x y) : Like (.mk n l p b e) (.mk n l p' b (pre ++ e'))
def SimL (l l' : List Res) : Prop := l.length = l'.length ∧ ∀ (i : Nat) x y, l[i]? = some x → l'[i]? = some y → Like x y
def SimE (e e' : List Res) : Prop := ∃ pre e'', e' = pre ++ e'' ∧ SimL e e''
theorem Like.inv {r r' : Res} (h : Like r r') : r'.num = r.num ∧ r'.list = r.list ∧ SimL r.pair r'.pair ∧ r'.body = r.body ∧ SimE r.env r'.env := by
 cases h with
 | mk hp hps he hes => exact ⟨rfl, rfl, ⟨hp, hps⟩, rfl, _, _, rfl, he, hes⟩
theorem SimL.nil : SimL [] [] := ⟨rfl, by simp⟩
theorem SimL.cons {x y : Res} {l l' : List Res} (h : Like x y) (hl : SimL l l') : SimL (x :: l) (y :: l') := by
 refine ⟨by simp [hl.1], fun i a b ha hb => ?_⟩
 cases i with
 | zero => simp at ha hb; subst ha; subst hb; exact h
 | succ i => exact hl.2 i a b (by simpa using ha) (by simpa using hb)
theorem SimL.snoc {x y : Res} {l l' : List Res} (hl : SimL l l') (h : Like x y) : SimL (l ++ [x]) (l' ++ [y]) := by
 refine ⟨by simp [hl.1], fun i a b ha hb => ?_⟩
 by_cases hi : i < l.length
 ·rw [List.getElem?_append_left hi] at ha
  rw [List.getElem?_append_left (by rw [← hl.1]; exact hi)] at hb
  exact hl.2 i a b ha hb
 ·rw [List.getElem?_append_right (by omega)] at ha
  rw [List.getElem?_append_right (by rw [← hl.1]; omega), ← hl.1] at hb
  cases hj : i - l.length with
  | zero => rw [hj] at ha hb; simp at ha hb; subst ha; subst hb; exact h
  | succ j => rw [hj] at ha; simp at ha
theorem SimE.snoc {e e' : List Res} {x y : Res} (he : SimE e e') (h : Like x y) : SimE (e ++ [x]) (e' ++ [y]) := by
 obtain ⟨pre, e'', rfl, hl⟩ := he
 exact ⟨pre, e'' ++ [y], by simp, hl.snoc h⟩
theorem Like.num {n : Nat} : Like (numR n) (numR n) := Like.mk (pre := []) rfl (by simp) rfl (by simp)
theorem Like.list {l : List Nat} : Like (listR l) (listR l) := Like.mk (pre := []) rfl (by simp) rfl (by simp)
theorem Like.pair {l l' : List Res} (h : SimL l l') : Like (pairR l) (pairR l') := Like.mk (pre := []) h.1 h.2 rfl (by simp)
theorem Like.clo {b : Tm} {e e' : List Res} (h : SimE e e') : Like (cloR b e) (cloR b e') := by
 obtain ⟨pre, e'', rfl, h1, h2⟩ := h
 exact Like.mk rfl (by simp) h1 h2
section
variable {E : Vl} (hE : ∀ t e r, E t e = some r → ∀ e', SimE e e' → ∃ r', E t e' = some r' ∧ Like r r')
include hE
theorem vlCall_sim {f f' a a' r : Res} (h : vlCall E f a = some r) (hf : Like f f') (ha : Like a a') : ∃ r', vlCall E f' a' = some r' ∧ Like r r' := by
 obtain ⟨_, _, _, hb, he⟩ := hf.inv
 have := hE _ _ _ h _ (he.snoc ha)
 unfold vlCall
 rw [hb]; exact this
theorem vlArgs_sim {e e' : List Res} (he : SimE e e') : ∀ {l : List Tm} {l' : List Res}, vlArgs E e l = some l' → ∃ l'', vlArgs E e' l = some l'' ∧ SimL l' l''
 | [], l', h => by simp [vlArgs] at h; subst h; exact ⟨[], rfl, .nil⟩
 | t :: l, l', h => by
  rw [vlArgs] at h
  split at h
  ·cases h
  ·rename_i r h1
   split at h
   ·cases h
   ·rename_i l1 h2
    simp at h; subst h
    obtain ⟨r', g1, g2⟩ := hE _ _ _ h1 _ he
    obtain ⟨l'', g3, g4⟩ := vlArgs_sim he h2
    exact ⟨r' :: l'', by rw [vlArgs, g1]; simp only [g3], g4.cons g2⟩
theorem vlRec_sim {s s' : Res} (hs : Like s s') : ∀ {n k : Nat} {r r1 r' : Res}, vlRec E s n k r = some r' → Like r r1 → ∃ r2, vlRec E s' n k r1 = some r2 ∧ Like r' r2
 | 0, k, r, r1, r', h, hr => by simp [vlRec] at h; subst h; exact ⟨r1, rfl, hr⟩
 | n + 1, k, r, r1, r', h, hr => by
  rw [vlRec] at h
  split at h
  ·cases h
  ·rename_i f h1
   split at h
   ·cases h
   ·rename_i q h2
    obtain ⟨f', g1, g2⟩ := vlCall_sim hE h1 hs Like.num
    obtain ⟨q', g3, g4⟩ := vlCall_sim hE h2 g2 hr
    obtain ⟨r2, g5, g6⟩ := vlRec_sim hs h g4
    exact ⟨r2, by rw [vlRec, g1]; simp only [g3, g5], g6⟩
theorem vlFold_sim {s s' : Res} (hs : Like s s') {l : List Nat} : ∀ {n : Nat} {r r1 r' : Res}, vlFold E s l n r = some r' → Like r r1 → ∃ r2, vlFold E s' l n r1 = some r2 ∧ Like r' r2
 | 0, r, r1, r', h, hr => by simp [vlFold] at h; subst h; exact ⟨r1, rfl, hr⟩
 | n + 1, r, r1, r', h, hr => by
  rw [vlFold] at h
  split at h
  ·cases h
  ·rename_i f h1
   split at h
   ·cases h
   ·rename_i f1 h2
    split at h
    ·cases h
    ·rename_i q h3
     obtain ⟨f', g1, g2⟩ := vlCall_sim hE h1 hs Like.num
     obtain ⟨f1', k1, k2⟩ := vlCall_sim hE h2 g2 Like.list
     obtain ⟨q', g3, g4⟩ := vlCall_sim hE h3 k2 hr
     obtain ⟨r2, g5, g6⟩ := vlFold_sim hs h g4
     exact ⟨r2, by rw [vlFold, g1]; simp only [k1, g3, g5], g6⟩
theorem SimL.two {x y : Res} {l' : List Res} (h : SimL [x, y] l') : ∃ x' y', l' = [x', y'] ∧ Like x x' ∧ Like y y' := by
 obtain ⟨h1, h2⟩ := h
 obtain ⟨x', y', rfl⟩ := len2 (by simpa using h1.symm)
 exact ⟨x', y', rfl, h2 0 _ _ rfl rfl, h2 1 _ _ rfl rfl⟩
theorem vlOf_sim {k : Int} {l l' : List Res} {r : Res} (h : vlOf E k l = some r) (hl : SimL l l') : ∃ r', vlOf E k l' = some r' ∧ Like r r' := by
 have two : ∀ {x y : Res} {l' : List Res}, SimL [x, y] l' → ∃ x' y', l' = [x', y'] ∧ Like x x' ∧ Like y y' := fun h => SimL.two hE h
 have one : ∀ {x : Res} {l' : List Res}, SimL [x] l' → ∃ x', l' = [x'] ∧ Like x x' := by
  intro x l' ⟨h1, h2⟩
  obtain ⟨x', rfl⟩ := List.length_eq_one_iff.1 (by simpa using h1.symm)
  exact ⟨x', rfl, h2 0 _ _ rfl rfl⟩
 have three : ∀ {x y z : Res} {l' : List Res}, SimL [x, y, z] l' → ∃ x' y' z', l' = [x', y', z'] ∧ Like x x' ∧ Like y y' ∧ Like z z' := by
  intro x y z l' ⟨h1, h2⟩
  obtain ⟨x', y', z', rfl⟩ := len3 (by simpa using h1.symm)
  exact ⟨x', y', z', rfl, h2 0 _ _ rfl rfl, h2 1 _ _ rfl rfl, h2 2 _ _ rfl rfl⟩
 unfold vlOf at h ⊢
 split at h
 ·rename_i hk; rw [if_pos hk]
  split at h
  ·obtain ⟨x, y, rfl, hx, hy⟩ := two hl
   exact vlCall_sim hE h hx hy
  ·cases h
 rename_i hk; rw [if_neg hk]
 split at h
 ·rename_i hk; rw [if_pos hk]
  split at h
  ·obtain ⟨x, rfl, hx⟩ := one hl
   simp at h; subst h
   refine ⟨_, rfl, ?_⟩
   rw [hx.inv.1]; exact .num
  ·cases h
 rename_i hk; rw [if_neg hk]
 split at h
 ·rename_i hk; rw [if_pos hk]
  split at h
  ·obtain ⟨x, y, z, rfl, hx, hy, hz⟩ := three hl
   simp only [hz.inv.1]
   exact vlRec_sim hE hy h hx
  ·cases h
 rename_i hk; rw [if_neg hk]
 split at h
 ·rename_i hk; rw [if_pos hk]
  split at h
  ·obtain ⟨x, y, rfl, hx, hy⟩ := two hl
   simp at h; subst h
   refine ⟨_, rfl, ?_⟩
   rw [hx.inv.1, hy.inv.2.1]; exact .list
  ·cases h
 rename_i hk; rw [if_neg hk]
 split at h
 ·rename_i hk; rw [if_pos hk]
  split at h
  ·obtain ⟨x, y, z, rfl, hx, hy, hz⟩ := three hl
   simp only [hz.inv.2.1]
   exact vlFold_sim hE hy h hx
  ·cases h
 rename_i hk; rw [if_neg hk]
 split at h
 ·rename_i hk; rw [if_pos hk]
  simp at h; subst h
  exact ⟨_, rfl, .pair hl⟩
 rename_i hk; rw [if_neg hk]
 split at h
 ·rename_i hk; rw [if_pos hk]
  split at h
  ·obtain ⟨x, rfl, hx⟩ := one hl
   split at h
   ·rename_i p q hp
    have hpl := hx.inv.2.2.1
    rw [hp] at hpl
    obtain ⟨x', y', e, h1, h2⟩ := two hpl
    simp only [e]
    simp at h; subst h
    exact ⟨_, rfl, h1⟩
   ·cases h
  ·cases h
 rename_i hk; rw [if_neg hk]
 split at h
 ·rename_i hk; rw [if_pos hk]
  split at h
  ·obtain ⟨x, rfl, hx⟩ := one hl
   split at h
   ·rename_i p q hp
    have hpl := hx.inv.2.2.1
    rw [hp] at hpl
    obtain ⟨x', y', e, h1, h2⟩ := two hpl
    simp only [e]
    simp at h; subst h
    exact ⟨_, rfl, h2⟩
   ·cases h
  ·cases h
 rename_i hk; rw [if_neg hk]
 simp at h; subst h
 exact ⟨_, rfl, .num⟩
theorem vlStep_sim {t : Tm} {e e' : List Res} {r : Res} (h : vlStep E t e = some r) (he : SimE e e') : ∃ r', vlStep E t e' = some r' ∧ Like r r' := by
 unfold vlStep at h ⊢
 split at h
 ·rename_i hk; rw [if_pos hk]
  split at h
  ·rename_i h0
   obtain ⟨pre, e'', rfl, hl, hs⟩ := he
   have hi := (List.getElem?_eq_some_iff.1 h).1
   have h1 : 0 ≤ ((pre ++ e'').length : Int) - 1 - t.index := by simp; omega
   have h2 : (((pre ++ e'').length : Int) - 1 - t.index).toNat = pre.length + ((e.length : Int) - 1 - t.index).toNat := by simp; omega
   rw [if_pos h1, h2, List.getElem?_append_right (by omega), Nat.add_sub_cancel_left]
   obtain ⟨y, hy⟩ : ∃ y, e''[((e.length : Int) - 1 - t.index).toNat]? = some y := ⟨_, List.getElem?_eq_getElem (by omega)⟩
   exact ⟨y, hy, hs _ _ _ h hy⟩
  ·cases h
 rename_i hk; rw [if_neg hk]
 split at h
 ·rename_i hk; rw [if_pos hk]
  split at h
  ·simp at h; subst h; exact ⟨_, rfl, .clo he⟩
  ·cases h
 rename_i hk; rw [if_neg hk]
 split at h
 ·cases h
 ·rename_i l h1
  obtain ⟨l'', g1, g2⟩ := vlArgs_sim hE he h1
  rw [g1]
  exact vlOf_sim hE h g2
end
theorem vl_sim : ∀ (f : Nat) (t : Tm) (e : List Res) (r : Res), vl f t e = some r → ∀ e', SimE e e' → ∃ r', vl f t e' = some r' ∧ Like r r'
 | 0, t, e, r, h => by simp [vl] at h
 | f + 1, t, e, r, h => fun e' he => by rw [vl_succ] at h ⊢; exact vlStep_sim (vl_sim f) h he
/-- The number of a closed term is the same wherever it stands. -/
theorem Val.anywhere {t : Tm} {r : Res} (h : Val t [] r) (e : List Res) : ∃ r', Val t e r' ∧ r'.num = r.num := by
 obtain ⟨f, h⟩ := h
 obtain ⟨r', h1, h2⟩ := vl_sim f t [] r h e ⟨e, [], by simp, .nil⟩
 exact ⟨r', ⟨f, h1⟩, h2.inv.1⟩
theorem Val.same_num {t : Tm} {r r' : Res} {e : List Res} (h : Val t [] r) (h' : Val t e r') : r'.num = r.num := by
 obtain ⟨r2, h1, h2⟩ := h.anywhere e
 rw [h'.det h1]; exact h2
end GoAbs
namespace GoAbs
open Go
theorem sized_eq {A B : Ty} (h : (sized A B).2 = 0) : sized A B = ((A, B), 0) := by
 unfold sized at h ⊢
 split at h
 ·rename_i h'; exact absurd h h'
 ·rename_i h'
  rw [if_neg h']
  split at h
  ·rename_i h''; exact absurd h h''
  ·rename_i h''; rw [if_neg h'']
theorem ch_two_ok {k : Int} {a b : Fm} (h : (fmTwo k a b).ch.2 = 0) : a.ch.2 = 0 ∧ b.ch.2 = 0 ∧ (fmTwo k a b).ch.1 = chCase k (.mk 0 []) [a.ch.1, b.ch.1] := by
 rw [ch_two] at h ⊢
 split at h
 ·rename_i h1
  split at h
  ·rename_i h2
   rw [if_pos h1, if_pos h2, sized_eq h]
   exact ⟨by simpa using h1, by simpa using h2, rfl⟩
  ·rename_i h2; simp at h2; exact absurd h h2
 ·rename_i h1; simp at h1; exact absurd h h1
theorem ch_q_ok {k : Int} {s : Ty} {a : Fm} (h : (fmQ k s a).ch.2 = 0) : a.ch.2 = 0 ∧ (fmQ k s a).ch.1 = chCase k s [a.ch.1] := by
 rw [ch_q] at h ⊢
 split at h
 ·rename_i h1
  rw [if_pos h1, sized_eq h]
  exact ⟨by simpa using h1, rfl⟩
 ·rename_i h1; simp at h1; exact absurd h h1
theorem ch_TyG {f : Fm} (h : FmG false f) (e : f.ch.2 = 0) : TyG f.ch.1.1 ∧ TyG f.ch.1.2 := by
 rcases h.ch with ⟨_, a, b⟩ | h4
 ·exact ⟨a, b⟩
 ·rw [e] at h4; cases h4
theorem look_ch {f : Fm} (h : FmG false f) (hz : fmSz f ≤ 4096) : f.look = f.ch := by
 have he := h.err_val (by omega)
 rw [if_pos hz] at he
 unfold Fm.look
 rw [he, h.uni]; rfl
theorem mTwo_sz {k : Int} {x y : Fm × Int} (h : (mTwo k x y).2 = 0) : (fmTwo k x.1 y.1).szW ≤ 4096 := by
 unfold mTwo at h
 split at h
 ·rename_i h1; rw [h] at h1; simp at h1
 ·split at h
  ·rename_i h1; rw [h] at h1; simp at h1
  ·split at h
   ·cases h
   ·rename_i h3; simpa using h3
theorem mWith_ok {r : Fm → Tm → Tm → Fm × Int} {b : Fm} {x w c : Tm} (h : (mWith r b x w c).2 = 0) : x.szW ≤ 4096 ∧ subW (b.grown x) b.qs ≤ 4096 ∧ mWith r b x w c = r (b.sp x) w c := by
 unfold mWith at h ⊢
 split at h
 ·cases h
 ·rename_i h1
  rw [if_neg h1]
  rw [Bool.or_eq_true, not_or] at h1
  exact ⟨by simpa using h1.1, by simpa using h1.2, rfl⟩
theorem mOf_size {n : Nat} {f : Fm} {w c : Tm} (h : (mOf (n + 1) f w c).2 = 0) : w.szW ≤ 4096 ∧ c.szW ≤ 4096 := by
 rw [mOf] at h
 split at h
 ·cases h
 ·rename_i h1
  rw [Bool.or_eq_true, not_or] at h1
  exact ⟨by simpa using h1.1, by simpa using h1.2⟩
theorem mOf_else {n : Nat} {f : Fm} {w c : Tm} (h : (mOf (n + 1) f w c).2 = 0) : mOf (n + 1) f w c = if f.kind == 2 then mAnd (mOf n) (f.args.getD 0 zeroF) (f.args.getD 1 zeroF) w c
  else if f.kind == 3 then mImp (mOf n) (f.args.getD 0 zeroF) (f.args.getD 1 zeroF) w c
  else if f.kind == 4 then mAll (mOf n) f.type (f.args.getD 0 zeroF) w c
  else if f.kind == 5 then mEx (mOf n) f.type (f.args.getD 0 zeroF) w c else (f, 0) := by
 rw [mOf] at h ⊢
 split at h
 ·cases h
 ·rename_i h1; rw [if_neg h1]
theorem fleast_mono {M M' : Int} (hM : M ≤ M') {n : Nat} {f : Fm} (h : Shp n f) : f.least M = true → f.least M' = true := by
 induction h with
 | eq _ _ => intro hl; obtain ⟨l1, l2⟩ := fleast_eq.1 hl; exact fleast_eq.2 ⟨least_mono hM _ l1, least_mono hM _ l2⟩
 | two _ _ _ h1 h2 => intro hl; obtain ⟨l1, l2⟩ := fleast_parts2 hl; exact fleast_two (h1 l1) (h2 l2)
 | q _ _ _ h1 => intro hl; exact least_q (h1 (fleast_part hl))
theorem fdp_mapx {g : Fm → Fm} : ∀ l : List Fm, (∀ x ∈ l, fdp (g x) = fdp x) → fdpL (l.map g) = fdpL l
 | [], _ => rfl
 | x :: l, h => by rw [List.map_cons, fdpL, fdpL, h x (by simp), fdp_mapx l (fun y hy => h y (by simp [hy]))]
theorem fdp_evx {F : Tm → Int → Tm} : ∀ (f : Fm) (b : Int), fdp (f.ev F b) = fdp f := by
 intro f
 induction f using Fm.ind with | h f ih => ?_
 intro b
 rw [Fm.ev_eq]
 cases f with | mk k t l a =>
 rw [fdp, fdp]
 simp only [Fm.args] at ih ⊢
 rw [fdp_mapx a (fun x hx => ih x hx _)]
/-- What is kept of a term on the way. -/
structure TmOk (L : Int) (g : List Ty) (t : Tm) (s : Ty) : Prop where
 gd : TmG t
 sz : tmSz t ≤ 20000
 l : t.least L = true
 ty : HasTy TyF g t s
theorem TmOk.cut {L : Int} {g : List Ty} {t : Tm} {s : Ty} (h : TmOk L g t s) (hz : t.szW ≤ 4096) : tmSz t ≤ 4096 := by
 have := t.szW_nodes _ (h.gd.nodes_val (by have := h.sz; omega)); omega
theorem chPart_G {k : Int} (hk : k = 11 ∨ k = 12) {a b : Ty} {t : Tm} (h : TmG t) : TmG (chPart k a b t) := by
 unfold chPart
 repeat' split
 ·exact .t0 ar13 rfl
 ·exact h
 ·rcases hk with rfl | rfl
  ·exact .t1 ar11 rfl h
  ·exact .t1 ar12 rfl h
theorem chPart_sz {k : Int} {a b : Ty} {t : Tm} : tmSz (chPart k a b t) ≤ tmSz t + 1 := by
 unfold chPart
 repeat' split
 ·rw [tmSz_0]; omega
 ·omega
 ·rw [tmSz_1]; omega
theorem chPart_least {k : Int} {a b : Ty} {t : Tm} {M : Int} (hM : 0 ≤ M) (h : t.least M = true) : (chPart k a b t).least M = true := by
 unfold chPart
 repeat' split
 ·exact least_tm0 hM (by simp)
 ·exact h
 ·exact least_tm0 hM (by simp [h])
theorem TmOk.part {L : Int} (hL : 0 ≤ L) {g : List Ty} {t : Tm} {a b : Ty} (h : TmOk L g t (chPair a b)) (hz : tmSz t ≤ 19000) (ha : TyF a) (hb : TyF b) : TmOk L g (chPart 11 a b t) a ∧ TmOk L g (chPart 12 b a t) b := by
 obtain ⟨h1, h2⟩ := chPart_ty hb h.ty ha
 exact ⟨⟨chPart_G (.inl rfl) h.gd, by have := chPart_sz (k := 11) (a := a) (b := b) (t := t); omega, chPart_least hL h.l, h1⟩,
  ⟨chPart_G (.inr rfl) h.gd, by have := chPart_sz (k := 12) (a := b) (b := a) (t := t); omega, chPart_least hL h.l, h2⟩⟩
theorem TmOk.call {L : Int} (hL : 0 ≤ L) {g : List Ty} {f t : Tm} {a b : Ty} (hf : TmOk L g f (chFun a b)) (h : TmOk L g t a) (hz : tmSz f + tmSz t ≤ 19000) (hb : TyF b) : TmOk L g (chCall a b f t) b :=
 ⟨chCall_G hf.gd h.gd, by have := chCall_sz (a := a) (b := b) (f := f) (t := t); omega, chCall_least hL hf.l h.l, chCall_ty hb hf.ty h.ty⟩
structure Good (g : List Ty) (m : Fm) : Prop where
 ty : FmTy TyF g m
 gd : FmG false m
 sz : fmSz m ≤ 4096
 fr : m.mfree = true
theorem mfree_eq {x y : Tm} : (fmEq x y).mfree = true := by rw [fmEq, Fm.mfree, Fm.mfreeL_nil]; rfl
theorem mfree_two {k : Int} (hk : k = 2 ∨ k = 3) {a b : Fm} (h1 : a.mfree = true) (h2 : b.mfree = true) : (fmTwo k a b).mfree = true := by
 rw [fmTwo, Fm.mfree, Fm.mfreeL_cons, Fm.mfreeL_cons, Fm.mfreeL_nil, h1, h2]
 rcases hk with rfl | rfl <;> rfl
theorem two_good {k : Int} (hk : k = 2 ∨ k = 3) {g : List Ty} {x y : Fm × Int} (h : (mTwo k x y).2 = 0) (hx : x.2 = 0 → Good g x.1) (hy : y.2 = 0 → Good g y.1) : Good g (mTwo k x y).1 := by
 obtain ⟨e1, e2, e3⟩ := mTwo_ok h
 have hs := mTwo_sz h
 have gx := hx e1
 have gy := hy e2
 rw [e3]
 have gg : FmG false (fmTwo k x.1 y.1) := .two hk gx.gd gy.gd
 have z1 := gx.sz
 have z2 := gy.sz
 refine ⟨.two hk gx.ty gy.ty, gg, ?_, mfree_two hk gx.fr gy.fr⟩
 have := Fm.szW_nodes _ _ (gg.nodes_val (by rw [fmSz_two]; omega))
 omega
/-- The corner in which sizes need more than the check. -/
def Corner (f : Fm) (w c : Tm) : Prop := ∀ k s a, f = fmQ k s a → QQE a → fmSz a + fmOcc a 0 * (max (tmSz w) (tmSz c)) ≤ 4096
theorem mOf_good : ∀ (n : Nat), n ≤ 3 → ∀ (N : Nat) (f : Fm) (g : List Ty) (w c : Tm) (L : Int), Shp n f → fdp f ≤ N → ArgsOk f → fmSz f ≤ 8200 → (n = 3 → Corner f w c) → f.ch.2 = 0 → FmTy TyF g f → g.length ≤ 100 →
  0 ≤ L → L + (n : Int) * 1000000 ≤ 300000000 → f.least L = true → TmOk L g w f.ch.1.1 → TmOk L g c f.ch.1.2 → (mOf N f w c).2 = 0 → Good g (mOf N f w c).1 := by
 intro n
 induction n with
 | zero =>
  intro hn N f g w c L hS hN hA hz hC hch hT hg hL0 hL hl hw hc h
  obtain ⟨N, rfl⟩ : ∃ M, N = M + 1 := ⟨N - 1, by have := fdp_pos f; omega⟩
  cases hS with
  | @eq _ x y hx hy =>
   rw [mOf_else h]
   exact ⟨hT, .eq hx hy, hA.2 rfl, mfree_eq⟩
 | succ n ih =>
  intro hn N f g w c L hS hN hA hz hC hch hT hg hL0 hL hl hw hc h
  obtain ⟨N, rfl⟩ : ∃ M, N = M + 1 := ⟨N - 1, by have := fdp_pos f; omega⟩
  obtain ⟨sw, sc⟩ := mOf_size h
  have zw := hw.cut sw
  have zc := hc.cut sc
  have hm := mOf_else h
  rw [hm] at h ⊢
  clear hm
  have ih' := ih (by omega)
  cases hS with
  | @eq _ x y hx hy => exact ⟨hT, .eq hx hy, hA.2 rfl, mfree_eq⟩
  | @two _ k a b hk h1 h2 =>
   obtain ⟨ca, cb, cc⟩ := ch_two_ok hch
   have za := hA.1 a (by simp [fmTwo, Fm.args])
   have zb := hA.1 b (by simp [fmTwo, Fm.args])
   rw [fmSz_two] at hz
   rw [fdp_two] at hN
   obtain ⟨la, lb⟩ := fleast_parts2 hl
   have ta : FmTy TyF g a ∧ FmTy TyF g b := by cases hT with | two _ a b => exact ⟨a, b⟩
   have Ga := ch_TyG h1.G ca
   have Gb := ch_TyG h2.G cb
   have ea := look_ch h1.G za
   have eb := look_ch h2.G zb
   have sub : ∀ (x : Fm), fmSz x ≤ 4096 → ArgsOk x := fun x hx => ⟨fun y hy => by
    have : fmSz y ≤ fmSz x := by
     cases x with | mk k t l a =>
     rw [fmSz]
     have : ∀ {l : List Fm} {y : Fm}, y ∈ l → fmSz y ≤ fmSzL l := fun {l} {y} => by
      intro h
      induction l with
      | nil => cases h
      | cons z l ih => rw [fmSzL]; rcases List.mem_cons.1 h with rfl | h; omega; have := ih h; omega
     have := this (show y ∈ a from hy); omega
    omega, fun _ => hx⟩
   have Ia := ih' N a g
   have Ib := ih' N b g
   rw [cc] at hw hc
   rcases hk with rfl | rfl
   ·obtain ⟨w1, w2⟩ := hw.part (a := a.ch.1.1) (b := b.ch.1.1) hL0 (by omega) Ga.1.1 Gb.1.1
    obtain ⟨c1, c2⟩ := hc.part (a := a.ch.1.2) (b := b.ch.1.2) hL0 (by omega) Ga.2.1 Gb.2.1
    change (mAnd (mOf N) a b w c).2 = 0 at h
    show Good g (mAnd (mOf N) a b w c).1
    unfold mAnd at h ⊢
    rw [ea, eb] at h ⊢
    refine two_good (.inl rfl) h (fun e => Ia _ _ L h1 (by omega) (sub a za) (by omega) (fun e => by omega) ca ta.1 hg hL0 (by omega) la w1 c1 e)
     (fun e => Ib _ _ L h2 (by omega) (sub b zb) (by omega) (fun e => by omega) cb ta.2 hg hL0 (by omega) lb w2 c2 e)
   ·have Fan : TyF (chFun a.ch.1.1 (chFun b.ch.1.2 a.ch.1.2)) := chFun_F Ga.1.1 (chFun_F Gb.2.1 Ga.2.1)
    have Ffn : TyF (chFun a.ch.1.1 b.ch.1.1) := chFun_F Ga.1.1 Gb.1.1
    obtain ⟨w1, w2⟩ := hw.part (a := chFun a.ch.1.1 b.ch.1.1) (b := chFun a.ch.1.1 (chFun b.ch.1.2 a.ch.1.2)) hL0 (by omega) Ffn Fan
    obtain ⟨c1, c2⟩ := hc.part (a := a.ch.1.1) (b := b.ch.1.2) hL0 (by omega) Ga.1.1 Gb.2.1
    have y1 := chPart_sz (k := 11) (a := chFun a.ch.1.1 b.ch.1.1) (b := chFun a.ch.1.1 (chFun b.ch.1.2 a.ch.1.2)) (t := w)
    have y2 := chPart_sz (k := 12) (a := chFun a.ch.1.1 (chFun b.ch.1.2 a.ch.1.2)) (b := chFun a.ch.1.1 b.ch.1.1) (t := w)
    have y3 := chPart_sz (k := 11) (a := a.ch.1.1) (b := b.ch.1.2) (t := c)
    have y4 := chPart_sz (k := 12) (a := b.ch.1.2) (b := a.ch.1.1) (t := c)
    have z1 := w2.call hL0 c1 (by omega) (chFun_F Gb.2.1 Ga.2.1)
    have y5 := chCall_sz (a := a.ch.1.1) (b := chFun b.ch.1.2 a.ch.1.2) (f := chPart 12 (chFun a.ch.1.1 (chFun b.ch.1.2 a.ch.1.2)) (chFun a.ch.1.1 b.ch.1.1) w) (t := chPart 11 a.ch.1.1 b.ch.1.2 c)
    have z2 := z1.call hL0 c2 (by omega) Ga.2.1
    have z3 := w1.call hL0 c1 (by omega) Gb.1.1
    change (mImp (mOf N) a b w c).2 = 0 at h
    show Good g (mImp (mOf N) a b w c).1
    unfold mImp at h ⊢
    rw [ea, eb] at h ⊢
    refine two_good (.inr rfl) h (fun e => Ia _ _ L h1 (by omega) (sub a za) (by omega) (fun e => by omega) ca ta.1 hg hL0 (by omega) la c1 z2 e)
     (fun e => Ib _ _ L h2 (by omega) (sub b zb) (by omega) (fun e => by omega) cb ta.2 hg hL0 (by omega) lb z3 c2 e)
  | @q _ k s a hk hs h1 =>
   obtain ⟨ca, cc⟩ := ch_q_ok hch
   have za := hA.1 a (by simp [fmQ, Fm.args])
   have Ga := ch_TyG h1.G ca
   have ea := look_ch h1.G za
   have la := fleast_part hl
   have ta : FmTy TyF (g ++ [s]) a := by cases hT with | q _ a => exact a
   have hfd : fdp a ≤ N := by rw [fmQ, fdp, fdpL, fdpL] at hN; omega
   -- the step with a term put in
   have step : ∀ (x w' c' : Tm), TmOk L g x s → TmOk L g w' a.ch.1.1 → TmOk L g c' a.ch.1.2 → tmSz x ≤ max (tmSz w) (tmSz c) + 1 → (mWith (mOf N) a x w' c').2 = 0 → Good g (mWith (mOf N) a x w' c').1 := by
    intro x w' c' hx hw' hc' hxz hh
    obtain ⟨s1, s2, s3⟩ := mWith_ok hh
    rw [s3] at hh ⊢
    have zx := hx.cut s1
    have esp : a.sp x = fmInn x 0 a 0 := fsp_inn hx.gd (by omega) (least_mono (by omega) _ hx.l) h1.G 0 (by omega) (by omega)
    rw [esp] at hh ⊢
    have hsz := h1.G.inn_sz (s := x) 0 (by omega) (by omega)
    have hqr := qs_range h1.G (by omega)
    have hpos := tmSz_pos x
    have hgr : a.grown x = (fmSz (fmInn x 0 a 0) : Int) := by
     unfold Fm.grown
     rw [x.szW_nodes _ (hx.gd.nodes_val (by omega)), a.szW_nodes _ (h1.G.nodes_val (by omega))]
     have e1 : subW (tmSz x : Int) 1 = ((tmSz x - 1 : Nat) : Int) := by rw [subW_eq (by omega) (by omega) (by omega) (by omega)]; omega
     rw [e1, grown_occ (c := 4096) (by omega) h1.G 0 _ (by omega) (by omega) (by omega), hsz]
    have hmul : fmOcc a 0 * (tmSz x - 1) ≤ 4096 * 4096 := Nat.mul_le_mul (by have := fmOcc_le a 0; omega) (by omega)
    rw [hgr, subW_eq (by omega) (by omega) (by omega) (by omega)] at s2
    have hAr := argsOk_inn (x := x) (by omega) h1 za (by omega) (fun hq => by
     obtain ⟨k1, s1', k2, s2', u, v, e⟩ := hq
     have hn2 : n = 2 := by
      subst e
      cases h1 with
      | q _ _ h2 => cases h2 with
       | q _ _ h3 => omega
     have := hC (by omega) k s a rfl ⟨k1, s1', k2, s2', u, v, e⟩
     have hm2 : fmOcc a 0 * (tmSz x - 1) ≤ fmOcc a 0 * (max (tmSz w) (tmSz c)) := Nat.mul_le_mul_left _ (by omega)
     omega)
    have hl' := fleast_inn hL0 (by omega) hx.gd hx.l h1 la 0 (by omega) (by omega)
    have up : ∀ {t : Tm} {ty : Ty}, TmOk L g t ty → TmOk (L + 1000000) g t ty := fun h => ⟨h.gd, h.sz, least_mono (by omega) _ h.l, h.ty⟩
    have hty := ta.inn g [] (by simp) hx.ty (by simp; omega) (by omega)
    rw [List.append_nil] at hty
    refine ih' N _ g w' c' (L + 1000000) (h1.inn hx.gd (least_mono (by omega) _ hx.l) (by
     exact fleast_mono (M := L) (M' := 536870912) (by omega) h1 la) 0 (by omega) (by omega)) (by rw [← esp, Fm.sp, fdp_evx]; exact hfd) hAr (by omega) (fun e => by omega) (by rw [ch_inn]; exact ca) hty hg (by omega) (by omega) hl' (by rw [ch_inn]; exact up hw') (by rw [ch_inn]; exact up hc') hh
   rw [cc] at hw hc
   rcases hk with rfl | rfl
   ·obtain ⟨c1, c2⟩ := hc.part (a := s) (b := a.ch.1.2) hL0 (by omega) hs.1 Ga.2.1
    have y3 := chPart_sz (k := 11) (a := s) (b := a.ch.1.2) (t := c)
    have w1 := TmOk.call (a := s) (b := a.ch.1.1) hL0 hw c1 (by omega) Ga.1.1
    change (mAll (mOf N) s a w c).2 = 0 at h
    show Good g (mAll (mOf N) s a w c).1
    unfold mAll at h ⊢
    rw [ea] at h ⊢
    exact step _ _ _ c1 w1 c2 (by omega) h
   ·obtain ⟨w1, w2⟩ := hw.part (a := s) (b := a.ch.1.1) hL0 (by omega) hs.1 Ga.1.1
    have y3 := chPart_sz (k := 11) (a := s) (b := a.ch.1.1) (t := w)
    change (mEx (mOf N) s a w c).2 = 0 at h
    show Good g (mEx (mOf N) s a w c).1
    unfold mEx at h ⊢
    rw [ea] at h ⊢
    exact step _ _ _ w1 w2 hc (by omega) h
theorem argsOk_of {x : Fm} (hx : fmSz x ≤ 4096) : ArgsOk x := ⟨fun y hy => by
  have key : ∀ {l : List Fm} {y : Fm}, y ∈ l → fmSz y ≤ fmSzL l := fun {l} {y} => by
   intro h
   induction l with
   | nil => cases h
   | cons z l ih => rw [fmSzL]; rcases List.mem_cons.1 h with rfl | h; omega; have := ih h; omega
  have : fmSz y ≤ fmSz x := by
   cases x with | mk k t l a =>
   rw [fmSz]
   have := key (show y ∈ a from hy); omega
  omega, fun _ => hx⟩
theorem mk_q_inv {n : Nat} {g : List Ty} {k : Int} {s : Ty} {a : Fm} (h : MkFm false (n + 1) g (fmQ k s a)) : MkTy 0 s ∧ MkFm false n (g ++ [s]) a ∧ (k = 4 ∨ k = 5) := by
 cases h with
 | q hk hs ha =>
  refine ⟨hs, ha, ?_⟩
  rcases hk with h | h | ⟨h, _⟩
  ·exact .inl h
  ·exact .inr h
  ·cases h
theorem mk_eq_inv {n : Nat} {g : List Ty} {x y : Tm} (h : MkFm false n g (fmEq x y)) : MkTm 1 g tNat x ∧ MkTm 1 g tNat y := by
 cases h with
 | eq h1 h2 => exact ⟨h1, h2⟩
theorem ch_q_sz {k : Int} (hk : k = 4 ∨ k = 5) {s : Ty} {a : Fm} {z : Nat} (h : (fmQ k s a).ch.2 = 0) (hs : tySz s = 1) (h1 : tySz a.ch.1.1 ≤ z) (h2 : tySz a.ch.1.2 ≤ z) :
  tySz (fmQ k s a).ch.1.1 ≤ z + 2 ∧ tySz (fmQ k s a).ch.1.2 ≤ z + 2 := by
 rw [(ch_q_ok h).2]
 rcases hk with rfl | rfl
 ·show tySz (chFun s a.ch.1.1) ≤ _ ∧ tySz (chPair s a.ch.1.2) ≤ _
  have := chFun_sz (a := s) (b := a.ch.1.1)
  have := chPair_sz (a := s) (b := a.ch.1.2)
  omega
 ·show tySz (chPair s a.ch.1.1) ≤ _ ∧ tySz a.ch.1.2 ≤ _
  have := chPair_sz (a := s) (b := a.ch.1.1)
  omega
/-- The law of MatrixFree: a matrix is typed, has no quantifiers, and is small. -/
theorem law_matFree {g : List Ty} {f : Fm} {w c : Tm} (hm : MkFm false 3 g f) (hg : ∀ y ∈ g, MkTy 1 y) (hgl : g.length ≤ 10) (ok : f.look.2 = 0)
  (mw : MkTm 2 g f.look.1.1 w) (mc : MkTm 2 g f.look.1.2 c) : (matF f w c).2 = 4 ∨ ((matF f w c).2 = 0 ∧ Good g (matF f w c).1) := by
 have hgG : ∀ y ∈ g, TyG y := fun y hy => (hg y hy).G (by omega)
 have hgF : ∀ y ∈ g, TyF y := fun y hy => (hg y hy).F
 have hg3 : ∀ y ∈ g, tySz y ≤ 3 := fun y hy => (hg y hy).sz1
 have hG := hm.G hgG
 rcases hG.look with ⟨he, el, e0, g1, g2⟩ | e4
 case inr => rw [ok] at e4; cases e4
 have hsz : fmSz f ≤ 4096 := by
  rcases Nat.lt_or_ge 4096 (fmSz f) with h | h
  ·exfalso
   have hz := hm.sz hg3
   rw [hG.err_val (by have : 2 ^ 3 = 8 := rfl; omega), if_neg (by omega)] at he
   cases he
  ·exact h
 rw [el] at mw mc
 have b2 : bndT 64 2 = 1888 := rfl
 have hg64 : ∀ y ∈ g, tySz y ≤ 64 := fun y hy => by have := hg3 y hy; omega
 have zw := (mw.sz (M := 64) (by omega) hg64 g1.2).1
 have zc := (mc.sz (M := 64) (by omega) hg64 g2.2).1
 have lf := hm.least (m := 10000) (by omega) hg3 (by omega)
 have lw := mw.least (M := 64) (m := 10000) (by omega) (by omega) hg64 g1.2 (by have := g1.2; omega)
 have lc := mc.least (M := 64) (m := 10000) (by omega) (by omega) hg64 g2.2 (by have := g2.2; omega)
 have Gw := mw.G hgG g1
 have Gc := mc.G hgG g2
 have hS := Shp.of hm hgG
 have ow : TmOk 10000 g w f.ch.1.1 := ⟨Gw, by omega, by simpa using lw, mw.tyF hgF g1.1⟩
 have oc : TmOk 10000 g c f.ch.1.2 := ⟨Gc, by omega, by simpa using lc, mc.tyF hgF g2.1⟩
 rcases matF_code ok (fleast_mono (M := 10000) (by omega) hS (by simpa using lf)) (least_mono (by omega) _ ow.l) (least_mono (by omega) _ oc.l) (Gw.err04 (by omega)) (Gc.err04 (by omega)) with h4 | ⟨h0, hq⟩
 ·exact .inl h4
 ·right
  refine ⟨h0, ?_⟩
  rw [hq] at h0 ⊢
  refine mOf_good 3 (by omega) _ f g w c 10000 hS (Nat.le_refl _) (argsOk_of hsz) (by omega) (fun _ => ?_) e0 (hm.tyF hgF) (by omega) (by omega) (by omega) (by simpa using lf) ow oc h0
  rintro k s a rfl ⟨k1, s1, k2, s2, x, y, rfl⟩
  obtain ⟨m1, h1, hk⟩ := mk_q_inv hm
  obtain ⟨m2, h2, hk1⟩ := mk_q_inv h1
  obtain ⟨m3, h3, hk2⟩ := mk_q_inv h2
  obtain ⟨hx, hy⟩ := mk_eq_inv h3
  have hctx : ∀ z ∈ g ++ [s] ++ [s1] ++ [s2], MkTy 1 z := by
   intro z hz
   simp only [List.mem_append, List.mem_singleton] at hz
   rcases hz with ((hz | rfl) | rfl) | rfl
   ·exact hg z hz
   ·exact m1.up (by omega)
   ·exact m2.up (by omega)
   ·exact m3.up (by omega)
  obtain ⟨x1, x2⟩ := hx.one hctx
  obtain ⟨y1, y2⟩ := hy.one hctx
  have q1 := (ch_q_ok e0).1
  have q2 := (ch_q_ok q1).1
  have t0 : tySz (fmEq x y).ch.1.1 ≤ 1 ∧ tySz (fmEq x y).ch.1.2 ≤ 1 := by rw [ch_eqn]; exact ⟨by rw [tySz_unit]; omega, by rw [tySz_unit]; omega⟩
  have t1 := ch_q_sz hk2 q2 m3.sz0 t0.1 t0.2
  have t2 := ch_q_sz hk1 q1 m2.sz0 t1.1 t1.2
  have t3 := ch_q_sz hk e0 m1.sz0 t2.1 t2.2
  have b7 : bndT 7 2 = 349 := rfl
  have hg7 : ∀ y ∈ g, tySz y ≤ 7 := fun y hy => by have := hg3 y hy; omega
  have zw7 := (mw.sz (M := 7) (by omega) hg7 (by omega)).1
  have zc7 := (mc.sz (M := 7) (by omega) hg7 (by omega)).1
  have oq : ∀ {k : Int} (hk : k = 4 ∨ k = 5) {t : Ty} {z : Fm} {d : Int}, fmOcc (fmQ k t z) d = fmOcc z (d + 1) := fun hk => fmOcc_q (by rcases hk with h | h; exact .inl h; exact .inr (.inl h))
  rw [fmSz_q, fmSz_q, fmSz_eq, oq hk1, oq hk2, fmOcc_eq]
  have o1 := x2 (0 + 1 + 1) (by omega)
  have o2 := y2 (0 + 1 + 1) (by omega)
  have : (tmOcc x (0 + 1 + 1) + tmOcc y (0 + 1 + 1)) * max (tmSz w) (tmSz c) ≤ 6 * 349 := Nat.mul_le_mul (by omega) (by omega)
  omega
end GoAbs
namespace GoAbs
open Go
mutual
def pUp (b : Int) : Tm → Int → Tm
 | .mk k i t l, c => .mk k (if k == 1 && decide (i ≥ c) then i + b else i) t (pUpL b l (c + tmBelow k))
def pUpL (b : Int) : List Tm → Int → List Tm
 | [], _ => []
 | t :: l, c => pUp b t c :: pUpL b l c
end
theorem pUpL_map {b : Int} : ∀ (l : List Tm) (c : Int), pUpL b l c = l.map fun t => pUp b t c
 | [], c => by simp [pUpL]
 | t :: l, c => by simp [pUpL, pUpL_map l c]
mutual
def pIn (s : Tm) : Tm → Int → Tm
 | .mk k i t l, e => if k == 1 then (if i == e then pUp e s 0 else if decide (i > e) then tmVar (i - 1) else .mk k i t l)
  else .mk k i t (pInL s l (e + tmBelow k))
def pInL (s : Tm) : List Tm → Int → List Tm
 | [], _ => []
 | t :: l, e => pIn s t e :: pInL s l e
end
theorem pInL_map {s : Tm} : ∀ (l : List Tm) (e : Int), pInL s l e = l.map fun t => pIn s t e
 | [], e => by simp [pInL]
 | t :: l, e => by simp [pInL, pInL_map l e]
theorem pUp_var {b i c : Int} : pUp b (tmVar i) c = tmVar (if i ≥ c then i + b else i) := by
 rw [tmVar, pUp, pUpL_map]
 by_cases h : i ≥ c <;> simp [tmVar, h]
theorem pUp_node {b k c : Int} {t : Ty} {l : List Tm} (hk : k ≠ 1) : pUp b (tmT k t l) c = tmT k t (l.map fun x => pUp b x (c + tmBelow k)) := by
 have : (k == 1) = false := by simpa using hk
 rw [tmT, pUp, pUpL_map, this]; rfl
theorem pIn_var {s : Tm} {i e : Int} : pIn s (tmVar i) e = if i = e then pUp e s 0 else if i > e then tmVar (i - 1) else tmVar i := by
 rw [tmVar, pIn]
 by_cases h : i = e
 ·simp [h]
 ·by_cases h' : i > e <;> simp [h, h', tmVar]
theorem pIn_node {s : Tm} {k e : Int} {t : Ty} {l : List Tm} (hk : k ≠ 1) : pIn s (tmT k t l) e = tmT k t (l.map fun x => pIn s x (e + tmBelow k)) := by
 have : (k == 1) = false := by simpa using hk
 rw [tmT, pIn, pInL_map, this]; rfl
theorem below_nn (k : Int) : 0 ≤ tmBelow k ∧ tmBelow k ≤ 1 := by unfold tmBelow; split <;> omega
theorem TmG.nd {P : (t : Tm) → TmG t → Prop} (hv : ∀ i (hi : 0 ≤ i), P (tmVar i) (.var hi))
  (hn : ∀ (k : Int) (t : Ty) (l : List Tm) (_ : k ≠ 1) (hl : ∀ x ∈ l, TmG x) (ht : TmG (tmT k t l)), (∀ x (hx : x ∈ l), P x (hl x hx)) → P (tmT k t l) ht) {t : Tm} (h : TmG t) : P t h := by
 induction h with
 | @plain k l a ha hl ht h ih =>
  by_cases hk : k = 1
  ·subst hk
   have : a = 0 := by simp [arity, arities] at ha; omega
   subst this
   have : l = [] := by cases l with
    | nil => rfl
    | cons x l => simp at hl; omega
   subst this
   exact hv 0 (by omega)
  ·exact hn k (.mk 0 []) l hk h _ ih
 | var hi => exact hv _ hi
 | @typd k t l a ha hl ht hg h ih =>
  refine hn k t l ?_ h _ ih
  intro e; subst e; simp [typed] at ht
theorem map_eq {f g : Tm → Tm} {l : List Tm} (h : ∀ x ∈ l, f x = g x) : l.map f = l.map g := List.map_congr_left h
theorem pUp_up {a b : Int} (hb : 0 ≤ b) {t : Tm} (h : TmG t) : ∀ c c' : Int, c' ≤ c → c ≤ c' + b → pUp a (pUp b t c') c = pUp (b + a) t c' := by
 induction h using TmG.nd with
 | hv i hi =>
  intro c c' h1 h2
  rw [pUp_var, pUp_var, pUp_var]
  congr 1
  split <;> split <;> omega
 | hn k t l hk hl _ ih =>
  intro c c' h1 h2
  rw [pUp_node hk, pUp_node hk, pUp_node hk, List.map_map]
  congr 1
  exact map_eq fun x hx => ih x hx _ _ (by omega) (by omega)
theorem pUp_in {b : Int} (hb : 0 ≤ b) {s : Tm} (hs : TmG s) {t : Tm} (h : TmG t) : ∀ c e : Int, 0 ≤ c → c ≤ e → pUp b (pIn s t e) c = pIn s (pUp b t c) (e + b) := by
 induction h using TmG.nd with
 | hv i hi =>
  intro c e h0 h1
  rw [pIn_var, pUp_var, pIn_var]
  by_cases h2 : i = e
  ·rw [if_pos h2, if_pos (show i ≥ c by omega), if_pos (by omega), pUp_up (by omega) hs c 0 h0 (by omega)]
  ·rw [if_neg h2]
   by_cases h3 : i > e
   ·rw [if_pos h3, pUp_var, if_pos (show i - 1 ≥ c by omega), if_pos (show i ≥ c by omega), if_neg (by omega), if_pos (by omega)]
    congr 1; omega
   ·rw [if_neg h3, pUp_var]
    by_cases h4 : i ≥ c
    ·rw [if_pos h4, if_neg (by omega), if_neg (by omega)]
    ·rw [if_neg h4, if_neg (by omega), if_neg (by omega)]
 | hn k t l hk hl _ ih =>
  intro c e h0 h1
  have hz := below_nn k
  rw [pIn_node hk, pUp_node hk, pUp_node hk, pIn_node hk, List.map_map, List.map_map]
  congr 1
  refine map_eq fun x hx => ?_
  have := ih x hx (c + tmBelow k) (e + tmBelow k) (by omega) (by omega)
  simp only [Function.comp_apply]
  rw [this]
  congr 1; omega
theorem pIn_up {b : Int} {x : Tm} {t : Tm} (h : TmG t) : ∀ c e : Int, c ≤ e → e ≤ c + b → pIn x (pUp (b + 1) t c) e = pUp b t c := by
 induction h using TmG.nd with
 | hv i hi =>
  intro c e h1 h2
  rw [pUp_var, pIn_var, pUp_var]
  by_cases h3 : i ≥ c
  ·rw [if_pos h3, if_pos h3, if_neg (by omega), if_pos (by omega)]
   congr 1; omega
  ·rw [if_neg h3, if_neg h3, if_neg (by omega), if_neg (by omega)]
 | hn k t l hk hl _ ih =>
  intro c e h1 h2
  rw [pUp_node hk, pIn_node hk, pUp_node hk, List.map_map]
  congr 1
  exact map_eq fun y hy => ih y hy _ _ (by omega) (by omega)
/-- Putting in twice. -/
theorem pIn_in {s x : Tm} (hs : TmG s) (hx : TmG x) {t : Tm} (h : TmG t) : ∀ d : Int, 0 ≤ d → pIn s (pIn x t d) d = pIn (pIn s x 0) (pIn s t (d + 1)) d := by
 induction h using TmG.nd with
 | hv i hi =>
  intro d hd
  rw [pIn_var, pIn_var (i := i) (e := d + 1)]
  by_cases h1 : i = d
  ·rw [if_pos h1, if_neg (by omega), if_neg (by omega), pIn_var, if_pos h1]
   have := pUp_in hd hs hx 0 0 (by omega) (by omega)
   rw [this]; congr 1; omega
  ·rw [if_neg h1]
   by_cases h2 : i = d + 1
   ·rw [if_pos (show i > d by omega), if_pos h2, pIn_var, if_pos (by omega), pIn_up hs 0 d hd (by omega)]
   ·by_cases h3 : i > d + 1
    ·rw [if_pos (show i > d by omega), if_neg h2, if_pos h3, pIn_var, pIn_var, if_neg (by omega), if_pos (by omega), if_neg (by omega)]
    ·rw [if_neg (show ¬ i > d by omega), if_neg h2, if_neg h3, pIn_var, pIn_var, if_neg h1, if_neg (by omega), if_neg h1]
 | hn k t l hk hl _ ih =>
  intro d hd
  have hz := below_nn k
  rw [pIn_node hk, pIn_node hk, pIn_node hk, pIn_node hk, List.map_map, List.map_map]
  congr 1
  refine map_eq fun y hy => ?_
  have := ih y hy (d + tmBelow k) (by omega)
  simp only [Function.comp_apply]
  rw [this]
  congr 2; omega
end GoAbs
namespace GoAbs
open Go
theorem up_p {b : Int} (hb0 : 0 ≤ b) (hb : b ≤ 100000000000) {t : Tm} (h : TmG t) : ∀ c : Int, t.least 1000000000 = true → 0 ≤ c → c + tmSz t ≤ 100000000000 → t.up b c = pUp b t c := by
 induction h using TmG.nd with
 | hv i hi =>
  intro c hl hc hz
  rw [tmVar, Tm.least_eq, Bool.and_eq_true] at hl
  have hi2 : i ≤ 1000000000 := of_decide_eq_true hl.1
  rw [pUp_var, tmVar, Tm.up, Tm.upL, addW_eq (by omega) (by omega) (by omega) (by omega)]
  by_cases h1 : i ≥ c <;> simp [tmVar, h1]
 | hn k t l hk hl _ ih =>
  intro c hle hc hz
  have hz' : tmSz (tmT k t l) = tmSzL l + 1 := by rw [tmT, tmSz]
  rw [tmT, Tm.least, Bool.and_eq_true] at hle
  have hr := below_nn k
  have hkb : (k == 1) = false := by simpa using hk
  rw [pUp_node hk, tmT, Tm.up, Tm.upL_map, hkb, show addW c (tmBelow k) = c + tmBelow k from addW_eq (by omega) (by omega) (by omega) (by omega)]
  simp only [Bool.false_and, Bool.false_eq_true, if_false, tmT]
  congr 1
  refine map_eq fun x hx => ih x hx _ (Tm.leastL_iff.1 hle.2 x hx) (by omega) ?_
  have := tmSzL_mem hx
  omega
theorem inn_p {s : Tm} (hs : TmG s) (ls : s.least 1000000000 = true) (zs : tmSz s ≤ 1000000000) {t : Tm} (h : TmG t) : ∀ d : Int, t.least 1000000000 = true → 0 ≤ d → d + tmSz t ≤ 50000000000 → tmInn s 0 t d = pIn s t d := by
 induction h using TmG.nd with
 | hv i hi =>
  intro d hl hd hz
  rw [tmVar, Tm.least_eq, Bool.and_eq_true] at hl
  have hi2 : i ≤ 1000000000 := of_decide_eq_true hl.1
  have e0 : addW 0 d = d := by rw [addW_eq (by omega) (by omega) (by omega) (by omega)]; omega
  rw [pIn_var, tmVar, tmInn, e0, subW_eq (by omega) (by omega) (by omega) (by omega)]
  by_cases h1 : i = d
  ·simp [h1, up_p hd (by omega) hs 0 ls (by omega) (by omega)]
  ·by_cases h2 : i > d <;> simp [h1, h2, tmVar]
 | hn k t l hk hl _ ih =>
  intro d hle hd hz
  have hz' : tmSz (tmT k t l) = tmSzL l + 1 := by rw [tmT, tmSz]
  rw [tmT, Tm.least, Bool.and_eq_true] at hle
  have hr := below_nn k
  have hkb : (k == 1) = false := by simpa using hk
  rw [pIn_node hk, tmT, tmInn, tmInnL_map, hkb, show addW d (tmBelow k) = d + tmBelow k from addW_eq (by omega) (by omega) (by omega) (by omega)]
  simp only [Bool.false_eq_true, if_false, tmT]
  congr 1
  refine map_eq fun x hx => ih x hx _ (Tm.leastL_iff.1 hle.2 x hx) (by omega) ?_
  have := tmSzL_mem hx
  omega
/-- Putting in twice, for the references' function. -/
theorem inn_inn {L : Int} (hL : 0 ≤ L) (hL2 : L ≤ 500000000) {s x t : Tm} (hs : TmG s) (hx : TmG x) (h : TmG t) (ls : s.least L = true) (lx : x.least L = true) (lt : t.least L = true) (zs : tmSz s ≤ 20000) (zx : tmSz x ≤ 20000) (zt : tmSz t ≤ 20000)
  (d : Int) (hd : 0 ≤ d) (hd2 : d ≤ 20000) : tmInn s 0 (tmInn x 0 t d) d = tmInn (tmInn s 0 x 0) 0 (tmInn s 0 t (d + 1)) d := by
 have m := fun {t : Tm} (M M' : Int) (hM : M ≤ M') (h : t.least M = true) => least_mono hM t h
 have z1 := TmG.inn_sz (s := x) _ h (Nat.le_refl _) d hd (by omega)
 have z2 := TmG.inn_sz (s := s) _ h (Nat.le_refl _) (d + 1) (by omega) (by omega)
 have z3 := TmG.inn_sz (s := s) _ hx (Nat.le_refl _) 0 (by omega) (by omega)
 have o1 := tmOcc_le t d
 have o2 := tmOcc_le t (d + 1)
 have o3 := tmOcc_le x 0
 have b1 : tmOcc t d * (tmSz x - 1) ≤ 20000 * 20000 := Nat.mul_le_mul (by omega) (by omega)
 have b2 : tmOcc t (d + 1) * (tmSz s - 1) ≤ 20000 * 20000 := Nat.mul_le_mul (by omega) (by omega)
 have b3 : tmOcc x 0 * (tmSz s - 1) ≤ 20000 * 20000 := Nat.mul_le_mul (by omega) (by omega)
 have g1 : TmG (tmInn x 0 t d) := TmG.inn hx (m L _ (by omega) lx) _ h (Nat.le_refl _) (m L _ (by omega) lt) d hd (by omega)
 have g2 : TmG (tmInn s 0 t (d + 1)) := TmG.inn hs (m L _ (by omega) ls) _ h (Nat.le_refl _) (m L _ (by omega) lt) (d + 1) (by omega) (by omega)
 have g3 : TmG (tmInn s 0 x 0) := TmG.inn hs (m L _ (by omega) ls) _ hx (Nat.le_refl _) (m L _ (by omega) lx) 0 (by omega) (by omega)
 have l1 : (tmInn x 0 t d).least (L + 1000000) = true := least_inn hL (by omega) hx lx _ h (Nat.le_refl _) lt d hd (by omega)
 have l2 : (tmInn s 0 t (d + 1)).least (L + 1000000) = true := least_inn hL (by omega) hs ls _ h (Nat.le_refl _) lt (d + 1) (by omega) (by omega)
 have l3 : (tmInn s 0 x 0).least (L + 1000000) = true := least_inn hL (by omega) hs ls _ hx (Nat.le_refl _) lx 0 (by omega) (by omega)
 rw [inn_p hs (m L _ (by omega) ls) (by omega) g1 d (m (L + 1000000) _ (by omega) l1) hd (by omega),
  inn_p g3 (m (L + 1000000) _ (by omega) l3) (by omega) g2 d (m (L + 1000000) _ (by omega) l2) hd (by omega),
  inn_p hx (m L _ (by omega) lx) (by omega) h d (m L _ (by omega) lt) hd (by omega),
  inn_p hs (m L _ (by omega) ls) (by omega) hx 0 (m L _ (by omega) lx) (by omega) (by omega),
  inn_p hs (m L _ (by omega) ls) (by omega) h (d + 1) (m L _ (by omega) lt) (by omega) (by omega)]
 exact pIn_in hs hx h d hd
/-- Where a variable does not occur, what is put in for it does not matter. -/
theorem inn_occ0 {s s' : Tm} {t : Tm} (h : TmG t) : ∀ d : Int, 0 ≤ d → d + tmSz t ≤ 1000000 → tmOcc t d = 0 → tmInn s 0 t d = tmInn s' 0 t d := by
 induction h using TmG.nd with
 | hv i hi =>
  intro d hd hz ho
  have e0 : addW 0 d = d := by rw [addW_eq (by omega) (by omega) (by omega) (by omega)]; omega
  rw [tmVar, tmOcc] at ho
  have h1 : (i == d) = false := by
   cases hq : (i == d)
   ·rfl
   ·simp [hq] at ho
  rw [tmVar, tmInn, tmInn, e0, h1]
  rfl
 | hn k t l hk hl _ ih =>
  intro d hd hz ho
  have hz' : tmSz (tmT k t l) = tmSzL l + 1 := by rw [tmT, tmSz]
  have hr := below_nn k
  have hkb : (k == 1) = false := by simpa using hk
  rw [tmT, tmOcc, hkb] at ho
  simp only [Bool.false_eq_true, if_false] at ho
  have hoL : ∀ {l : List Tm} {e : Int}, tmOccL l e = 0 → ∀ x ∈ l, tmOcc x e = 0 := by
   intro l e
   induction l with
   | nil => intro _ x hx; cases hx
   | cons y l ihl =>
    intro h0 x hx
    rw [tmOccL] at h0
    rcases List.mem_cons.1 hx with rfl | hx
    ·omega
    ·exact ihl (by omega) x hx
  rw [tmT, tmInn, tmInnL_map, tmInn, tmInnL_map, hkb, show addW d (tmBelow k) = d + tmBelow k from addW_eq (by omega) (by omega) (by omega) (by omega)]
  simp only [Bool.false_eq_true, if_false]
  congr 1
  refine map_eq fun x hx => ih x hx _ (by omega) ?_ (hoL ho x hx)
  have := tmSzL_mem hx
  omega
/-- The same for formulas. -/
theorem finn_inn {L : Int} (hL : 0 ≤ L) (hL2 : L ≤ 500000000) {s x : Tm} (hs : TmG s) (hx : TmG x) (ls : s.least L = true) (lx : x.least L = true) (zs : tmSz s ≤ 20000) (zx : tmSz x ≤ 20000) {n : Nat} {f : Fm} (h : Shp n f) :
  f.least L = true → fmSz f ≤ 20000 → ∀ d : Int, 0 ≤ d → d + fmSz f ≤ 20000 → fmInn s 0 (fmInn x 0 f d) d = fmInn (tmInn s 0 x 0) 0 (fmInn s 0 f (d + 1)) d := by
 induction h with
 | @eq n u v hu hv =>
  intro hl hz d hd hz2
  obtain ⟨l1, l2⟩ := fleast_eq.1 hl
  rw [fmSz_eq] at hz hz2
  rw [fmInn_eqn, fmInn_eqn, fmInn_eqn, fmInn_eqn, inn_inn hL hL2 hs hx hu ls lx l1 zs zx (by omega) d hd (by omega), inn_inn hL hL2 hs hx hv ls lx l2 zs zx (by omega) d hd (by omega)]
 | @two n k a b hk _ _ h1 h2 =>
  intro hl hz d hd hz2
  obtain ⟨l1, l2⟩ := fleast_parts2 hl
  rw [fmSz_two] at hz hz2
  rw [fmInn_two, fmInn_two, fmInn_two, fmInn_two, below_two hk, addW_zero hd (by omega), addW_zero (by omega) (by omega), h1 l1 (by omega) d hd (by omega), h2 l2 (by omega) d hd (by omega)]
 | @q n k ty a hk hs' _ h1 =>
  intro hl hz d hd hz2
  have l1 := fleast_part hl
  rw [fmSz_q] at hz hz2
  have hr := fmBelow_range k
  rw [fmInn_q, fmInn_q, fmInn_q, fmInn_q, addW_eq (by omega) (by omega) (by omega) (by omega), addW_eq (by omega) (by omega) (by omega) (by omega)]
  have := h1 l1 (by omega) (d + fmBelow k) (by omega) (by omega)
  rw [this, show d + 1 + fmBelow k = d + fmBelow k + 1 by omega]
theorem finn_occ0 {s s' : Tm} {n : Nat} {f : Fm} (h : Shp n f) : ∀ d : Int, 0 ≤ d → d + fmSz f ≤ 100000 → fmOcc f d = 0 → fmInn s 0 f d = fmInn s' 0 f d := by
 induction h with
 | @eq n u v hu hv =>
  intro d hd hz ho
  rw [fmSz_eq] at hz
  rw [fmOcc_eq] at ho
  rw [fmInn_eqn, fmInn_eqn, inn_occ0 (s := s) (s' := s') hu d hd (by omega) (by omega), inn_occ0 (s := s) (s' := s') hv d hd (by omega) (by omega)]
 | @two n k a b hk _ _ h1 h2 =>
  intro d hd hz ho
  rw [fmSz_two] at hz
  rw [fmOcc_two hk] at ho
  rw [fmInn_two, fmInn_two, below_two hk, addW_zero hd (by omega), h1 d hd (by omega) (by omega), h2 d hd (by omega) (by omega)]
 | @q n k ty a hk hs' _ h1 =>
  intro d hd hz ho
  rw [fmSz_q] at hz
  rw [fmOcc_q (by rcases hk with h | h; exact .inl h; exact .inr (.inl h))] at ho
  have hb : fmBelow k = 1 := by rcases hk with rfl | rfl <;> rfl
  rw [fmInn_q, fmInn_q, hb, addW_eq (by omega) (by omega) (by omega) (by omega), h1 (d + 1) (by omega) (by omega) ho]
end GoAbs
namespace GoAbs
open Go
theorem P_tm0 {s : Tm} {k : Int} (h1 : k ≠ 1) (h2 : k ≠ 2) {l : List Tm} : tmInn s 0 (tm0 k l) 0 = tm0 k (l.map fun x => tmInn s 0 x 0) := by
 have e1 : (k == 1) = false := by simpa using h1
 have e2 : addW 0 (tmBelow k) = 0 := by
  have : (k == 2) = false := by simpa using h2
  rw [tmBelow, this]; rfl
 rw [tm0, tmInn, tmInnL_map, e1, e2]; rfl
theorem P_part {s : Tm} {k : Int} (hk : k = 11 ∨ k = 12) {a b : Ty} {t : Tm} : tmInn s 0 (chPart k a b t) 0 = chPart k a b (tmInn s 0 t 0) := by
 unfold chPart
 have n1 : k ≠ 1 := by rcases hk with rfl | rfl <;> decide
 have n2 : k ≠ 2 := by rcases hk with rfl | rfl <;> decide
 repeat' split
 ·exact P_tm0 (by decide) (by decide)
 ·rfl
 ·exact P_tm0 n1 n2
theorem P_call {s : Tm} {a b : Ty} {f t : Tm} : tmInn s 0 (chCall a b f t) 0 = chCall a b (tmInn s 0 f 0) (tmInn s 0 t 0) := by
 unfold chCall
 repeat' split
 ·exact P_tm0 (by decide) (by decide)
 ·rfl
 ·exact P_tm0 (by decide) (by decide)
theorem P_two {s : Tm} {k : Int} (hk : k = 2 ∨ k = 3) {a b : Fm} : fmInn s 0 (fmTwo k a b) 0 = fmTwo k (fmInn s 0 a 0) (fmInn s 0 b 0) := by
 rw [fmInn_two, below_two hk]; rfl
theorem P_q {s : Tm} {k : Int} (hk : k = 4 ∨ k = 5) {t : Ty} {a : Fm} {d : Int} (hd : 0 ≤ d) (hd2 : d ≤ 1000) : fmInn s 0 (fmQ k t a) d = fmQ k t (fmInn s 0 a (d + 1)) := by
 have : fmBelow k = 1 := by rcases hk with rfl | rfl <;> rfl
 rw [fmInn_q, this, addW_eq (by omega) (by omega) (by omega) (by omega)]
theorem mTwo_put {k : Int} (hk : k = 2 ∨ k = 3) {s : Tm} {x y x' y' : Fm × Int} (h : (mTwo k x y).2 = 0) (h' : (mTwo k x' y').2 = 0) (hx : x.2 = 0 → x'.2 = 0 → x'.1 = fmInn s 0 x.1 0) (hy : y.2 = 0 → y'.2 = 0 → y'.1 = fmInn s 0 y.1 0) :
  (mTwo k x' y').1 = fmInn s 0 (mTwo k x y).1 0 := by
 obtain ⟨a1, a2, a3⟩ := mTwo_ok h
 obtain ⟨b1, b2, b3⟩ := mTwo_ok h'
 rw [a3, b3, hx a1 b1, hy a2 b2, P_two hk]
/-- A term that is put in: not a big one. -/
structure SubOk (L : Int) (s : Tm) : Prop where
 gd : TmG s
 sz : tmSz s ≤ 2000
 l : s.least L = true
theorem TmOk.P {L : Int} (hL : 0 ≤ L) (hL2 : L ≤ 500000000) {g : List Ty} {s t : Tm} {ty : Ty} (hs : SubOk L s) (h : TmOk L g t ty) : TmG (tmInn s 0 t 0) ∧ (tmInn s 0 t 0).least (L + 1000000) = true :=
 ⟨TmG.inn hs.gd (least_mono (by omega) _ hs.l) _ h.gd (Nat.le_refl _) (least_mono (by omega) _ h.l) 0 (by omega) (by have := h.sz; omega), least_inn hL (by omega) hs.gd hs.l _ h.gd (Nat.le_refl _) h.l 0 (by omega) (by have := h.sz; omega)⟩
theorem G_cut {t : Tm} (h : TmG t) (hz0 : tmSz t ≤ 20000) (hz : t.szW ≤ 4096) : tmSz t ≤ 4096 := by
 have := t.szW_nodes _ (h.nodes_val (by omega)); omega
/-- What a step over a quantifier says about sizes. -/
theorem with_sz {r : Fm → Tm → Tm → Fm × Int} {n : Nat} {b : Fm} {x w c : Tm} (hb : Shp n b) (zb : fmSz b ≤ 8200) (hx : TmG x) (zx : tmSz x ≤ 20000) (lx : x.least 1000000000 = true) (h : (mWith r b x w c).2 = 0) :
  tmSz x ≤ 4096 ∧ mWith r b x w c = r (fmInn x 0 b 0) w c ∧ (fmSz (fmInn x 0 b 0) : Int) ≤ 4096 + b.qs ∧ fmSz (fmInn x 0 b 0) = fmSz b + fmOcc b 0 * (tmSz x - 1) := by
 obtain ⟨s1, s2, s3⟩ := mWith_ok h
 have zx' := G_cut hx zx s1
 have esp : b.sp x = fmInn x 0 b 0 := fsp_inn hx (by omega) lx hb.G 0 (by omega) (by omega)
 rw [esp] at s3
 have hsz := hb.G.inn_sz (s := x) 0 (by omega) (by omega)
 have hqr := qs_range hb.G (by omega)
 have hpos := tmSz_pos x
 have hmul : fmOcc b 0 * (tmSz x - 1) ≤ 8200 * 4096 := Nat.mul_le_mul (by have := fmOcc_le b 0; omega) (by omega)
 have hgr : b.grown x = (fmSz (fmInn x 0 b 0) : Int) := by
  unfold Fm.grown
  rw [x.szW_nodes _ (hx.nodes_val (by omega)), b.szW_nodes _ (hb.G.nodes_val (by omega))]
  have e1 : subW (tmSz x : Int) 1 = ((tmSz x - 1 : Nat) : Int) := by rw [subW_eq (by omega) (by omega) (by omega) (by omega)]; omega
  rw [e1, grown_occ (c := 4096) (by omega) hb.G 0 _ (by omega) (by omega) (by omega), hsz]
 rw [hgr, subW_eq (by omega) (by omega) (by omega) (by omega)] at s2
 exact ⟨zx', s3, by omega, hsz⟩
theorem eq_mOf {N : Nat} {x y w c : Tm} (h : (mOf N (fmEq x y) w c).2 = 0) : (mOf N (fmEq x y) w c).1 = fmEq x y := by
 cases N with
 | zero => cases h
 | succ N => rw [mOf_else h]; rfl
/-- Equal, or not seen. -/
theorem seen {n : Nat} {b : Fm} (hb : Shp n b) (zb : fmSz b ≤ 8200) {x x' : Tm} (h : x' = x ∨ 2 ≤ tmSz x') (hz : fmOcc b 0 * (tmSz x' - 1) = 0) : fmInn x' 0 b 0 = fmInn x 0 b 0 := by
 rcases h with rfl | h
 ·rfl
 ·refine finn_occ0 hb 0 (by omega) (by omega) ?_
  rcases Nat.mul_eq_zero.1 hz with h | h
  ·exact h
  ·omega
theorem q_mOf {N : Nat} {k : Int} (hk : k = 4 ∨ k = 5) {t : Ty} {a : Fm} {w c : Tm} (h : (mOf N (fmQ k t a) w c).2 = 0) :
  ∃ M, N = M + 1 ∧ w.szW ≤ 4096 ∧ c.szW ≤ 4096 ∧ mOf N (fmQ k t a) w c = if k == 4 then mAll (mOf M) t a w c else mEx (mOf M) t a w c := by
 cases N with
 | zero => cases h
 | succ N =>
  obtain ⟨s1, s2⟩ := mOf_size h
  refine ⟨N, rfl, s1, s2, ?_⟩
  rw [mOf_else h]
  rcases hk with rfl | rfl <;> rfl
/-- The three terms that a quantifier hands on: what is put in, the witness, the challenge. -/
def qx (k : Int) (t : Ty) (p : Ty × Ty) (w c : Tm) : Tm := if k == 4 then chPart 11 t p.2 c else chPart 11 t p.1 w
def qw (k : Int) (t : Ty) (p : Ty × Ty) (w c : Tm) : Tm := if k == 4 then chCall t p.1 w (chPart 11 t p.2 c) else chPart 12 p.1 t w
def qc (k : Int) (t : Ty) (p : Ty × Ty) (w c : Tm) : Tm := if k == 4 then chPart 12 p.2 t c else c
theorem q_with {k : Int} {M : Nat} {t : Ty} {a : Fm} {w c : Tm} : (if k == 4 then mAll (mOf M) t a w c else mEx (mOf M) t a w c) = mWith (mOf M) a (qx k t a.look.1 w c) (qw k t a.look.1 w c) (qc k t a.look.1 w c) := by
 unfold qx qw qc
 split <;> rfl
theorem P_qx {k : Int} {s : Tm} {t : Ty} {p : Ty × Ty} {w c : Tm} : tmInn s 0 (qx k t p w c) 0 = qx k t p (tmInn s 0 w 0) (tmInn s 0 c 0) := by
 unfold qx; split <;> exact P_part (.inl rfl)
theorem P_qw {k : Int} {s : Tm} {t : Ty} {p : Ty × Ty} {w c : Tm} : tmInn s 0 (qw k t p w c) 0 = qw k t p (tmInn s 0 w 0) (tmInn s 0 c 0) := by
 unfold qw; split
 ·rw [P_call, P_part (.inl rfl)]
 ·exact P_part (.inr rfl)
theorem P_qc {k : Int} {s : Tm} {t : Ty} {p : Ty × Ty} {w c : Tm} : tmInn s 0 (qc k t p w c) 0 = qc k t p (tmInn s 0 w 0) (tmInn s 0 c 0) := by
 unfold qc; split
 ·exact P_part (.inr rfl)
 ·rfl
theorem corner_x {k1 k2 : Int} (h1 : k1 = 4 ∨ k1 = 5) (h2 : k2 = 4 ∨ k2 = 5) {t1 t2 : Ty} {p z : Ty × Ty} (hp : p = chCase k2 t2 [(tUnit, tUnit)]) (hz : z = (tZero, tZero)) {w c : Tm} :
  (qx k1 t1 z w c = qx k1 t1 p w c ∨ 2 ≤ tmSz (qx k1 t1 z w c)) ∧
  (qx k2 t2 (tUnit, tUnit) (qw k1 t1 z w c) (qc k1 t1 z w c) = qx k2 t2 (tUnit, tUnit) (qw k1 t1 p w c) (qc k1 t1 p w c) ∨ 2 ≤ tmSz (qx k2 t2 (tUnit, tUnit) (qw k1 t1 z w c) (qc k1 t1 z w c))) := by
 subst hp hz
 have kU : (tUnit.kind == 5) = true := rfl
 have kZ : (tZero.kind == 5) = false := rfl
 have p1 := tmSz_pos w
 have p2 := tmSz_pos c
 have z1 : ∀ (k : Int) (x : Tm), 2 ≤ tmSz (tm0 k [x]) := fun k x => by rw [tmSz_1]; have := tmSz_pos x; omega
 have z2 : ∀ (k : Int) (x y : Tm), 2 ≤ tmSz (tm0 k [x, y]) := fun k x y => by rw [tmSz_2]; have := tmSz_pos x; omega
 rcases h1 with rfl | rfl <;> rcases h2 with rfl | rfl <;> cases q1 : (t1.kind == 5) <;> cases q2 : (t2.kind == 5) <;>
  simp [qx, qw, qc, chCase, chPart, chCall, chPair, chFun, q1, q2, kU, kZ, z1, z2]
end GoAbs
namespace GoAbs
open Go
theorem finn_inn0 {L : Int} (hL : 0 ≤ L) (hL2 : L ≤ 500000000) {s x : Tm} (hs : TmG s) (hx : TmG x) (ls : s.least L = true) (lx : x.least L = true) (zs : tmSz s ≤ 20000) (zx : tmSz x ≤ 20000) {n : Nat} {f : Fm} (h : Shp n f)
  (hl : f.least L = true) (hz : fmSz f ≤ 20000) : fmInn s 0 (fmInn x 0 f 0) 0 = fmInn (tmInn s 0 x 0) 0 (fmInn s 0 f 1) 0 := finn_inn hL hL2 hs hx ls lx zs zx h hl hz 0 (by omega) (by omega)
theorem Shp.q_inv {n : Nat} {k : Int} {t : Ty} {a : Fm} (h : Shp n (fmQ k t a)) : ∃ m, n = m + 1 ∧ (k = 4 ∨ k = 5) ∧ TyG t ∧ Shp m a := by
 generalize e : fmQ k t a = f at h
 cases h with
 | eq _ _ => simp [fmQ, fmEq] at e
 | two _ _ _ => simp [fmQ, fmTwo] at e
 | @q n k' s b hk hs hb =>
  simp only [fmQ, Fm.mk.injEq, List.cons.injEq, and_true, true_and] at e
  obtain ⟨rfl, rfl, rfl⟩ := e
  exact ⟨_, rfl, hk, hs, hb⟩
theorem Shp.eq_inv {n : Nat} {u v : Tm} (h : Shp n (fmEq u v)) : TmG u ∧ TmG v := by
 generalize e : fmEq u v = f at h
 cases h with
 | @eq n x y hx hy =>
  simp only [fmEq, Fm.mk.injEq, List.cons.injEq, and_true, true_and] at e
  obtain ⟨rfl, rfl⟩ := e
  exact ⟨hx, hy⟩
 | two _ _ _ => simp [fmEq, fmTwo] at e
 | q _ _ _ => simp [fmQ, fmEq] at e
theorem qx_sz {k : Int} {t : Ty} {p : Ty × Ty} {w c : Tm} : tmSz (qx k t p w c) ≤ max (tmSz w) (tmSz c) + 1 := by
 unfold qx
 have := chPart_sz (k := 11) (a := t) (b := p.2) (t := c)
 have := chPart_sz (k := 11) (a := t) (b := p.1) (t := w)
 split <;> omega
theorem qw_sz {k : Int} {t : Ty} {p : Ty × Ty} {w c : Tm} : tmSz (qw k t p w c) ≤ tmSz w + tmSz c + 2 := by
 unfold qw
 have := chCall_sz (a := t) (b := p.1) (f := w) (t := chPart 11 t p.2 c)
 have := chPart_sz (k := 11) (a := t) (b := p.2) (t := c)
 have := chPart_sz (k := 12) (a := p.1) (b := t) (t := w)
 split <;> omega
theorem qc_sz {k : Int} {t : Ty} {p : Ty × Ty} {w c : Tm} : tmSz (qc k t p w c) ≤ tmSz c + 1 := by
 unfold qc
 have := chPart_sz (k := 12) (a := p.2) (b := t) (t := c)
 split <;> omega
theorem q_ok {L : Int} (hL : 0 ≤ L) {g : List Ty} {k : Int} (hk : k = 4 ∨ k = 5) {s : Ty} {p : Ty × Ty} (hs : TyG s) (Gp : TyG p.1 ∧ TyG p.2) {w c : Tm} (hw : TmOk L g w (chCase k s [p]).1) (hc : TmOk L g c (chCase k s [p]).2)
  (zw : tmSz w ≤ 4096) (zc : tmSz c ≤ 4096) : TmOk L g (qx k s p w c) s ∧ TmOk L g (qw k s p w c) p.1 ∧ TmOk L g (qc k s p w c) p.2 := by
 rcases hk with rfl | rfl
 ·obtain ⟨c1, c2⟩ := hc.part (a := s) (b := p.2) hL (by omega) hs.1 Gp.2.1
  have y3 := chPart_sz (k := 11) (a := s) (b := p.2) (t := c)
  have w1 := TmOk.call (a := s) (b := p.1) hL hw c1 (by omega) Gp.1.1
  exact ⟨c1, w1, c2⟩
 ·obtain ⟨w1, w2⟩ := hw.part (a := s) (b := p.1) hL (by omega) hs.1 Gp.1.1
  exact ⟨w1, w2, hc⟩
theorem look_big {f : Fm} (h : FmG false f) (hz : ¬ fmSz f ≤ 4096) (hz2 : fmSz f ≤ 20000) : f.look.1 = (tZero, tZero) := by
 have he := h.err_val (by omega)
 rw [if_neg hz] at he
 unfold Fm.look
 rw [he]; rfl
theorem mOf_corner {L : Int} (hL0 : 0 ≤ L) (hL : L ≤ 300000000) {s : Tm} (hs : SubOk L s) {k1 k2 : Int} (hk1 : k1 = 4 ∨ k1 = 5) (hk2 : k2 = 4 ∨ k2 = 5) {t1 t2 : Ty} (ht1 : TyG t1) (ht2 : TyG t2) {u v : Tm} (gu : TmG u) (gv : TmG v)
  (hA : fmSz (fmQ k2 t2 (fmEq u v)) ≤ 4096) {g : List Ty} {w c : Tm} (hch : (fmQ k1 t1 (fmQ k2 t2 (fmEq u v))).ch.2 = 0) (hw : TmOk L g w (fmQ k1 t1 (fmQ k2 t2 (fmEq u v))).ch.1.1) (hc : TmOk L g c (fmQ k1 t1 (fmQ k2 t2 (fmEq u v))).ch.1.2)
  (zSw : tmSz (tmInn s 0 w 0) ≤ 20000) (zSc : tmSz (tmInn s 0 c 0) ≤ 20000) (hl : (fmQ k1 t1 (fmQ k2 t2 (fmEq u v))).least L = true) (hz : fmSz (fmInn s 0 (fmQ k1 t1 (fmQ k2 t2 (fmEq u v))) 0) = 4098) {N : Nat}
  (h : (mOf N (fmQ k1 t1 (fmQ k2 t2 (fmEq u v))) w c).2 = 0) (h' : (mOf N (fmInn s 0 (fmQ k1 t1 (fmQ k2 t2 (fmEq u v))) 0) (tmInn s 0 w 0) (tmInn s 0 c 0)).2 = 0) :
  (mOf N (fmInn s 0 (fmQ k1 t1 (fmQ k2 t2 (fmEq u v))) 0) (tmInn s 0 w 0) (tmInn s 0 c 0)).1 = fmInn s 0 (mOf N (fmQ k1 t1 (fmQ k2 t2 (fmEq u v))) w c).1 0 := by
 have m := fun {t : Tm} (M M' : Int) (hM : M ≤ M') (h : t.least M = true) => least_mono hM t h
 have hE : Shp 0 (fmEq u v) := .eq gu gv
 have hSa : Shp 1 (fmQ k2 t2 (fmEq u v)) := .q hk2 ht2 hE
 obtain ⟨ca, cc⟩ := ch_q_ok hch
 obtain ⟨ce, cd⟩ := ch_q_ok ca
 rw [ch_eqn] at cd
 have la := fleast_part hl
 have le := fleast_part la
 have Ga := ch_TyG hSa.G ca
 have ea := look_ch hSa.G hA
 have zE := hA
 rw [fmSz_q] at zE
 have hzs := hs.sz
 have ge3 := fmSz_ge3 hE
 -- the outer quantifier
 obtain ⟨M, rfl, sw, sc, e1⟩ := q_mOf hk1 h
 have zw := hw.cut sw
 have zc := hc.cut sc
 rw [e1, q_with, ea] at h ⊢
 rw [cc] at hw hc
 obtain ⟨ox, ow, oc⟩ := q_ok hL0 hk1 ht1 Ga hw hc zw zc
 rw [P_q hk1 (by omega) (by omega), show (0 : Int) + 1 = 1 from rfl] at h' hz ⊢
 obtain ⟨M', hM, sw', sc', e1'⟩ := q_mOf hk1 h'
 obtain rfl : M = M' := by omega
 have gSw := (hw.P hL0 (by omega) hs)
 have gSc := (hc.P hL0 (by omega) hs)
 have zw' := G_cut gSw.1 zSw sw'
 have zc' := G_cut gSc.1 zSc sc'
 have lsa : (fmQ k2 t2 (fmEq u v)).least 536870912 = true := fleast_mono (M := L) (by omega) hSa la
 have hSa' : Shp 1 (fmInn s 0 (fmQ k2 t2 (fmEq u v)) 1) := hSa.inn hs.gd (m L _ (by omega) hs.l) lsa 1 (by omega) (by omega)
 rw [fmSz_q] at hz
 have ea' := look_big hSa'.G (by omega) (by omega)
 rw [e1', q_with] at h' ⊢
 obtain ⟨cx, cx2⟩ := corner_x hk1 hk2 (t1 := t1) (t2 := t2) (p := (fmQ k2 t2 (fmEq u v)).ch.1) (z := (fmInn s 0 (fmQ k2 t2 (fmEq u v)) 1).look.1) (w := tmInn s 0 w 0) (c := tmInn s 0 c 0) cd ea'
 -- what is put in, before and after
 have gz : ∀ {k : Int} {t : Ty} {p : Ty × Ty} {w c : Tm}, TmG w → TmG c → TmG (qx k t p w c) ∧ TmG (qw k t p w c) ∧ TmG (qc k t p w c) := by
  intro k t p w c h1 h2
  unfold qx qw qc
  refine ⟨?_, ?_, ?_⟩ <;> split
  ·exact chPart_G (.inl rfl) h2
  ·exact chPart_G (.inl rfl) h1
  ·exact chCall_G h1 (chPart_G (.inl rfl) h2)
  ·exact chPart_G (.inr rfl) h1
  ·exact chPart_G (.inr rfl) h2
  ·exact h2
 have gl : ∀ {k : Int} {t : Ty} {p : Ty × Ty} {w c : Tm} {M : Int}, 0 ≤ M → w.least M = true → c.least M = true → (qx k t p w c).least M = true ∧ (qw k t p w c).least M = true ∧ (qc k t p w c).least M = true := by
  intro k t p w c M hM h1 h2
  unfold qx qw qc
  refine ⟨?_, ?_, ?_⟩ <;> split
  ·exact chPart_least hM h2
  ·exact chPart_least hM h1
  ·exact chCall_least hM h1 (chPart_least hM h2)
  ·exact chPart_least hM h1
  ·exact chPart_least hM h2
  ·exact h2
 have G1 := gz (k := k1) (t := t1) (p := (fmInn s 0 (fmQ k2 t2 (fmEq u v)) 1).look.1) gSw.1 gSc.1
 have L1 := gl (k := k1) (t := t1) (p := (fmInn s 0 (fmQ k2 t2 (fmEq u v)) 1).look.1) (by omega) gSw.2 gSc.2
 have Z1 := qx_sz (k := k1) (t := t1) (p := (fmInn s 0 (fmQ k2 t2 (fmEq u v)) 1).look.1) (w := tmInn s 0 w 0) (c := tmInn s 0 c 0)
 have Z2 := qw_sz (k := k1) (t := t1) (p := (fmInn s 0 (fmQ k2 t2 (fmEq u v)) 1).look.1) (w := tmInn s 0 w 0) (c := tmInn s 0 c 0)
 have Z3 := qc_sz (k := k1) (t := t1) (p := (fmInn s 0 (fmQ k2 t2 (fmEq u v)) 1).look.1) (w := tmInn s 0 w 0) (c := tmInn s 0 c 0)
 have O1 := qx_sz (k := k1) (t := t1) (p := (fmQ k2 t2 (fmEq u v)).ch.1) (w := w) (c := c)
 rw [← P_qw (k := k1) (t := t1) (p := (fmQ k2 t2 (fmEq u v)).ch.1) (s := s) (w := w) (c := c), ← P_qc (k := k1) (t := t1) (p := (fmQ k2 t2 (fmEq u v)).ch.1) (s := s) (w := w) (c := c),
  ← P_qx (k := k2) (t := t2) (p := (tUnit, tUnit))] at cx2
 rw [← P_qx (k := k1) (t := t1) (p := (fmQ k2 t2 (fmEq u v)).ch.1) (s := s) (w := w) (c := c)] at cx
 generalize (fmInn s 0 (fmQ k2 t2 (fmEq u v)) 1).look.1 = zz at *
 generalize hxc : qx k1 t1 zz (tmInn s 0 w 0) (tmInn s 0 c 0) = xc at *
 generalize hwc : qw k1 t1 zz (tmInn s 0 w 0) (tmInn s 0 c 0) = wc at *
 generalize hcc : qc k1 t1 zz (tmInn s 0 w 0) (tmInn s 0 c 0) = cq at *
 generalize hx0 : qx k1 t1 (fmQ k2 t2 (fmEq u v)).ch.1 w c = x at *
 generalize hw0 : qw k1 t1 (fmQ k2 t2 (fmEq u v)).ch.1 w c = w1 at *
 generalize hc0 : qc k1 t1 (fmQ k2 t2 (fmEq u v)).ch.1 w c = c1 at *
 obtain ⟨zx, b3, b4, b5⟩ := with_sz hSa (by omega) ox.gd (by omega) (m L _ (by omega) ox.l) h
 obtain ⟨zxc, d3, d4, d5⟩ := with_sz hSa' (by omega) G1.1 (by omega) (m (L + 1000000) _ (by omega) L1.1) h'
 have q1 : (fmQ k2 t2 (fmEq u v)).qs = 1 := by rw [qs_q hk2 hE.G (by omega), qs_eqn]; rfl
 have q1' : (fmInn s 0 (fmQ k2 t2 (fmEq u v)) 1).qs = 1 := by
  have gu' := (Shp.q_inv (show Shp 1 (fmQ k2 t2 (fmInn s 0 (fmEq u v) (1 + 1))) by rw [← P_q hk2 (by omega) (by omega)]; exact hSa'))
  obtain ⟨_, _, _, _, h0⟩ := gu'
  rw [P_q hk2 (by omega) (by omega)] at hz ⊢
  rw [fmSz_q] at hz
  rw [qs_q hk2 h0.G (by omega), fmInn_eqn, qs_eqn]; rfl
 rw [q1] at b4
 rw [q1'] at d4
 have hsame := seen hSa' (by omega) cx (by omega)
 rw [b3] at h ⊢
 rw [d3] at h' ⊢
 have hxs : tmSz x ≤ 20000 := by omega
 rw [hsame, ← finn_inn0 hL0 (by omega) hs.gd ox.gd hs.l ox.l (by omega) hxs hSa la (by omega)] at h' d4 d5 ⊢
 -- the inner quantifier
 have hSb : Shp 1 (fmInn x 0 (fmQ k2 t2 (fmEq u v)) 0) := hSa.inn ox.gd (m L _ (by omega) ox.l) lsa 0 (by omega) (by omega)
 have lb : (fmInn x 0 (fmQ k2 t2 (fmEq u v)) 0).least (L + 1000000) = true := fleast_inn hL0 (by omega) ox.gd ox.l hSa la 0 (by omega) (by omega)
 have hSb' : Shp 1 (fmInn s 0 (fmInn x 0 (fmQ k2 t2 (fmEq u v)) 0) 0) := hSb.inn hs.gd (m L _ (by omega) hs.l) (fleast_mono (M := L + 1000000) (by omega) hSb lb) 0 (by omega) (by omega)
 have hb : fmInn x 0 (fmQ k2 t2 (fmEq u v)) 0 = fmQ k2 t2 (fmEq (tmInn x 0 u 1) (tmInn x 0 v 1)) := by
  rw [P_q hk2 (by omega) (by omega), show (0 : Int) + 1 = 1 from rfl, fmInn_eqn]
 rw [hb] at h h' b4 d4 d5 hSb hSb' lb ⊢
 clear hb b5
 generalize tmInn x 0 u 1 = u1 at *
 generalize tmInn x 0 v 1 = v1 at *
 have hb' : fmInn s 0 (fmQ k2 t2 (fmEq u1 v1)) 0 = fmQ k2 t2 (fmInn s 0 (fmEq u1 v1) 1) := by
  rw [P_q hk2 (by omega) (by omega), show (0 : Int) + 1 = 1 from rfl]
 rw [hb'] at h' d4 d5 hSb' ⊢
 clear hb'
 obtain ⟨n1, hn1, _, _, hB1⟩ := hSb.q_inv
 obtain ⟨n2, hn2, _, _, hB2⟩ := hSb'.q_inv
 rw [fmSz_q] at b4 d4 d5
 have eb := look_ch hB1.G (by omega)
 have eb' := look_ch hB2.G (by omega)
 rw [ch_eqn] at eb
 rw [ch_inn, ch_eqn] at eb'
 obtain ⟨K, rfl, sw1, sc1, f1⟩ := q_mOf hk2 h
 obtain ⟨K', hK, sw2, sc2, f2⟩ := q_mOf hk2 h'
 obtain rfl : K = K' := by omega
 rw [f1, q_with, eb] at h ⊢
 rw [f2, q_with, eb'] at h' ⊢
 have zw1 := ow.cut sw1
 have zc1 := oc.cut sc1
 have zw2 := G_cut G1.2.1 (by omega) sw2
 have zc2 := G_cut G1.2.2 (by omega) sc2
 have H1 := gz (k := k2) (t := t2) (p := (tUnit, tUnit)) ow.gd oc.gd
 have H2 := gz (k := k2) (t := t2) (p := (tUnit, tUnit)) G1.2.1 G1.2.2
 have K1 := gl (k := k2) (t := t2) (p := (tUnit, tUnit)) hL0 ow.l oc.l
 have K2 := gl (k := k2) (t := t2) (p := (tUnit, tUnit)) (by omega) L1.2.1 L1.2.2
 have Y1 := qx_sz (k := k2) (t := t2) (p := (tUnit, tUnit)) (w := w1) (c := c1)
 have Y2 := qx_sz (k := k2) (t := t2) (p := (tUnit, tUnit)) (w := wc) (c := cq)
 have lb1 := fleast_part lb
 obtain ⟨zx2, g3, g4, g5⟩ := with_sz hB1 (by omega) H1.1 (by omega) (m L _ (by omega) K1.1) h
 obtain ⟨zy2, i3, i4, i5⟩ := with_sz hB2 (by omega) H2.1 (by omega) (m (L + 1000000) _ (by omega) K2.1) h'
 have hq0 : (fmInn s 0 (fmEq u1 v1) 1).qs = 0 := by rw [fmInn_eqn, qs_eqn]
 rw [hq0] at i4
 have hs2 := seen hB2 (by omega) cx2 (by omega)
 rw [g3] at h ⊢
 rw [i3] at h' ⊢
 rw [hs2, ← finn_inn0 (L := L + 1000000) (by omega) (by omega) hs.gd H1.1 (m L _ (by omega) hs.l) (m L _ (by omega) K1.1) (by omega) (by omega) hB1 lb1 (by omega)] at h' ⊢
 rw [fmInn_eqn] at h h' ⊢
 rw [eq_mOf h]
 rw [fmInn_eqn] at h' ⊢
 exact eq_mOf h'
end GoAbs
namespace GoAbs
open Go
theorem fm_key {l : List Fm} {y : Fm} (h : y ∈ l) : fmSz y ≤ fmSzL l := by
 induction l with
 | nil => cases h
 | cons z l ih => rw [fmSzL]; rcases List.mem_cons.1 h with rfl | h; omega; have := ih h; omega
theorem QQE_inv {n : Nat} {a : Fm} (h : Shp n a) {s : Tm} {d : Int} (hd : 0 ≤ d) (hd2 : d ≤ 100) (hq : QQE (fmInn s 0 a d)) :
  ∃ k1 t1 k2 t2 u v, a = fmQ k1 t1 (fmQ k2 t2 (fmEq u v)) ∧ (k1 = 4 ∨ k1 = 5) ∧ (k2 = 4 ∨ k2 = 5) ∧ TyG t1 ∧ TyG t2 ∧ TmG u ∧ TmG v := by
 obtain ⟨k1, t1, k2, t2, u, v, e⟩ := hq
 cases h with
 | eq _ _ => rw [fmInn_eqn] at e; simp [fmQ, fmEq] at e
 | two hk _ _ => rw [fmInn_two] at e; simp [fmQ, fmTwo] at e
 | @q n k t b hk ht hb =>
  rw [P_q hk hd (by omega)] at e
  simp only [fmQ, Fm.mk.injEq, List.cons.injEq, and_true, true_and] at e
  obtain ⟨rfl, rfl, e⟩ := e
  cases hb with
  | eq _ _ => rw [fmInn_eqn] at e; simp [fmEq] at e
  | two hk _ _ => rw [fmInn_two] at e; simp [fmTwo] at e
  | @q n k' t' b hk' ht' hb =>
   rw [P_q hk' (by omega) (by omega)] at e
   simp only [fmQ, Fm.mk.injEq, List.cons.injEq, and_true, true_and] at e
   obtain ⟨rfl, rfl, e⟩ := e
   cases hb with
   | @eq n x y hx hy => exact ⟨k, t, k', t', x, y, rfl, hk, hk', ht, ht', hx, hy⟩
   | two hk _ _ => rw [fmInn_two] at e; simp [fmEq, fmTwo] at e
   | @q n k'' t'' b hk'' ht'' hb => rw [P_q hk'' (by omega) (by omega)] at e; simp [fmEq, fmQ] at e
theorem mOf_put {s : Tm} : ∀ (n : Nat), n ≤ 3 → ∀ (N : Nat) (f : Fm) (g : List Ty) (w c : Tm) (L : Int), Shp n f → fdp f ≤ N → ArgsOk f → fmSz f ≤ 8200 → (n = 3 → Corner f w c) → f.ch.2 = 0 →
  0 ≤ L → L + (n : Int) * 1000000 ≤ 290000000 → f.least L = true → TmOk L g w f.ch.1.1 → TmOk L g c f.ch.1.2 → SubOk L s → tmSz (tmInn s 0 w 0) ≤ 20000 → tmSz (tmInn s 0 c 0) ≤ 20000 → fmSz (fmInn s 0 f 0) ≤ 8200 →
  (ArgsOk (fmInn s 0 f 0) ∨ (n ≤ 2 ∧ QQE (fmInn s 0 f 0) ∧ fmSz (fmInn s 0 f 0) = 4098)) →
  (mOf N f w c).2 = 0 → (mOf N (fmInn s 0 f 0) (tmInn s 0 w 0) (tmInn s 0 c 0)).2 = 0 → (mOf N (fmInn s 0 f 0) (tmInn s 0 w 0) (tmInn s 0 c 0)).1 = fmInn s 0 (mOf N f w c).1 0 := by
 intro n
 induction n with
 | zero =>
  intro hn N f g w c L hS hN hA hz hC hch hL0 hL hl hw hc hs zSw zSc zF hAF h h'
  cases hS with
  | @eq _ x y hx hy =>
   rw [eq_mOf h]
   rw [fmInn_eqn] at h' ⊢
   exact eq_mOf h'
 | succ n ih =>
  intro hn N f g w c L hS hN hA hz hC hch hL0 hL hl hw hc hs zSw zSc zF hAF h h'
  have ih' := ih (by omega)
  have m := fun {t : Tm} (M M' : Int) (hM : M ≤ M') (h : t.least M = true) => least_mono hM t h
  have hzs := hs.sz
  cases hS with
  | @eq _ x y hx hy =>
   rw [eq_mOf h]
   rw [fmInn_eqn] at h' ⊢
   exact eq_mOf h'
  | @two _ k a b hk h1 h2 =>
   obtain ⟨N, rfl⟩ : ∃ M, N = M + 1 := ⟨N - 1, by have := fdp_pos (fmTwo k a b); omega⟩
   obtain ⟨sw, sc⟩ := mOf_size h
   have zw := hw.cut sw
   have zc := hc.cut sc
   have hm := mOf_else h
   rw [hm] at h ⊢
   clear hm
   obtain ⟨ca, cb, cc⟩ := ch_two_ok hch
   have za := hA.1 a (by simp [fmTwo, Fm.args])
   have zb := hA.1 b (by simp [fmTwo, Fm.args])
   rw [fmSz_two] at hz
   rw [fdp_two] at hN
   obtain ⟨la, lb⟩ := fleast_parts2 hl
   have Ga := ch_TyG h1.G ca
   have Gb := ch_TyG h2.G cb
   have ea := look_ch h1.G za
   have eb := look_ch h2.G zb
   rw [P_two hk] at h' zF hAF ⊢
   have hAF' : fmSz (fmInn s 0 a 0) ≤ 4096 ∧ fmSz (fmInn s 0 b 0) ≤ 4096 := by
    rcases hAF with hAF | ⟨_, ⟨k1, t1, k2, t2, u, v, e⟩, _⟩
    ·exact ⟨hAF.1 _ (by simp [fmTwo, Fm.args]), hAF.1 _ (by simp [fmTwo, Fm.args])⟩
    ·simp [fmQ, fmTwo] at e
   obtain ⟨zFa, zFb⟩ := hAF'
   obtain ⟨sw', sc'⟩ := mOf_size h'
   have gSw := (hw.P hL0 (by omega) hs)
   have gSc := (hc.P hL0 (by omega) hs)
   have zw' := G_cut gSw.1 zSw sw'
   have zc' := G_cut gSc.1 zSc sc'
   have hm := mOf_else h'
   rw [hm] at h' ⊢
   clear hm
   have S1 : Shp n (fmInn s 0 a 0) := h1.inn hs.gd (m L _ (by omega) hs.l) (fleast_mono (M := L) (by omega) h1 la) 0 (by omega) (by omega)
   have S2 : Shp n (fmInn s 0 b 0) := h2.inn hs.gd (m L _ (by omega) hs.l) (fleast_mono (M := L) (by omega) h2 lb) 0 (by omega) (by omega)
   have ea' := look_ch S1.G zFa
   have eb' := look_ch S2.G zFb
   rw [ch_inn] at ea' eb'
   have Ia := ih' N a g
   have Ib := ih' N b g
   rw [cc] at hw hc
   rcases hk with rfl | rfl
   ·obtain ⟨w1, w2⟩ := hw.part (a := a.ch.1.1) (b := b.ch.1.1) hL0 (by omega) Ga.1.1 Gb.1.1
    obtain ⟨c1, c2⟩ := hc.part (a := a.ch.1.2) (b := b.ch.1.2) hL0 (by omega) Ga.2.1 Gb.2.1
    have x1 := chPart_sz (k := 11) (a := a.ch.1.1) (b := b.ch.1.1) (t := tmInn s 0 w 0)
    have x2 := chPart_sz (k := 12) (a := b.ch.1.1) (b := a.ch.1.1) (t := tmInn s 0 w 0)
    have x3 := chPart_sz (k := 11) (a := a.ch.1.2) (b := b.ch.1.2) (t := tmInn s 0 c 0)
    have x4 := chPart_sz (k := 12) (a := b.ch.1.2) (b := a.ch.1.2) (t := tmInn s 0 c 0)
    change (mAnd (mOf N) a b w c).2 = 0 at h
    change (mAnd (mOf N) (fmInn s 0 a 0) (fmInn s 0 b 0) (tmInn s 0 w 0) (tmInn s 0 c 0)).2 = 0 at h'
    show (mAnd (mOf N) (fmInn s 0 a 0) (fmInn s 0 b 0) (tmInn s 0 w 0) (tmInn s 0 c 0)).1 = fmInn s 0 (mAnd (mOf N) a b w c).1 0
    unfold mAnd at h h' ⊢
    rw [ea, eb] at h ⊢
    rw [ea', eb', ← P_part (.inl rfl), ← P_part (.inl rfl), ← P_part (.inr rfl), ← P_part (.inr rfl)] at h' ⊢
    refine mTwo_put (.inl rfl) h h' (fun e e' => Ia _ _ L h1 (by omega) (argsOk_of za) (by omega) (fun e => by omega) ca hL0 (by omega) la w1 c1 hs (by rw [P_part (.inl rfl)]; omega) (by rw [P_part (.inl rfl)]; omega) (by omega) (.inl (argsOk_of zFa)) e e')
     (fun e e' => Ib _ _ L h2 (by omega) (argsOk_of zb) (by omega) (fun e => by omega) cb hL0 (by omega) lb w2 c2 hs (by rw [P_part (.inr rfl)]; omega) (by rw [P_part (.inr rfl)]; omega) (by omega) (.inl (argsOk_of zFb)) e e')
   ·have Fan : TyF (chFun a.ch.1.1 (chFun b.ch.1.2 a.ch.1.2)) := chFun_F Ga.1.1 (chFun_F Gb.2.1 Ga.2.1)
    have Ffn : TyF (chFun a.ch.1.1 b.ch.1.1) := chFun_F Ga.1.1 Gb.1.1
    obtain ⟨w1, w2⟩ := hw.part (a := chFun a.ch.1.1 b.ch.1.1) (b := chFun a.ch.1.1 (chFun b.ch.1.2 a.ch.1.2)) hL0 (by omega) Ffn Fan
    obtain ⟨c1, c2⟩ := hc.part (a := a.ch.1.1) (b := b.ch.1.2) hL0 (by omega) Ga.1.1 Gb.2.1
    have sz : ∀ W C : Tm, tmSz W ≤ 4096 → tmSz C ≤ 4096 →
      tmSz (chPart 11 a.ch.1.1 b.ch.1.2 C) ≤ 20000 ∧
      tmSz (chCall b.ch.1.2 a.ch.1.2 (chCall a.ch.1.1 (chFun b.ch.1.2 a.ch.1.2) (chPart 12 (chFun a.ch.1.1 (chFun b.ch.1.2 a.ch.1.2)) (chFun a.ch.1.1 b.ch.1.1) W) (chPart 11 a.ch.1.1 b.ch.1.2 C)) (chPart 12 b.ch.1.2 a.ch.1.1 C)) ≤ 20000 ∧
      tmSz (chCall a.ch.1.1 b.ch.1.1 (chPart 11 (chFun a.ch.1.1 b.ch.1.1) (chFun a.ch.1.1 (chFun b.ch.1.2 a.ch.1.2)) W) (chPart 11 a.ch.1.1 b.ch.1.2 C)) ≤ 20000 ∧
      tmSz (chPart 12 b.ch.1.2 a.ch.1.1 C) ≤ 20000 := by
     intro W C hW hCz
     have y1 := chPart_sz (k := 11) (a := chFun a.ch.1.1 b.ch.1.1) (b := chFun a.ch.1.1 (chFun b.ch.1.2 a.ch.1.2)) (t := W)
     have y2 := chPart_sz (k := 12) (a := chFun a.ch.1.1 (chFun b.ch.1.2 a.ch.1.2)) (b := chFun a.ch.1.1 b.ch.1.1) (t := W)
     have y3 := chPart_sz (k := 11) (a := a.ch.1.1) (b := b.ch.1.2) (t := C)
     have y4 := chPart_sz (k := 12) (a := b.ch.1.2) (b := a.ch.1.1) (t := C)
     have y5 := chCall_sz (a := a.ch.1.1) (b := chFun b.ch.1.2 a.ch.1.2) (f := chPart 12 (chFun a.ch.1.1 (chFun b.ch.1.2 a.ch.1.2)) (chFun a.ch.1.1 b.ch.1.1) W) (t := chPart 11 a.ch.1.1 b.ch.1.2 C)
     have y6 := chCall_sz (a := b.ch.1.2) (b := a.ch.1.2) (f := chCall a.ch.1.1 (chFun b.ch.1.2 a.ch.1.2) (chPart 12 (chFun a.ch.1.1 (chFun b.ch.1.2 a.ch.1.2)) (chFun a.ch.1.1 b.ch.1.1) W) (chPart 11 a.ch.1.1 b.ch.1.2 C)) (t := chPart 12 b.ch.1.2 a.ch.1.1 C)
     have y7 := chCall_sz (a := a.ch.1.1) (b := b.ch.1.1) (f := chPart 11 (chFun a.ch.1.1 b.ch.1.1) (chFun a.ch.1.1 (chFun b.ch.1.2 a.ch.1.2)) W) (t := chPart 11 a.ch.1.1 b.ch.1.2 C)
     omega
    obtain ⟨u1, u2, u3, u4⟩ := sz _ _ zw' zc'
    have y2 := chPart_sz (k := 12) (a := chFun a.ch.1.1 (chFun b.ch.1.2 a.ch.1.2)) (b := chFun a.ch.1.1 b.ch.1.1) (t := w)
    have y3 := chPart_sz (k := 11) (a := a.ch.1.1) (b := b.ch.1.2) (t := c)
    have y1 := chPart_sz (k := 11) (a := chFun a.ch.1.1 b.ch.1.1) (b := chFun a.ch.1.1 (chFun b.ch.1.2 a.ch.1.2)) (t := w)
    have y4 := chPart_sz (k := 12) (a := b.ch.1.2) (b := a.ch.1.1) (t := c)
    have z1 := w2.call hL0 c1 (by omega) (chFun_F Gb.2.1 Ga.2.1)
    have y5 := chCall_sz (a := a.ch.1.1) (b := chFun b.ch.1.2 a.ch.1.2) (f := chPart 12 (chFun a.ch.1.1 (chFun b.ch.1.2 a.ch.1.2)) (chFun a.ch.1.1 b.ch.1.1) w) (t := chPart 11 a.ch.1.1 b.ch.1.2 c)
    have z2 := z1.call hL0 c2 (by omega) Ga.2.1
    have z3 := w1.call hL0 c1 (by omega) Gb.1.1
    change (mImp (mOf N) a b w c).2 = 0 at h
    change (mImp (mOf N) (fmInn s 0 a 0) (fmInn s 0 b 0) (tmInn s 0 w 0) (tmInn s 0 c 0)).2 = 0 at h'
    show (mImp (mOf N) (fmInn s 0 a 0) (fmInn s 0 b 0) (tmInn s 0 w 0) (tmInn s 0 c 0)).1 = fmInn s 0 (mImp (mOf N) a b w c).1 0
    unfold mImp at h h' ⊢
    rw [ea, eb] at h ⊢
    rw [ea', eb'] at h' ⊢
    simp only [← P_part (s := s) (k := 11) (.inl rfl), ← P_part (s := s) (k := 12) (.inr rfl), ← P_call (s := s)] at h' u1 u2 u3 u4 ⊢
    refine mTwo_put (.inr rfl) h h' (fun e e' => Ia _ _ L h1 (by omega) (argsOk_of za) (by omega) (fun e => by omega) ca hL0 (by omega) la c1 z2 hs u1 u2 (by omega) (.inl (argsOk_of zFa)) e e')
     (fun e e' => Ib _ _ L h2 (by omega) (argsOk_of zb) (by omega) (fun e => by omega) cb hL0 (by omega) lb z3 c2 hs u3 u4 (by omega) (.inl (argsOk_of zFb)) e e')
  | @q _ k t a hk ht h1 =>
   obtain ⟨ca, cc⟩ := ch_q_ok hch
   have za := hA.1 a (by simp [fmQ, Fm.args])
   have la := fleast_part hl
   rcases hAF with hAF | ⟨hn2, hq, h98⟩
   case inr =>
    obtain ⟨k1, t1, k2, t2, u, v, e, hk1, hk2, ht1, ht2, gu, gv⟩ := QQE_inv (.q hk ht h1) (by omega) (by omega) hq
    simp only [fmQ, Fm.mk.injEq, List.cons.injEq, and_true, true_and] at e
    obtain ⟨rfl, rfl, rfl⟩ := e
    exact mOf_corner hL0 (by omega) hs hk1 hk2 ht1 ht2 gu gv za hch hw hc zSw zSc hl h98 h h'
   have Ga := ch_TyG h1.G ca
   have ea := look_ch h1.G za
   have lsa : a.least 536870912 = true := fleast_mono (M := L) (by omega) h1 la
   have hfd : fdp a + 1 ≤ N := by rw [fmQ, fdp, fdpL, fdpL] at hN; omega
   rw [P_q hk (by omega) (by omega), show (0 : Int) + 1 = 1 from rfl] at h' zF hAF ⊢
   have zFa := hAF.1 (fmInn s 0 a 1) (by simp [fmQ, Fm.args])
   obtain ⟨M, rfl, sw, sc, e1⟩ := q_mOf hk h
   have zw := hw.cut sw
   have zc := hc.cut sc
   rw [e1, q_with, ea] at h ⊢
   rw [cc] at hw hc
   obtain ⟨ox, ow, oc⟩ := q_ok hL0 hk ht Ga hw hc zw zc
   obtain ⟨M', hM, sw', sc', e1'⟩ := q_mOf hk h'
   obtain rfl : M = M' := by omega
   have gSw := (hw.P hL0 (by omega) hs)
   have gSc := (hc.P hL0 (by omega) hs)
   have zw' := G_cut gSw.1 zSw sw'
   have zc' := G_cut gSc.1 zSc sc'
   have hSa' : Shp n (fmInn s 0 a 1) := h1.inn hs.gd (m L _ (by omega) hs.l) lsa 1 (by omega) (by omega)
   have ea' := look_ch hSa'.G zFa
   rw [ch_inn] at ea'
   rw [e1', q_with, ea', ← P_qx, ← P_qw, ← P_qc] at h' ⊢
   have O1 := qx_sz (k := k) (t := t) (p := a.ch.1) (w := w) (c := c)
   have Z1 := qx_sz (k := k) (t := t) (p := a.ch.1) (w := tmInn s 0 w 0) (c := tmInn s 0 c 0)
   have Z2 := qw_sz (k := k) (t := t) (p := a.ch.1) (w := tmInn s 0 w 0) (c := tmInn s 0 c 0)
   have Z3 := qc_sz (k := k) (t := t) (p := a.ch.1) (w := tmInn s 0 w 0) (c := tmInn s 0 c 0)
   rw [← P_qx] at Z1
   rw [← P_qw] at Z2
   rw [← P_qc] at Z3
   generalize qx k t a.ch.1 w c = x at *
   generalize qw k t a.ch.1 w c = w1 at *
   generalize qc k t a.ch.1 w c = c1 at *
   have gSx := ox.P hL0 (by omega) hs
   obtain ⟨zx, b3, b4, b5⟩ := with_sz h1 (by omega) ox.gd (by omega) (m L _ (by omega) ox.l) h
   obtain ⟨zSx, d3, d4, d5⟩ := with_sz hSa' (by omega) gSx.1 (by omega) (m (L + 1000000) _ (by omega) gSx.2) h'
   have hqr := qs_range h1.G (by omega)
   have hqr' := qs_range hSa'.G (by omega)
   have hF := finn_inn0 hL0 (by omega) hs.gd ox.gd hs.l ox.l (by omega) (by omega) h1 la (by omega)
   have esp : a.sp x = fmInn x 0 a 0 := fsp_inn ox.gd (by omega) (m L _ (by omega) ox.l) h1.G 0 (by omega) (by omega)
   rw [b3] at h ⊢
   rw [d3, ← hF] at h' ⊢
   have hAr := argsOk_inn (x := x) (by omega) h1 za b4 (fun hq => by
    obtain ⟨k1, s1', k2, s2', u, v, e⟩ := hq
    have hn2 : n = 2 := by
     subst e
     obtain ⟨_, e1, _, _, h3⟩ := h1.q_inv
     obtain ⟨_, e2, _, _, _⟩ := h3.q_inv
     omega
    have := hC (by omega) k t a rfl ⟨k1, s1', k2, s2', u, v, e⟩
    have hm2 : fmOcc a 0 * (tmSz x - 1) ≤ fmOcc a 0 * (max (tmSz w) (tmSz c)) := Nat.mul_le_mul_left _ (by omega)
    omega)
   have hl' := fleast_inn hL0 (by omega) ox.gd ox.l h1 la 0 (by omega) (by omega)
   have up : ∀ {t : Tm} {ty : Ty}, TmOk L g t ty → TmOk (L + 1000000) g t ty := fun h => ⟨h.gd, h.sz, least_mono (by omega) _ h.l, h.ty⟩
   have hcor : ArgsOk (fmInn s 0 (fmInn x 0 a 0) 0) ∨ (n ≤ 2 ∧ QQE (fmInn s 0 (fmInn x 0 a 0) 0) ∧ fmSz (fmInn s 0 (fmInn x 0 a 0) 0) = 4098) := by
    by_cases hq : QQE (fmInn s 0 a 1) ∧ 4096 < fmSz (fmInn s 0 (fmInn x 0 a 0) 0)
    ·obtain ⟨hq, hbig⟩ := hq
     obtain ⟨k1, t1, k2, t2, u, v, rfl, hk1, hk2, ht1, ht2, gu, gv⟩ := QQE_inv h1 (by omega) (by omega) hq
     rw [← hF] at d4
     have q2 : (fmInn s 0 (fmQ k1 t1 (fmQ k2 t2 (fmEq u v))) 1).qs = 2 := by
      have e : fmInn s 0 (fmQ k1 t1 (fmQ k2 t2 (fmEq u v))) 1 = fmQ k1 t1 (fmQ k2 t2 (fmInn s 0 (fmEq u v) (1 + 1 + 1))) := by
       rw [P_q hk1 (by omega) (by omega), P_q hk2 (by omega) (by omega)]
      rw [e] at hSa' zFa ⊢
      rw [fmSz_q, fmSz_q] at zFa
      obtain ⟨_, _, _, _, h3⟩ := hSa'.q_inv
      obtain ⟨_, _, _, _, h4⟩ := h3.q_inv
      rw [qs_q hk1 h3.G (by rw [fmSz_q]; omega), qs_q hk2 h4.G (by omega), fmInn_eqn, qs_eqn]; rfl
     rw [q2] at d4
     have e : fmInn s 0 (fmInn x 0 (fmQ k1 t1 (fmQ k2 t2 (fmEq u v))) 0) 0 = fmQ k1 t1 (fmQ k2 t2 (fmInn s 0 (fmInn x 0 (fmEq u v) (0 + 1 + 1)) (0 + 1 + 1))) := by
      rw [P_q hk1 (by omega) (by omega), P_q hk2 (by omega) (by omega), P_q hk1 (by omega) (by omega), P_q hk2 (by omega) (by omega)]
     rw [e] at hbig d4 ⊢
     by_cases h98 : fmSz (fmQ k1 t1 (fmQ k2 t2 (fmInn s 0 (fmInn x 0 (fmEq u v) (0 + 1 + 1)) (0 + 1 + 1)))) = 4098
     ·exact .inr ⟨by omega, ⟨k1, t1, k2, t2, _, _, by rw [fmInn_eqn, fmInn_eqn]⟩, h98⟩
     ·refine .inl ⟨fun y hy => ?_, fun e => by simp [fmQ, Fm.args] at e⟩
      simp only [fmQ, Fm.args, List.mem_cons, List.not_mem_nil, or_false] at hy
      subst hy
      rw [fmSz_q] at d4 h98
      change fmSz (fmQ k2 t2 _) ≤ 4096
      omega
    ·refine .inl ?_
     rw [hF]
     refine argsOk_inn (x := tmInn s 0 x 0) (by omega) hSa' zFa d4 (fun hq' => ?_)
     rw [hF] at hq
     exact Nat.le_of_not_lt fun hlt => hq ⟨hq', hlt⟩
   refine ih' M _ g w1 c1 (L + 1000000) (h1.inn ox.gd (m L _ (by omega) ox.l) lsa 0 (by omega) (by omega)) (by rw [← esp, Fm.sp, fdp_evx]; omega) hAr (by omega) (fun e => by omega) (by rw [ch_inn]; exact ca) (by omega) (by omega) hl'
    (by rw [ch_inn]; exact up ow) (by rw [ch_inn]; exact up oc) ⟨hs.gd, hs.sz, m L _ (by omega) hs.l⟩ (by omega) (by omega) (by rw [hF]; omega) hcor h h'
end GoAbs
namespace GoAbs
open Go
def tmPut (t : Tm) (a : Int) (s : Tm) : Tm × Int :=
 if tmErr t != 0 then (zeroT, tmErr t)
 else if decide (a < 0) || decide (a > 4096) then (zeroT, 1)
 else if tmErr s != 0 then (zeroT, tmErr s)
 else if !t.least 536870912 || !s.least 536870912 then (zeroT, 1)
 else if decide (addW t.szW (mulW (t.times a) (subW s.szW 1)) > 4096) then (zeroT, 4)
 else (tmInn s a t 0, 0)
theorem mulW_eq {a b : Int} (h0 : 0 ≤ a) (h1 : a ≤ 1000000) (h2 : 0 ≤ b) (h3 : b ≤ 1000000) : mulW a b = a * b := by
 have : a * b ≤ 1000000 * 1000000 := Int.mul_le_mul h1 h3 h2 (by omega)
 have : 0 ≤ a * b := Int.mul_nonneg h0 h2
 exact wrap_eq rfl (by omega) (by omega)
theorem tmPut_ok {t s : Tm} (ht : TmG t) (hs : TmG s) (zt : tmSz t ≤ 20000) (zs : tmSz s ≤ 20000) (h : (tmPut t 0 s).2 = 0) : tmPut t 0 s = (tmInn s 0 t 0, 0) ∧ tmSz (tmInn s 0 t 0) ≤ 4096 := by
 unfold tmPut at h ⊢
 have p := tmSz_pos s
 split at h
 ·rename_i h1; simp only at h; rw [h] at h1; simp at h1
 ·rename_i h1
  rw [if_neg h1]
  split at h
  ·cases h
  ·rename_i h2
   rw [if_neg h2]
   split at h
   ·rename_i h3; simp only at h; rw [h] at h3; simp at h3
   ·rename_i h3
    rw [if_neg h3]
    split at h
    ·cases h
    ·rename_i h4
     rw [if_neg h4]
     split at h
     ·cases h
     ·rename_i h5
      rw [if_neg h5]
      refine ⟨rfl, ?_⟩
      have o := tmOcc_le t 0
      rw [ht.times_occ _ (Nat.le_refl _) 0 (by omega) (by omega), t.szW_nodes _ (ht.nodes_val (by omega)), s.szW_nodes _ (hs.nodes_val (by omega)), subW_eq (by omega) (by omega) (by omega) (by omega), mulW_eq (by omega) (by omega) (by omega) (by omega)] at h5
      have hm : (tmOcc t 0 : Int) * ((tmSz s : Int) - 1) = ((tmOcc t 0 * (tmSz s - 1) : Nat) : Int) := by
       rw [Int.natCast_mul]; congr 1; omega
      have hb : tmOcc t 0 * (tmSz s - 1) ≤ 20000 * 20000 := Nat.mul_le_mul (by omega) (by omega)
      rw [hm, addW_eq (by omega) (by omega) (by omega) (by omega)] at h5
      rw [TmG.inn_sz _ ht (Nat.le_refl _) 0 (by omega) (by omega)]
      have := of_decide_eq_false (Bool.eq_false_iff.2 h5)
      omega
theorem fmPut_okF {f : Fm} {s : Tm} (hf : FmG false f) (hs : TmG s) (zf : fmSz f ≤ 20000) (zs : tmSz s ≤ 20000) (h : (fmPut f 0 s).2 = 0) : fmPut f 0 s = (fmInn s 0 f 0, 0) ∧ fmSz (fmInn s 0 f 0) ≤ 4096 := by
 unfold fmPut at h ⊢
 have p := tmSz_pos s
 split at h
 ·rename_i h1; simp only at h; rw [h] at h1; simp at h1
 ·rename_i h1
  rw [if_neg h1]
  split at h
  ·cases h
  ·rename_i h2
   rw [if_neg h2]
   split at h
   ·rename_i h3; simp only at h; rw [h] at h3; simp at h3
   ·rename_i h3
    rw [if_neg h3]
    split at h
    ·cases h
    ·rename_i h4
     rw [if_neg h4]
     split at h
     ·cases h
     ·rename_i h5
      rw [if_neg h5]
      refine ⟨rfl, ?_⟩
      have o := fmOcc_le f 0
      rw [hf.times_occ 0 (by omega) (by omega), f.szW_nodes _ (hf.nodes_val (by omega)), s.szW_nodes _ (hs.nodes_val (by omega)), subW_eq (by omega) (by omega) (by omega) (by omega), mulW_eq (by omega) (by omega) (by omega) (by omega)] at h5
      have hm : (fmOcc f 0 : Int) * ((tmSz s : Int) - 1) = ((fmOcc f 0 * (tmSz s - 1) : Nat) : Int) := by
       rw [Int.natCast_mul]; congr 1; omega
      have hb : fmOcc f 0 * (tmSz s - 1) ≤ 20000 * 20000 := Nat.mul_le_mul (by omega) (by omega)
      rw [hm, addW_eq (by omega) (by omega) (by omega) (by omega)] at h5
      rw [hf.inn_sz 0 (by omega) (by omega)]
      have := of_decide_eq_false (Bool.eq_false_iff.2 h5)
      omega
/-- The law of MatrixPut. -/
theorem law_matPut {g : List Ty} {f : Fm} {w c s : Tm} (hm : MkFm false 3 (g ++ [tNat]) f) (hg : ∀ y ∈ g, MkTy 1 y) (hgl : g.length ≤ 9) (ok : f.look.2 = 0)
  (mw : MkTm 2 (g ++ [tNat]) f.look.1.1 w) (mc : MkTm 2 (g ++ [tNat]) f.look.1.2 c) (ms : MkTm 2 g tNat s) (h : (matF f w c).2 = 0)
  (p1 : (fmPut (matF f w c).1 0 s).2 = 0) (p2 : (fmPut f 0 s).2 = 0) (p3 : (tmPut w 0 s).2 = 0) (p4 : (tmPut c 0 s).2 = 0) :
  (matF (fmPut f 0 s).1 (tmPut w 0 s).1 (tmPut c 0 s).1).2 = 4 ∨
  ((matF (fmPut f 0 s).1 (tmPut w 0 s).1 (tmPut c 0 s).1).2 = 0 ∧ (matF (fmPut f 0 s).1 (tmPut w 0 s).1 (tmPut c 0 s).1).1 = (fmPut (matF f w c).1 0 s).1) := by
 have hg1 : ∀ y ∈ g ++ [tNat], MkTy 1 y := by
  intro y hy
  rcases List.mem_append.1 hy with hy | hy
  ·exact hg y hy
  ·simp at hy; subst hy; exact .nat
 have hgood := law_matFree hm hg1 (by simp; omega) ok mw mc
 have hgG : ∀ y ∈ g ++ [tNat], TyG y := fun y hy => (hg1 y hy).G (by omega)
 have hgG0 : ∀ y ∈ g, TyG y := fun y hy => (hg y hy).G (by omega)
 have hgF : ∀ y ∈ g ++ [tNat], TyF y := fun y hy => (hg1 y hy).F
 have hg3 : ∀ y ∈ g ++ [tNat], tySz y ≤ 3 := fun y hy => (hg1 y hy).sz1
 have hG := hm.G hgG
 rcases hG.look with ⟨he, el, e0, g1, g2⟩ | e4
 case inr => rw [ok] at e4; cases e4
 have hsz : fmSz f ≤ 4096 := by
  rcases Nat.lt_or_ge 4096 (fmSz f) with h | h
  ·exfalso
   have hz := hm.sz hg3
   rw [hG.err_val (by have : 2 ^ 3 = 8 := rfl; omega), if_neg (by omega)] at he
   cases he
  ·exact h
 rw [el] at mw mc
 have b2 : bndT 64 2 = 1888 := rfl
 have hg64 : ∀ y ∈ g ++ [tNat], tySz y ≤ 64 := fun y hy => by have := hg3 y hy; omega
 have hg640 : ∀ y ∈ g, tySz y ≤ 64 := fun y hy => (hgG0 y hy).2
 have n1 := tySz_nat
 have zw := (mw.sz (M := 64) (by omega) hg64 g1.2).1
 have zc := (mc.sz (M := 64) (by omega) hg64 g2.2).1
 have zs := (ms.sz (M := 64) (by omega) hg640 (by omega)).1
 have lf := hm.least (m := 10000) (by omega) hg3 (by simp; omega)
 have lw := mw.least (M := 64) (m := 10000) (by omega) (by omega) hg64 g1.2 (by have := g1.2; simp; omega)
 have lc := mc.least (M := 64) (m := 10000) (by omega) (by omega) hg64 g2.2 (by have := g2.2; simp; omega)
 have ls := ms.least (M := 64) (m := 10000) (by omega) (by omega) hg640 (by omega) (by omega)
 have Gw := mw.G hgG g1
 have Gc := mc.G hgG g2
 have Gs := ms.G hgG0 .nat
 have hS := Shp.of hm hgG
 have ow : TmOk 10000 (g ++ [tNat]) w f.ch.1.1 := ⟨Gw, by omega, by simpa using lw, mw.tyF hgF g1.1⟩
 have oc : TmOk 10000 (g ++ [tNat]) c f.ch.1.2 := ⟨Gc, by omega, by simpa using lc, mc.tyF hgF g2.1⟩
 have os : SubOk 10000 s := ⟨Gs, by omega, by simpa using ls⟩
 rcases hgood with h4 | ⟨_, hgood⟩
 ·rw [h] at h4; cases h4
 obtain ⟨q1, _⟩ := fmPut_okF hgood.gd Gs (by have := hgood.sz; omega) (by omega) p1
 obtain ⟨q2, z2⟩ := fmPut_okF hG Gs (by omega) (by omega) p2
 obtain ⟨q3, z3⟩ := tmPut_ok Gw Gs (by omega) (by omega) p3
 obtain ⟨q4, z4⟩ := tmPut_ok Gc Gs (by omega) (by omega) p4
 rw [q1, q2, q3, q4]
 clear p1 p2 p3 p4 q1 q2 q3 q4
 have gw := ow.P (by omega) (by omega) os
 have gc := oc.P (by omega) (by omega) os
 have lsf : f.least 10000 = true := by simpa using lf
 have hS' : Shp 3 (fmInn s 0 f 0) := hS.inn Gs (least_mono (by omega) _ os.l) (fleast_mono (M := 10000) (by omega) hS lsf) 0 (by omega) (by omega)
 have hl' := fleast_inn (M := 10000) (by omega) (by omega) Gs os.l hS lsf 0 (by omega) (by omega)
 have ok' : (fmInn s 0 f 0).look.2 = 0 := by rw [look_ch hS'.G z2, ch_inn]; exact e0
 rcases matF_code ok (fleast_mono (M := 10000) (by omega) hS lsf) (least_mono (by omega) _ ow.l) (least_mono (by omega) _ oc.l) (Gw.err04 (by omega)) (Gc.err04 (by omega)) with h4 | ⟨h0, hq⟩
 ·rw [h] at h4; cases h4
 rcases matF_code ok' (fleast_mono (M := 10000 + 1000000) (by omega) hS' hl') (least_mono (show (10000 : Int) + 1000000 ≤ 268435456 by omega) _ gw.2) (least_mono (show (10000 : Int) + 1000000 ≤ 268435456 by omega) _ gc.2) (gw.1.err04 (by omega)) (gc.1.err04 (by omega)) with h4 | ⟨h0', hq'⟩
 ·exact .inl h4
 ·right
  refine ⟨h0', ?_⟩
  rw [hq] at h0 ⊢
  rw [hq'] at h0' ⊢
  have efd : fdp (fmInn s 0 f 0) = fdp f := by
   have esp : f.sp s = fmInn s 0 f 0 := fsp_inn Gs (by omega) (least_mono (by omega) _ os.l) hG 0 (by omega) (by omega)
   rw [← esp, Fm.sp, fdp_evx]
  rw [efd] at h0' ⊢
  refine mOf_put 3 (by omega) _ f (g ++ [tNat]) w c 10000 hS (Nat.le_refl _) (argsOk_of hsz) (by omega) (fun _ => ?_) e0 (by omega) (by omega) lsf ow oc os (by omega) (by omega) (by omega) (.inl (argsOk_of z2)) h0 h0'
  rintro k s' a rfl ⟨k1, s1, k2, s2, x, y, rfl⟩
  obtain ⟨m1, h1, hk⟩ := mk_q_inv hm
  obtain ⟨m2, h2, hk1⟩ := mk_q_inv h1
  obtain ⟨m3, h3, hk2⟩ := mk_q_inv h2
  obtain ⟨hx, hy⟩ := mk_eq_inv h3
  have hctx : ∀ z ∈ g ++ [tNat] ++ [s'] ++ [s1] ++ [s2], MkTy 1 z := by
   intro z hz
   rcases List.mem_append.1 hz with hz | hz
   ·rcases List.mem_append.1 hz with hz | hz
    ·rcases List.mem_append.1 hz with hz | hz
     ·exact hg1 z hz
     ·simp at hz; subst hz; exact m1.up (by omega)
    ·simp at hz; subst hz; exact m2.up (by omega)
   ·simp at hz; subst hz; exact m3.up (by omega)
  obtain ⟨x1, x2⟩ := hx.one hctx
  obtain ⟨y1, y2⟩ := hy.one hctx
  have q1 := (ch_q_ok e0).1
  have q2 := (ch_q_ok q1).1
  have t0 : tySz (fmEq x y).ch.1.1 ≤ 1 ∧ tySz (fmEq x y).ch.1.2 ≤ 1 := by rw [ch_eqn]; exact ⟨by rw [tySz_unit]; omega, by rw [tySz_unit]; omega⟩
  have t1 := ch_q_sz hk2 q2 m3.sz0 t0.1 t0.2
  have t2 := ch_q_sz hk1 q1 m2.sz0 t1.1 t1.2
  have t3 := ch_q_sz hk e0 m1.sz0 t2.1 t2.2
  have b7 : bndT 7 2 = 349 := rfl
  have hg7 : ∀ y ∈ g ++ [tNat], tySz y ≤ 7 := fun y hy => by have := hg3 y hy; omega
  have zw7 := (mw.sz (M := 7) (by omega) hg7 (by omega)).1
  have zc7 := (mc.sz (M := 7) (by omega) hg7 (by omega)).1
  have oq : ∀ {k : Int} (hk : k = 4 ∨ k = 5) {t : Ty} {z : Fm} {d : Int}, fmOcc (fmQ k t z) d = fmOcc z (d + 1) := fun hk => fmOcc_q (by rcases hk with h | h; exact .inl h; exact .inr (.inl h))
  rw [fmSz_q, fmSz_q, fmSz_eq, oq hk1, oq hk2, fmOcc_eq]
  have o1 := x2 (0 + 1 + 1) (by omega)
  have o2 := y2 (0 + 1 + 1) (by omega)
  have : (tmOcc x (0 + 1 + 1) + tmOcc y (0 + 1 + 1)) * max (tmSz w) (tmSz c) ≤ 6 * 349 := Nat.mul_le_mul (by omega) (by omega)
  omega
end GoAbs
namespace GoAbs
open Go
/- Content types. -/
def ctJoin (k : Int) (x y : Ty × Int) : Ty × Int :=
 if x.2 != 0 then (tZero, x.2) else if y.2 != 0 then (tZero, y.2) else if tyErr (.mk k [x.1, y.1]) != 0 then (tZero, tyErr (.mk k [x.1, y.1])) else (.mk k [x.1, y.1], 0)
def ctCase (k : Int) (t : Ty) (ps : List (Bool × (Ty × Int))) : Ty × Int :=
 if k == 2 then (if (ps.getD 0 (false, (tUnit, 0))).1 then (if (ps.getD 1 (false, (tUnit, 0))).1 then ctJoin 3 (ps.getD 0 (false, (tUnit, 0))).2 (ps.getD 1 (false, (tUnit, 0))).2 else (ps.getD 0 (false, (tUnit, 0))).2) else (ps.getD 1 (false, (tUnit, 0))).2)
 else if k == 3 then (if (ps.getD 1 (false, (tUnit, 0))).1 then (if (ps.getD 0 (false, (tUnit, 0))).1 then ctJoin 4 (ps.getD 0 (false, (tUnit, 0))).2 (ps.getD 1 (false, (tUnit, 0))).2 else (ps.getD 1 (false, (tUnit, 0))).2) else (tUnit, 0))
 else if k == 4 then (if (ps.getD 0 (false, (tUnit, 0))).1 then ctJoin 4 (t, 0) (ps.getD 0 (false, (tUnit, 0))).2 else (tUnit, 0))
 else if k == 5 then (if (ps.getD 0 (false, (tUnit, 0))).1 then ctJoin 3 (t, 0) (ps.getD 0 (false, (tUnit, 0))).2 else (t, 0))
 else if k == 1 then (tUnit, 0) else (ps.getD 0 (false, (tUnit, 0))).2
mutual
def Fm.ct : Fm → Ty × Int
 | .mk k t _ a => ctCase k t (Fm.ctL a)
def Fm.ctL : List Fm → List (Bool × (Ty × Int))
 | [] => []
 | f :: l => (f.fl.c, f.ct) :: Fm.ctL l
end
theorem ct_eqn {x y : Tm} : (fmEq x y).ct = (tUnit, 0) := rfl
theorem ct_two {k : Int} {a b : Fm} : (fmTwo k a b).ct = ctCase k (.mk 0 []) [(a.fl.c, a.ct), (b.fl.c, b.ct)] := by rw [fmTwo, Fm.ct, Fm.ctL, Fm.ctL, Fm.ctL]
theorem ct_and {a b : Fm} : (fmTwo 2 a b).ct = if a.fl.c then (if b.fl.c then ctJoin 3 a.ct b.ct else a.ct) else b.ct := by rw [ct_two]; rfl
theorem ct_imp {a b : Fm} : (fmTwo 3 a b).ct = if b.fl.c then (if a.fl.c then ctJoin 4 a.ct b.ct else b.ct) else (tUnit, 0) := by rw [ct_two]; rfl
theorem ct_q {k : Int} {t : Ty} {a : Fm} : (fmQ k t a).ct = ctCase k t [(a.fl.c, a.ct)] := by rw [fmQ, Fm.ct, Fm.ctL, Fm.ctL]
theorem ct_all {t : Ty} {a : Fm} : (fmQ 4 t a).ct = if a.fl.c then ctJoin 4 (t, 0) a.ct else (tUnit, 0) := by rw [ct_q]; rfl
theorem ct_ex {t : Ty} {a : Fm} : (fmQ 5 t a).ct = if a.fl.c then ctJoin 3 (t, 0) a.ct else (t, 0) := by rw [ct_q]; rfl
theorem ct_allu {t : Ty} {a : Fm} : (fmQ 6 t a).ct = a.ct := by rw [ct_q]; rfl
theorem ct_exu {t : Ty} {a : Fm} : (fmQ 7 t a).ct = a.ct := by rw [ct_q]; rfl
def Fm.cty (f : Fm) : Ty × Int := if fmErr f != 0 then (tZero, fmErr f) else f.ct
def Fm.hc (f : Fm) : Bool := (f.has 1).1
/- realize. -/
def rlCall (t : Tm) : Tm := tm0 3 [t.sl 1 0, tmVar 0]
def rlPart (b : Bool) (k : Int) (t : Tm) : Tm := if b then tm0 k [t] else t
def rlBuild (k : Int) (s : Ty) (x : Fm × Int) : Fm × Int := if x.2 != 0 then (zeroF, x.2) else if decide ((fmQ k s x.1).szW > 4096) then (zeroF, 4) else (fmQ k s x.1, 0)
def Fm.slf (f : Fm) (b : Int) : Fm := f.ev (fun t d => t.sl b d) 0
mutual
def Fm.exs : Fm → Int
 | .mk k _ _ a => Fm.exsL (if k == 5 then 1 else 0) a
def Fm.exsL : Int → List Fm → Int
 | n, [] => n
 | n, f :: l => Fm.exsL (addW n f.exs) l
end
theorem Fm.exs_eq (f : Fm) : f.exs = Fm.exsL (if f.kind == 5 then 1 else 0) f.args := by cases f; rw [Fm.exs]; rfl
theorem Fm.exsL_nil {n : Int} : Fm.exsL n [] = n := by rw [Fm.exsL]
theorem Fm.exsL_cons {n : Int} {f : Fm} {l : List Fm} : Fm.exsL n (f :: l) = Fm.exsL (addW n f.exs) l := by rw [Fm.exsL]
def rlAnd (r : Fm → Tm → Fm × Int) (a b : Fm) (t : Tm) : Fm × Int := mTwo 2 (r a (rlPart (a.hc && b.hc) 11 t)) (r b (rlPart (a.hc && b.hc) 12 t))
def rlUp (b : Bool) (t : Tm) : Tm := if b then rlCall t else t.sl 1 0
def rlImp (r : Fm → Tm → Fm × Int) (a b : Fm) (t : Tm) : Fm × Int :=
 if !a.hc then mTwo 3 (r a t) (r b t) else if a.cty.2 != 0 then (zeroF, a.cty.2)
 else rlBuild 4 a.cty.1 (mTwo 3 (r (a.slf 1) (tmVar 0)) (r (b.slf 1) (rlUp b.hc t)))
def rlQ (r : Fm → Tm → Fm × Int) (k : Int) (s : Ty) (a : Fm) (t : Tm) : Fm × Int := rlBuild (if k == 6 then 4 else k) s (r a (rlUp (k == 4 && a.hc) t))
def rlEx (r : Fm → Tm → Fm × Int) (a : Fm) (t : Tm) : Fm × Int :=
 if decide ((rlPart a.hc 11 t).szW > 4096) || decide (subW (a.grown (rlPart a.hc 11 t)) a.exs > 4096) then (zeroF, 4) else r (a.sp (rlPart a.hc 11 t)) (rlPart a.hc 12 t)
def rlOf : Nat → Fm → Tm → Fm × Int
 | 0, _, _ => (zeroF, 4)
 | n + 1, f, t =>
  if decide (t.szW > 4096) then (zeroF, 4)
  else if f.kind == 2 then rlAnd (rlOf n) (f.args.getD 0 zeroF) (f.args.getD 1 zeroF) t
  else if f.kind == 3 then rlImp (rlOf n) (f.args.getD 0 zeroF) (f.args.getD 1 zeroF) t
  else if f.kind == 4 || f.kind == 6 || f.kind == 7 then rlQ (rlOf n) f.kind f.type (f.args.getD 0 zeroF) t
  else if f.kind == 5 then rlEx (rlOf n) (f.args.getD 0 zeroF) t
  else (f, 0)
def rlF (f : Fm) (t : Tm) : Fm × Int :=
 if fmErr f != 0 then (zeroF, fmErr f) else if tmErr t != 0 then (zeroF, tmErr t)
 else if f.far || !t.least 268435456 then (zeroF, 1) else rlOf (fdp f) f (if f.hc then t else tm0 13 [])
/-- Content does not depend on terms. -/
theorem infoL_map : ∀ l : List Fm, Fm.infoL l = l.map Fm.info
 | [] => by simp [Fm.infoL]
 | x :: l => by simp [Fm.infoL, infoL_map l]
theorem fl_c_ev {F : Tm → Int → Tm} : ∀ (f : Fm) (b : Int), (f.ev F b).fl.c = f.fl.c := by
 intro f
 induction f using Fm.ind with | h f ih => ?_
 intro b
 rw [Fm.ev_eq]
 obtain ⟨k, t, l, a⟩ := f
 simp only [Fm.args, Fm.kind, Fm.type] at ih ⊢
 have key : ∀ i : Nat, (((a.map fun x => x.ev F (evB k b)).map Fm.info).getD i (.z, [])).1.c = ((a.map Fm.info).getD i (.z, [])).1.c := by
  intro i
  rw [List.getD_eq_getElem?_getD, List.getD_eq_getElem?_getD, List.getElem?_map, List.getElem?_map, List.getElem?_map]
  cases h : a[i]? with
  | none => rfl
  | some x => exact ih x (List.mem_of_getElem? h) _
 unfold Fm.fl
 rw [Fm.info, Fm.info, infoL_map, infoL_map]
 unfold flag
 split
 ·rfl
 split
 ·simp only [key]
 ·simp only [key]
theorem fl_c_q {k : Int} {t : Ty} {a : Fm} (h : 4 ≤ k) : (fmQ k t a).fl.c = (a.fl.c || k == 5) := Fm.fl_qc h
theorem fl_c_two {k : Int} {a b : Fm} (h : k = 2 ∨ k = 3) : (fmTwo k a b).fl.c = (b.fl.c || (k == 2 && a.fl.c)) := by rw [Fm.fl_two h]
theorem ctL_map : ∀ l : List Fm, Fm.ctL l = l.map fun f => (f.fl.c, f.ct)
 | [] => by simp [Fm.ctL]
 | x :: l => by simp [Fm.ctL, ctL_map l]
theorem ct_ev {F : Tm → Int → Tm} : ∀ (f : Fm) (b : Int), (f.ev F b).ct = f.ct := by
 intro f
 induction f using Fm.ind with | h f ih => ?_
 intro b
 rw [Fm.ev_eq]
 obtain ⟨k, t, l, a⟩ := f
 simp only [Fm.args, Fm.kind, Fm.type] at ih ⊢
 rw [Fm.ct, Fm.ct, ctL_map, ctL_map, List.map_map]
 congr 1
 refine List.map_congr_left fun x hx => ?_
 simp only [Function.comp, fl_c_ev, ih x hx]
end GoAbs
namespace GoAbs
open Go
theorem fmG_k {k : Int} (hk : k = 4 ∨ k = 5 ∨ (True ∧ (k = 6 ∨ k = 7))) : k = 4 ∨ k = 5 ∨ k = 6 ∨ k = 7 := by omega
theorem FmG.qk {u : Bool} {k : Int} (hk : k = 4 ∨ k = 5 ∨ (u = true ∧ (k = 6 ∨ k = 7))) : k = 4 ∨ k = 5 ∨ k = 6 ∨ k = 7 := by
 rcases hk with h | h | ⟨_, h | h⟩ <;> simp [h]
theorem below_q {k : Int} (hk : k = 4 ∨ k = 5 ∨ k = 6 ∨ k = 7) : fmBelow k = 1 := by rcases hk with rfl | rfl | rfl | rfl <;> rfl
theorem fdp_q {k : Int} {t : Ty} {a : Fm} : fdp (fmQ k t a) = fdp a + 1 := by simp [fmQ, fdp, fdpL]
theorem fleastG_mono {M M' : Int} (hM : M ≤ M') {u : Bool} {f : Fm} (h : FmG u f) : f.least M = true → f.least M' = true := by
 induction h with
 | eq _ _ => intro hl; obtain ⟨l1, l2⟩ := fleast_eq.1 hl; exact fleast_eq.2 ⟨least_mono hM _ l1, least_mono hM _ l2⟩
 | two _ _ _ h1 h2 => intro hl; obtain ⟨l1, l2⟩ := fleast_parts2 hl; exact fleast_two (h1 l1) (h2 l2)
 | q _ _ _ h1 => intro hl; exact least_q (h1 (fleast_part hl))
theorem fleastG_inn {M : Int} (hM : 0 ≤ M) (hM2 : M ≤ 900000000) {s : Tm} (hs : TmG s) (hsl : s.least M = true) {u : Bool} {f : Fm} (h : FmG u f) : f.least M = true → ∀ d : Int, 0 ≤ d → d + fmSz f ≤ 500000 →
  (fmInn s 0 f d).least (M + 1000000) = true := by
 induction h with
 | @eq x y hx hy =>
  intro hl d h0 hb
  rw [fmSz_eq] at hb
  obtain ⟨l1, l2⟩ := fleast_eq.1 hl
  rw [fmInn_eqn]
  exact fleast_eq.2 ⟨least_inn hM hM2 hs hsl _ hx (Nat.le_refl _) l1 d h0 (by omega), least_inn hM hM2 hs hsl _ hy (Nat.le_refl _) l2 d h0 (by omega)⟩
 | @two k p q hk _ _ h1 h2 =>
  intro hl d h0 hb
  rw [fmSz_two] at hb
  obtain ⟨l1, l2⟩ := fleast_parts2 hl
  rw [fmInn_two, below_two hk, addW_zero h0 (by omega)]
  exact fleast_two (h1 l1 d h0 (by omega)) (h2 l2 d h0 (by omega))
 | @q k t p hk ht _ h1 =>
  intro hl d h0 hb
  rw [fmSz_q] at hb
  have hr := fmBelow_range k
  have e := addW_eq (a := d) (b := fmBelow k) (by omega) (by omega) (by omega) (by omega)
  rw [fmInn_q, e]
  exact least_q (h1 (fleast_part hl) _ (by omega) (by omega))
theorem fmUp2 {k b d : Int} {p q : Fm} (hk : k = 2 ∨ k = 3) (h0 : 0 ≤ d) (h1 : d ≤ 1000000) : (fmTwo k p q).up b d = fmTwo k (p.up b d) (q.up b d) := by
 rw [fmTwo, Fm.up_eq]
 simp only [Fm.kind, Fm.terms, Fm.args, Fm.type, List.map_cons, List.map_nil]
 rw [below_two hk, addW_zero h0 (by omega)]; rfl
theorem fmUpq {k b d : Int} {t : Ty} {p : Fm} (hk : k = 4 ∨ k = 5 ∨ k = 6 ∨ k = 7) (h0 : 0 ≤ d) (h1 : d ≤ 1000000) : (fmQ k t p).up b d = fmQ k t (p.up b (d + 1)) := by
 rw [fmQ, Fm.up_eq]
 simp only [Fm.kind, Fm.terms, Fm.args, Fm.type, List.map_cons, List.map_nil]
 rw [below_q hk, addW_eq (by omega) (by omega) (by omega) (by omega)]; rfl
/-- Lifting of the program and of the reference. -/
theorem slf_up {u : Bool} {b : Int} (hb0 : 0 ≤ b) (hb : b ≤ 1000000) {f : Fm} (h : FmG u f) : f.least 1000000000 = true → ∀ d : Int, 0 ≤ d → d + fmSz f ≤ 500000 → f.ev (fun t d => t.sl b d) d = f.up b d := by
 induction h with
 | @eq x y hx hy =>
  intro hl d h0 hd
  rw [fmSz_eq] at hd
  obtain ⟨l1, l2⟩ := fleast_eq.1 hl
  rw [fmUp_eqn, fmEq, Fm.ev_eq]
  have e : evB 1 d = d := by rw [evB_eq h0 (by omega)]; show d + 0 = d; omega
  simp only [Fm.kind, Fm.terms, Fm.args, Fm.type, List.map_cons, List.map_nil, e]
  rw [sl_up hb0 hb _ hx (Nat.le_refl _) l1 d h0 (by omega), sl_up hb0 hb _ hy (Nat.le_refl _) l2 d h0 (by omega)]
  rfl
 | @two k p q hk _ _ h1 h2 =>
  intro hl d h0 hd
  rw [fmSz_two] at hd
  obtain ⟨l1, l2⟩ := fleast_parts2 hl
  rw [fmUp2 hk h0 (by omega), fmTwo, Fm.ev_eq]
  simp only [Fm.kind, Fm.terms, Fm.args, Fm.type, List.map_cons, List.map_nil]
  rw [evB_eq h0 (by omega), below_two hk, Int.add_zero, h1 l1 d h0 (by omega), h2 l2 d h0 (by omega)]
  rfl
 | @q k t p hk hs _ h1 =>
  intro hl d h0 hd
  rw [fmSz_q] at hd
  rw [fmUpq (FmG.qk hk) h0 (by omega), fmQ, Fm.ev_eq]
  simp only [Fm.kind, Fm.terms, Fm.args, Fm.type, List.map_cons, List.map_nil]
  rw [evB_eq h0 (by omega), below_q (FmG.qk hk), h1 (fleast_part hl) _ (by omega) (by omega)]
  rfl
theorem fleastG_up {M b : Int} (hM : 0 ≤ M) (hM2 : M ≤ 900000000) (hb0 : 0 ≤ b) (hb : b ≤ 1000000) {u : Bool} {f : Fm} (h : FmG u f) : f.least M = true → ∀ d : Int, 0 ≤ d → d + fmSz f ≤ 500000 →
  (f.up b d).least (M + b) = true := by
 induction h with
 | @eq x y hx hy =>
  intro hl d h0 hd
  obtain ⟨l1, l2⟩ := fleast_eq.1 hl
  rw [fmUp_eqn]
  exact fleast_eq.2 ⟨least_up hM (by omega) hb0 hb _ hx (Nat.le_refl _) l1 d, least_up hM (by omega) hb0 hb _ hy (Nat.le_refl _) l2 d⟩
 | @two k p q hk _ _ h1 h2 =>
  intro hl d h0 hd
  rw [fmSz_two] at hd
  obtain ⟨l1, l2⟩ := fleast_parts2 hl
  rw [fmUp2 hk h0 (by omega)]
  exact fleast_two (h1 l1 d h0 (by omega)) (h2 l2 d h0 (by omega))
 | @q k t p hk ht _ h1 =>
  intro hl d h0 hd
  rw [fmSz_q] at hd
  rw [fmUpq (FmG.qk hk) h0 (by omega)]
  exact least_q (h1 (fleast_part hl) _ (by omega) (by omega))
theorem FmTy.upl {Q : Ty → Prop} {m g' : List Ty} {f : Fm} (h : FmTy Q g' f) : ∀ g l : List Ty, g' = g ++ l → l.length + fmSz f ≤ 40000 → g.length ≤ 40000 → m.length ≤ 40000 → FmTy Q (g ++ m ++ l) (f.up (m.length : Int) (l.length : Int)) := by
 induction h with
 | @eq g' p q h1 h2 =>
  intro g l e hb hg hm
  rw [fmSz_eq] at hb
  rw [fmUp_eqn]
  exact .eq (h1.upl g l e (by omega) (by omega) (by omega)) (h2.upl g l e (by omega) (by omega) (by omega))
 | @two g' k p q hk _ _ ih1 ih2 =>
  intro g l e hb hg hm
  rw [fmSz_two] at hb
  rw [fmUp2 hk (by omega) (by omega)]
  exact .two hk (ih1 g l e (by omega) hg hm) (ih2 g l e (by omega) hg hm)
 | @q g' k s p hk _ ih =>
  intro g l e hb hg hm
  subst e
  rw [fmSz_q] at hb
  rw [fmUpq hk (by omega) (by omega)]
  have := ih g (l ++ [s]) (by simp) (by simp; omega) hg hm
  refine .q hk ?_
  rw [List.append_assoc]
  have e1 : ((l ++ [s]).length : Int) = (l.length : Int) + 1 := by simp
  rw [e1] at this; exact this
theorem FmTy.innQ {Q : Ty → Prop} {a : Ty} {x : Tm} {f : Fm} {g' : List Ty} (h : FmTy Q g' f) : ∀ g l : List Ty, g' = g ++ [a] ++ l → HasTy Q g x a → l.length + fmSz f ≤ 40000 → g.length + tmSz x ≤ 40000 → FmTy Q (g ++ l) (fmInn x 0 f (l.length : Int)) := by
 induction h with
 | @eq g' p q h1 h2 =>
  intro g l e hx hb hg
  rw [fmSz_eq] at hb
  rw [fmInn_eqn]
  exact .eq (h1.inn g l e hx (by omega) (by omega)) (h2.inn g l e hx (by omega) (by omega))
 | @two g' k p q hk _ _ ih1 ih2 =>
  intro g l e hx hb hg
  rw [fmSz_two] at hb
  rw [fmInn_two, below_two hk, addW_zero (by omega) (by omega)]
  exact .two hk (ih1 g l e hx (by omega) hg) (ih2 g l e hx (by omega) hg)
 | @q g' k s p hk _ ih =>
  intro g l e hx hb hg
  subst e
  rw [fmSz_q] at hb
  have hq : fmBelow k = 1 := by rcases hk with rfl | rfl | rfl | rfl <;> rfl
  have e1 : addW (l.length : Int) (fmBelow k) = ((l ++ [s]).length : Int) := by
   rw [hq, addW_eq (by omega) (by omega) (by omega) (by omega)]; simp
  rw [fmInn_q, e1]
  refine .q hk ?_
  have := ih g (l ++ [s]) (by simp) hx (by simp; omega) hg
  rw [List.append_assoc]; exact this
/- Existential quantifiers are counted. -/
theorem exs_eqn {x y : Tm} : (fmEq x y).exs = 0 := by rw [fmEq, Fm.exs, Fm.exsL_nil]; rfl
theorem exs_range {u : Bool} {f : Fm} (h : FmG u f) : fmSz f ≤ 1000000 → 0 ≤ f.exs ∧ f.exs ≤ fmSz f := by
 induction h with
 | @eq x y hx hy => intro hb; rw [exs_eqn]; omega
 | @two k p q hk _ _ h1 h2 =>
  intro hb
  rw [fmSz_two] at hb ⊢
  obtain ⟨a1, a2⟩ := h1 (by omega)
  obtain ⟨b1, b2⟩ := h2 (by omega)
  have e : (k == 5) = false := by rcases hk with rfl | rfl <;> rfl
  rw [fmTwo, Fm.exs, e, Fm.exsL_cons, Fm.exsL_cons, Fm.exsL_nil]
  simp only [Bool.false_eq_true, if_false]
  rw [addW_z (by omega) (by omega), addW_eq (by omega) (by omega) (by omega) (by omega)]
  omega
 | @q k t p hk hs _ h1 =>
  intro hb
  rw [fmSz_q] at hb ⊢
  obtain ⟨a1, a2⟩ := h1 (by omega)
  rw [fmQ, Fm.exs, Fm.exsL_cons, Fm.exsL_nil]
  by_cases hq : (k == 5) = true
  ·rw [if_pos hq, addW_eq (by omega) (by omega) (by omega) (by omega)]; omega
  ·rw [if_neg hq, addW_z (by omega) (by omega)]; omega
theorem exs_two {k : Int} (hk : k = 2 ∨ k = 3) {u : Bool} {p q : Fm} (hp : FmG u p) (hq : FmG u q) (h1 : fmSz p ≤ 1000000) (h2 : fmSz q ≤ 1000000) : (fmTwo k p q).exs = p.exs + q.exs := by
 obtain ⟨a1, a2⟩ := exs_range hp h1
 obtain ⟨b1, b2⟩ := exs_range hq h2
 have e : (k == 5) = false := by rcases hk with rfl | rfl <;> rfl
 rw [fmTwo, Fm.exs, e, Fm.exsL_cons, Fm.exsL_cons, Fm.exsL_nil]
 simp only [Bool.false_eq_true, if_false]
 rw [addW_z (by omega) (by omega), addW_eq (by omega) (by omega) (by omega) (by omega)]
theorem exs_q {k : Int} {s : Ty} {u : Bool} {p : Fm} (hp : FmG u p) (h1 : fmSz p ≤ 1000000) : (fmQ k s p).exs = p.exs + (if k == 5 then 1 else 0) := by
 obtain ⟨a1, a2⟩ := exs_range hp h1
 rw [fmQ, Fm.exs, Fm.exsL_cons, Fm.exsL_nil]
 split
 ·rw [addW_eq (by omega) (by omega) (by omega) (by omega)]; omega
 ·rw [addW_z (by omega) (by omega)]; omega
theorem fmG_ge3 {u : Bool} {f : Fm} (h : FmG u f) : 3 ≤ fmSz f := by
 induction h with
 | @eq x y _ _ => rw [fmSz_eq]; have := tmSz_pos x; have := tmSz_pos y; omega
 | two _ _ _ h1 h2 => rw [fmSz_two]; omega
 | q _ _ _ h1 => rw [fmSz_q]; omega
theorem exs_1 {u : Bool} {f : Fm} (h : FmG u f) (hd : fdp f ≤ 1) : f.exs = 0 := by
 cases h with
 | eq _ _ => exact exs_eqn
 | @two k a b hk ha hb => rw [fdp_two] at hd; have := fdp_pos a; omega
 | @q k s a hk hs ha => rw [fdp_q] at hd; have := fdp_pos a; omega
theorem exs_2 {u : Bool} {f : Fm} (h : FmG u f) (hd : fdp f ≤ 2) (hz : fmSz f ≤ 100000) : f.exs = 0 ∨ (f.exs = 1 ∧ ∃ s x y, f = fmQ 5 s (fmEq x y)) := by
 cases h with
 | eq _ _ => exact .inl exs_eqn
 | @two k a b hk ha hb =>
  rw [fmSz_two] at hz; rw [fdp_two] at hd
  left; rw [exs_two hk ha hb (by omega) (by omega), exs_1 ha (by omega), exs_1 hb (by omega)]; rfl
 | @q k s a hk hs ha =>
  rw [fmSz_q] at hz; rw [fdp_q] at hd
  rw [exs_q ha (by omega), exs_1 ha (by omega)]
  by_cases h5 : k = 5
  ·subst h5
   right
   refine ⟨rfl, ?_⟩
   cases ha with
   | @eq x y _ _ => exact ⟨s, x, y, rfl⟩
   | @two k a b hk ha hb => rw [fdp_two] at hd; have := fdp_pos a; omega
   | @q k s a hk hs ha => rw [fdp_q] at hd; have := fdp_pos a; omega
  ·left; have : (k == 5) = false := by simpa using h5
   rw [this]; rfl
/-- Two existential quantifiers in front of an equation. -/
def EEE (a : Fm) : Prop := ∃ s s' x y, a = fmQ 5 s (fmQ 5 s' (fmEq x y))
theorem argsR_inn {u : Bool} {x : Tm} {a : Fm} (h : FmG u a) (hd : fdp a ≤ 3) (za : fmSz a ≤ 4096) (hz : (fmSz (fmInn x 0 a 0) : Int) ≤ 4096 + a.exs) (hc : EEE a → fmSz (fmInn x 0 a 0) ≤ 4096) : ArgsOk (fmInn x 0 a 0) := by
 have sz : ∀ {f : Fm}, FmG u f → ∀ d : Int, 0 ≤ d → d + fmSz f ≤ 500000 → 3 ≤ fmSz (fmInn x 0 f d) := fun {f} hf d h0 hb => by
  have := hf.inn_sz (s := x) d h0 hb
  have := fmG_ge3 hf
  omega
 cases h with
 | @eq p q _ _ =>
  rw [exs_eqn] at hz
  exact ⟨by rw [fmInn_eqn]; simp [fmEq, Fm.args], fun _ => by omega⟩
 | @two k p q hk h1 h2 =>
  rw [fmSz_two] at za
  rw [fdp_two] at hd
  rw [exs_two hk h1 h2 (by omega) (by omega)] at hz
  rw [fmInn_two, below_two hk, addW_zero (by omega) (by omega)] at hz ⊢
  rw [fmSz_two] at hz
  have s1 := sz h1 0 (by omega) (by omega)
  have s2 := sz h2 0 (by omega) (by omega)
  have hq : p.exs ≤ 1 ∧ q.exs ≤ 1 := by
   rcases exs_2 h1 (by omega) (by omega) with e | ⟨e, _⟩ <;> rcases exs_2 h2 (by omega) (by omega) with e' | ⟨e', _⟩ <;> omega
  refine ⟨fun b hb => ?_, fun e => by simp [fmTwo, Fm.args] at e⟩
  simp [fmTwo, Fm.args] at hb
  rcases hb with rfl | rfl <;> omega
 | @q k s p hk hs h1 =>
  rw [fmSz_q] at za
  rw [fdp_q] at hd
  rw [exs_q h1 (by omega)] at hz
  have e1 : addW 0 (fmBelow k) = 1 := by rw [below_q (FmG.qk hk)]; rfl
  rw [fmInn_q, e1] at hz hc ⊢
  rw [fmSz_q] at hz hc
  refine ⟨fun b hb => ?_, fun e => by simp [fmQ, Fm.args] at e⟩
  simp [fmQ, Fm.args] at hb
  subst hb
  rcases exs_2 h1 (by omega) (by omega) with e | ⟨e, s', u', v, rfl⟩
  ·rw [e] at hz; split at hz <;> omega
  ·rw [e] at hz
   by_cases h5 : k = 5
   ·subst h5
    have := hc ⟨s, s', u', v, rfl⟩
    omega
   ·have : (k == 5) = false := by simpa using h5
    rw [this] at hz; simp only [Bool.false_eq_true, if_false] at hz; omega
end GoAbs
namespace GoAbs
open Go
theorem ctJoin_G {k : Int} (hk : k = 3 ∨ k = 4) {x y : Ty × Int} (hx : (x.2 = 0 ∧ TyG x.1) ∨ x.2 = 4) (hy : (y.2 = 0 ∧ TyG y.1) ∨ y.2 = 4) :
  ((ctJoin k x y).2 = 0 ∧ TyG (ctJoin k x y).1 ∧ x.2 = 0 ∧ y.2 = 0 ∧ (ctJoin k x y).1 = .mk k [x.1, y.1]) ∨ (ctJoin k x y).2 = 4 := by
 unfold ctJoin
 rcases hx with ⟨ex, gx⟩ | ex
 case inr => rw [ex]; right; rfl
 rcases hy with ⟨ey, gy⟩ | ey
 case inr => rw [ex, ey]; right; rfl
 have hF : TyF (.mk k [x.1, y.1]) := by
  rcases hk with rfl | rfl
  ·exact .pair gx.1 gy.1
  ·exact .func gx.1 gy.1
 have hs : tySz (.mk k [x.1, y.1]) = tySz x.1 + tySz y.1 + 1 := by
  rcases hk with rfl | rfl
  ·exact tySz_pair
  ·exact tySz_fun
 have z1 := gx.2
 have z2 := gy.2
 have he := hF.err (by omega)
 rw [ex, ey]
 by_cases h64 : tySz (.mk k [x.1, y.1]) ≤ 64
 ·rw [if_pos h64] at he
  rw [he]
  exact .inl ⟨rfl, ⟨hF, h64⟩, rfl, rfl, rfl⟩
 ·rw [if_neg h64] at he
  rw [he]
  right; rfl
theorem ct_none {u : Bool} {f : Fm} (h : FmG u f) : f.fl.c = false → f.ct = (tUnit, 0) := by
 induction h with
 | eq _ _ => intro _; exact ct_eqn
 | @two k a b hk _ _ h1 h2 =>
  intro hc
  rw [fl_c_two hk, Bool.or_eq_false_iff] at hc
  rcases hk with rfl | rfl
  ·have ha : a.fl.c = false := by simpa using hc.2
   rw [ct_and, ha]
   simp only [Bool.false_eq_true, if_false]
   exact h2 hc.1
  ·rw [ct_imp, hc.1]
   simp only [Bool.false_eq_true, if_false]
 | @q k s a hk hs _ h1 =>
  intro hc
  have h4 : 4 ≤ k := by rcases FmG.qk hk with rfl | rfl | rfl | rfl <;> omega
  rw [fl_c_q h4, Bool.or_eq_false_iff] at hc
  rcases FmG.qk hk with rfl | rfl | rfl | rfl
  ·rw [ct_all, hc.1]; rfl
  ·cases hc.2
  ·rw [ct_allu]; exact h1 hc.1
  ·rw [ct_exu]; exact h1 hc.1
theorem ct_G {u : Bool} {f : Fm} (h : FmG u f) : (f.ct.2 = 0 ∧ TyG f.ct.1) ∨ f.ct.2 = 4 := by
 have fin : ∀ {k : Int} {x y : Ty × Int}, (k = 3 ∨ k = 4) → ((x.2 = 0 ∧ TyG x.1) ∨ x.2 = 4) → ((y.2 = 0 ∧ TyG y.1) ∨ y.2 = 4) → ((ctJoin k x y).2 = 0 ∧ TyG (ctJoin k x y).1) ∨ (ctJoin k x y).2 = 4 := by
  intro k x y hk hx hy
  rcases ctJoin_G hk hx hy with ⟨a, b, _⟩ | h
  ·exact .inl ⟨a, b⟩
  ·exact .inr h
 induction h with
 | eq _ _ => exact .inl ⟨rfl, TyG.unit⟩
 | @two k a b hk _ _ h1 h2 =>
  rcases hk with rfl | rfl
  ·rw [ct_and]
   split
   ·split
    ·exact fin (.inl rfl) h1 h2
    ·exact h1
   ·exact h2
  ·rw [ct_imp]
   split
   ·split
    ·exact fin (.inr rfl) h1 h2
    ·exact h2
   ·exact .inl ⟨rfl, TyG.unit⟩
 | @q k s a hk hs _ h1 =>
  rcases FmG.qk hk with rfl | rfl | rfl | rfl
  ·rw [ct_all]; split
   ·exact fin (.inr rfl) (.inl ⟨rfl, hs⟩) h1
   ·exact .inl ⟨rfl, TyG.unit⟩
  ·rw [ct_ex]; split
   ·exact fin (.inl rfl) (.inl ⟨rfl, hs⟩) h1
   ·exact .inl ⟨rfl, hs⟩
  ·rw [ct_allu]; exact h1
  ·rw [ct_exu]; exact h1
theorem ct_join2 {k : Int} (hk : k = 3 ∨ k = 4) {u : Bool} {a b : Fm} (ha : FmG u a) (hb : FmG u b) (h : (ctJoin k a.ct b.ct).2 = 0) : a.ct.2 = 0 ∧ b.ct.2 = 0 ∧ (ctJoin k a.ct b.ct).1 = .mk k [a.ct.1, b.ct.1] := by
 rcases ctJoin_G hk (ct_G ha) (ct_G hb) with ⟨_, _, h1, h2, h3⟩ | h4
 ·exact ⟨h1, h2, h3⟩
 ·rw [h] at h4; cases h4
theorem ct_join1 {k : Int} (hk : k = 3 ∨ k = 4) {u : Bool} {s : Ty} (hs : TyG s) {b : Fm} (hb : FmG u b) (h : (ctJoin k (s, 0) b.ct).2 = 0) : b.ct.2 = 0 ∧ (ctJoin k (s, 0) b.ct).1 = .mk k [s, b.ct.1] := by
 rcases ctJoin_G (x := (s, 0)) hk (.inl ⟨rfl, hs⟩) (ct_G hb) with ⟨_, _, _, h2, h3⟩ | h4
 ·exact ⟨h2, h3⟩
 ·rw [h] at h4; cases h4
/-- The content types of formulas that are made are small. -/
theorem ct_sz {n : Nat} {g : List Ty} {f : Fm} (h : MkFm true n g f) : (∀ y ∈ g, TyG y) → f.ct.2 = 0 → tySz f.ct.1 + 1 ≤ 2 * 2 ^ n ∧ (f.fl.c = true → 1 ≤ n) := by
 have p2 : ∀ n : Nat, 2 ^ (n + 1) = 2 * 2 ^ n := fun n => by rw [Nat.pow_succ, Nat.mul_comm]
 have pp : ∀ n : Nat, 1 ≤ 2 ^ n := fun n => Nat.one_le_two_pow
 induction h with
 | @eq n g x y h1 h2 =>
  intro _ _
  have := pp n
  exact ⟨by rw [ct_eqn, tySz_unit]; omega, fun h => by rw [Fm.fl_eqn] at h; cases h⟩
 | @two n g k a b hk ma mb h1 h2 =>
  intro hg ok
  refine ⟨?_, fun _ => by omega⟩
  rw [p2]
  have ga := ma.G hg
  have gb := mb.G hg
  have := pp n
  rcases hk with rfl | rfl
  ·rw [ct_and] at ok ⊢
   cases ca : a.fl.c <;> rw [ca] at ok
   ·have := (h2 hg ok).1; simp only [Bool.false_eq_true, if_false] at ok ⊢; omega
   cases cb : b.fl.c <;> rw [cb] at ok
   ·have := (h1 hg ok).1; simp only [Bool.false_eq_true, if_false, if_true] at ok ⊢; omega
   simp only [if_true] at ok ⊢
   obtain ⟨e1, e2, e3⟩ := ct_join2 (.inl rfl) ga gb ok
   have z1 := (h1 hg e1).1
   have z2 := (h2 hg e2).1
   rw [e3]
   show tySz (tPair _ _) + 1 ≤ _
   rw [tySz_pair]; omega
  ·rw [ct_imp] at ok ⊢
   cases cb : b.fl.c <;> rw [cb] at ok
   ·simp only [Bool.false_eq_true, if_false]; rw [tySz_unit]; omega
   cases ca : a.fl.c <;> rw [ca] at ok
   ·have := (h2 hg ok).1; simp only [Bool.false_eq_true, if_false, if_true] at ok ⊢; omega
   simp only [if_true] at ok ⊢
   obtain ⟨e1, e2, e3⟩ := ct_join2 (.inr rfl) ga gb ok
   have z1 := (h1 hg e1).1
   have z2 := (h2 hg e2).1
   rw [e3]
   show tySz (tFun _ _) + 1 ≤ _
   rw [tySz_fun]; omega
 | @q n g k s a hk hs ma h1 =>
  intro hg ok
  refine ⟨?_, fun _ => by omega⟩
  rw [p2]
  simp only [if_true] at hs
  have sG : TyG s := hs.G (by omega)
  have s3 := hs.sz1
  have hg' : ∀ y ∈ g ++ [s], TyG y := by
   intro y hy
   rcases List.mem_append.1 hy with hy | hy
   ·exact hg y hy
   ·simp at hy; subst hy; exact sG
  have ga := ma.G hg'
  have := pp n
  have two : a.fl.c = true → a.ct.2 = 0 → 2 ≤ 2 ^ n := fun hc e => by
   have := (h1 hg' e).2 hc
   obtain ⟨m, rfl⟩ : ∃ m, n = m + 1 := ⟨n - 1, by omega⟩
   rw [p2]; have := pp m; omega
  rcases FmG.qk hk with rfl | rfl | rfl | rfl
  ·rw [ct_all] at ok ⊢
   cases ca : a.fl.c <;> rw [ca] at ok
   ·simp only [Bool.false_eq_true, if_false]; rw [tySz_unit]; omega
   simp only [if_true] at ok ⊢
   obtain ⟨e2, e3⟩ := ct_join1 (.inr rfl) sG ga ok
   have z2 := (h1 hg' e2).1
   have := two ca e2
   rw [e3]
   show tySz (tFun _ _) + 1 ≤ _
   rw [tySz_fun]; omega
  ·rw [ct_ex] at ok ⊢
   cases ca : a.fl.c <;> rw [ca] at ok
   ·simp only [Bool.false_eq_true, if_false]; omega
   simp only [if_true] at ok ⊢
   obtain ⟨e2, e3⟩ := ct_join1 (.inl rfl) sG ga ok
   have z2 := (h1 hg' e2).1
   have := two ca e2
   rw [e3]
   show tySz (tPair _ _) + 1 ≤ _
   rw [tySz_pair]; omega
  ·rw [ct_allu] at ok ⊢; have := (h1 hg' ok).1; omega
  ·rw [ct_exu] at ok ⊢; have := (h1 hg' ok).1; omega
theorem fl_c_up {u : Bool} {b : Int} (hb0 : 0 ≤ b) (hb : b ≤ 1000000) {f : Fm} (h : FmG u f) (hl : f.least 1000000000 = true) (hz : fmSz f ≤ 400000) : (f.up b 0).fl.c = f.fl.c := by
 rw [← slf_up hb0 hb h hl 0 (by omega) (by omega), fl_c_ev]
theorem ct_up {u : Bool} {b : Int} (hb0 : 0 ≤ b) (hb : b ≤ 1000000) {f : Fm} (h : FmG u f) (hl : f.least 1000000000 = true) (hz : fmSz f ≤ 400000) : (f.up b 0).ct = f.ct := by
 rw [← slf_up hb0 hb h hl 0 (by omega) (by omega), ct_ev]
/-- What is kept of a term on the way. -/
structure TmR (L : Int) (t : Tm) : Prop where
 gd : TmG t
 sz : tmSz t ≤ 20000
 l : t.least L = true
theorem TmR.cut {L : Int} {t : Tm} (h : TmR L t) (hz : t.szW ≤ 4096) : tmSz t ≤ 4096 := by
 have := t.szW_nodes _ (h.gd.nodes_val (by have := h.sz; omega)); omega
theorem TmR.mono {L L' : Int} (hL : L ≤ L') {t : Tm} (h : TmR L t) : TmR L' t := ⟨h.gd, h.sz, least_mono hL _ h.l⟩
structure GoodR (g : List Ty) (m : Fm) : Prop where
 ty : FmTy TyG g m
 gd : FmG true m
 sz : fmSz m ≤ 4096
 nc : m.fl.c = false
def okR (g : List Ty) (r : Fm × Int) : Prop := r.2 = 4 ∨ (r.2 = 0 ∧ GoodR g r.1)
theorem two_okR {k : Int} (hk : k = 2 ∨ k = 3) {g : List Ty} {x y : Fm × Int} (hx : okR g x) (hy : okR g y) : okR g (mTwo k x y) := by
 unfold mTwo
 rcases hx with e | ⟨ex, gx⟩
 ·rw [e]; exact .inl rfl
 rcases hy with e | ⟨ey, gy⟩
 ·rw [ex, e]; exact .inl rfl
 rw [ex, ey]
 have z1 := gx.sz
 have z2 := gy.sz
 have gg : FmG true (fmTwo k x.1 y.1) := .two hk gx.gd gy.gd
 have hs := Fm.szW_nodes _ _ (gg.nodes_val (by rw [fmSz_two]; omega))
 by_cases h4 : (fmTwo k x.1 y.1).szW > 4096
 ·rw [decide_eq_true h4]; exact .inl rfl
 ·rw [decide_eq_false h4]
  refine .inr ⟨rfl, .two hk gx.ty gy.ty, gg, by show fmSz (fmTwo k x.1 y.1) ≤ _; omega, ?_⟩
  show (fmTwo k x.1 y.1).fl.c = false
  rw [fl_c_two hk, gx.nc, gy.nc]; simp
theorem build_okR {k : Int} (hk : k = 4 ∨ k = 7) {g : List Ty} {s : Ty} (hs : TyG s) {x : Fm × Int} (hx : okR (g ++ [s]) x) : okR g (rlBuild k s x) := by
 unfold rlBuild
 rcases hx with e | ⟨ex, gx⟩
 ·rw [e]; exact .inl rfl
 rw [ex]
 have z1 := gx.sz
 have gg : FmG true (fmQ k s x.1) := .q (by rcases hk with rfl | rfl <;> simp) hs gx.gd
 have hz := Fm.szW_nodes _ _ (gg.nodes_val (by rw [fmSz_q]; omega))
 by_cases h4 : (fmQ k s x.1).szW > 4096
 ·rw [decide_eq_true h4]; exact .inl rfl
 ·rw [decide_eq_false h4]
  refine .inr ⟨rfl, .q (by rcases hk with rfl | rfl <;> simp) gx.ty, gg, by show fmSz (fmQ k s x.1) ≤ _; omega, ?_⟩
  show (fmQ k s x.1).fl.c = false
  rw [fl_c_q (by rcases hk with rfl | rfl <;> omega), gx.nc]
  rcases hk with rfl | rfl <;> rfl
theorem hc_c {u : Bool} {f : Fm} (h : FmG u f) (hz : fmSz f ≤ 4096) : f.hc = f.fl.c := by
 unfold Fm.hc; rw [h.has hz 1]; rfl
theorem cty_ct {u : Bool} {f : Fm} (h : FmG u f) (hz : fmSz f ≤ 4096) : f.cty = f.ct := by
 unfold Fm.cty; rw [h.err0 hz]; rfl
theorem rlPart_sz {b : Bool} {k : Int} {t : Tm} : tmSz (rlPart b k t) ≤ tmSz t + 1 := by
 unfold rlPart; split
 ·rw [tmSz_1]; omega
 ·omega
theorem rlPart_R {L : Int} (hL : 0 ≤ L) {b : Bool} {k : Int} (hk : k = 11 ∨ k = 12) {t : Tm} (h : TmR L t) (hz : tmSz t ≤ 4096) : TmR L (rlPart b k t) := by
 have := rlPart_sz (b := b) (k := k) (t := t)
 refine ⟨?_, by omega, ?_⟩
 ·unfold rlPart; split
  ·rcases hk with rfl | rfl
   ·exact .t1 ar11 rfl h.gd
   ·exact .t1 ar12 rfl h.gd
  ·exact h.gd
 ·unfold rlPart; split
  ·exact least_tm0 hL (by simp [h.l])
  ·exact h.l
theorem sl1_R {L : Int} (hL : 0 ≤ L) (hL2 : L ≤ 300000000) {t : Tm} (h : TmR L t) (hz : tmSz t ≤ 4096) : t.sl 1 0 = t.up 1 0 ∧ TmR (L + 1000000) (t.up 1 0) ∧ tmSz (t.up 1 0) = tmSz t := by
 have e := sl_up (b := 1) (by omega) (by omega) _ h.gd (Nat.le_refl _) (least_mono (by omega) _ h.l) 0 (by omega) (by omega)
 have l1 := least_up (b := 1) hL (by omega) (by omega) (by omega) _ h.gd (Nat.le_refl _) h.l 0
 refine ⟨e, ⟨TmG.up (by omega) (by omega) _ h.gd (Nat.le_refl _) (least_mono (by omega) _ h.l) 0, by rw [tmSz_up]; omega, least_mono (by omega) _ l1⟩, tmSz_up _ _⟩
theorem rlUp_R {L : Int} (hL : 0 ≤ L) (hL2 : L ≤ 300000000) {b : Bool} {t : Tm} (h : TmR L t) (hz : tmSz t ≤ 4096) : TmR (L + 1000000) (rlUp b t) := by
 obtain ⟨e, r, z⟩ := sl1_R hL hL2 h hz
 unfold rlUp rlCall
 rw [e]
 split
 ·refine ⟨.t2 ar3 rfl r.gd (.var (by omega)), by rw [tmSz_2, tmSz_v]; omega, least_tm0 (by omega) ?_⟩
  intro x hx
  simp at hx
  rcases hx with rfl | rfl
  ·exact r.l
  ·exact least_v (by omega)
 ·exact r
theorem rlUp_ty {L : Int} (hL : 0 ≤ L) (hL2 : L ≤ 300000000) {g : List Ty} (hg : g.length ≤ 100) {s c : Ty} {t : Tm} (h : TmR L t) (hz : tmSz t ≤ 4096) (ht : HasTy TyG g t (tFun s c)) : HasTy TyG (g ++ [s]) (rlUp true t) c := by
 obtain ⟨e, r, z⟩ := sl1_R hL hL2 h hz
 unfold rlUp rlCall
 rw [e]
 exact .n2 (ty := .mk 0 []) .app (ht.up0 (by omega) (by omega)) .v0
theorem rlUp_ty0 {L : Int} (hL : 0 ≤ L) (hL2 : L ≤ 300000000) {g : List Ty} (hg : g.length ≤ 100) {s c : Ty} {t : Tm} (h : TmR L t) (hz : tmSz t ≤ 4096) (ht : HasTy TyG g t c) : HasTy TyG (g ++ [s]) (rlUp false t) c := by
 obtain ⟨e, r, z⟩ := sl1_R hL hL2 h hz
 unfold rlUp
 rw [e]
 exact ht.up0 (by omega) (by omega)
/-- The corner in which sizes need more than the check. -/
def CornerR (f : Fm) (t : Tm) : Prop := ∀ k s a, f = fmQ k s a → EEE a → fmSz a + fmOcc a 0 * tmSz t ≤ 4096
theorem rlOf_else {n : Nat} {f : Fm} {t : Tm} (h : ¬ t.szW > 4096) : rlOf (n + 1) f t = if f.kind == 2 then rlAnd (rlOf n) (f.args.getD 0 zeroF) (f.args.getD 1 zeroF) t
  else if f.kind == 3 then rlImp (rlOf n) (f.args.getD 0 zeroF) (f.args.getD 1 zeroF) t
  else if f.kind == 4 || f.kind == 6 || f.kind == 7 then rlQ (rlOf n) f.kind f.type (f.args.getD 0 zeroF) t
  else if f.kind == 5 then rlEx (rlOf n) (f.args.getD 0 zeroF) t
  else (f, 0) := by rw [rlOf, decide_eq_false h]; rfl
theorem rlOf_good : ∀ (N : Nat), N ≤ 4 → ∀ (f : Fm) (g : List Ty) (t : Tm) (L : Int), FmG true f → fdp f ≤ N → ArgsOk f → fmSz f ≤ 8200 → (N = 4 → CornerR f t) → FmTy TyG g f → g.length + N ≤ 100 →
  0 ≤ L → L + (N : Int) * 1000000 ≤ 200000000 → f.least L = true → TmR L t → (f.fl.c = true → f.ct.2 = 0 ∧ HasTy TyG g t f.ct.1) → okR g (rlOf N f t) := by
 intro N
 induction N with
 | zero => intro _ f g t L _ hd; have := fdp_pos f; omega
 | succ N ih =>
  intro hN f g t L hF hd hA hz hC hT hg hL0 hL hl hr hc
  by_cases h4 : t.szW > 4096
  ·rw [rlOf, decide_eq_true h4]; exact .inl rfl
  have zt := hr.cut (by omega)
  rw [rlOf_else h4]
  have ih' := ih (by omega)
  cases hF with
  | @eq x y hx hy =>
   change okR g (fmEq x y, 0)
   exact .inr ⟨rfl, hT, .eq hx hy, hA.2 rfl, by rw [Fm.fl_eqn]⟩
  | @two k a b hk ga gb =>
   have za := hA.1 a (by simp [fmTwo, Fm.args])
   have zb := hA.1 b (by simp [fmTwo, Fm.args])
   rw [fdp_two] at hd
   obtain ⟨la, lb⟩ := fleast_parts2 hl
   have ta : FmTy TyG g a ∧ FmTy TyG g b := by cases hT with | two _ a b => exact ⟨a, b⟩
   have ar1 := argsOk_of za
   have ar2 := argsOk_of zb
   rcases hk with rfl | rfl
   ·change okR g (rlAnd (rlOf N) a b t)
    rw [fl_c_two (.inl rfl), ct_and] at hc
    unfold rlAnd
    rw [hc_c ga za, hc_c gb zb]
    have key : (a.fl.c = true → a.ct.2 = 0 ∧ HasTy TyG g (rlPart (a.fl.c && b.fl.c) 11 t) a.ct.1) ∧ (b.fl.c = true → b.ct.2 = 0 ∧ HasTy TyG g (rlPart (a.fl.c && b.fl.c) 12 t) b.ct.1) := by
     cases ca : a.fl.c <;> cases cb : b.fl.c <;> rw [ca, cb] at hc <;> simp only [Bool.and_true, Bool.and_false, Bool.false_eq_true, false_implies, true_implies, if_true, if_false, Bool.or_true, Bool.true_or, beq_self_eq_true, Bool.and_self, Bool.or_self, Bool.or_false, Bool.false_or, and_true, true_and] at hc ⊢
     ·exact hc
     ·exact hc
     ·obtain ⟨h1, h2⟩ := hc
      obtain ⟨e1, e2, e3⟩ := ct_join2 (.inl rfl) ga gb h1
      rw [e3] at h2
      exact ⟨⟨e1, .n1 (ty := .mk 0 []) .fst h2⟩, ⟨e2, .n1 (ty := .mk 0 []) .snd h2⟩⟩
    exact two_okR (.inl rfl) (ih' a g _ L ga (by omega) ar1 (by omega) (by omega) ta.1 (by omega) hL0 (by omega) la (rlPart_R hL0 (.inl rfl) hr zt) key.1)
     (ih' b g _ L gb (by omega) ar2 (by omega) (by omega) ta.2 (by omega) hL0 (by omega) lb (rlPart_R hL0 (.inr rfl) hr zt) key.2)
   ·change okR g (rlImp (rlOf N) a b t)
    rw [fl_c_two (.inr rfl), ct_imp] at hc
    unfold rlImp
    rw [hc_c ga za, hc_c gb zb, cty_ct ga za]
    cases ca : a.fl.c with
    | false =>
     rw [ca] at hc
     simp only [Bool.not_false, if_true, Bool.false_eq_true, if_false, Bool.and_false, Bool.or_false] at hc ⊢
     refine two_okR (.inr rfl) (ih' a g t L ga (by omega) ar1 (by omega) (by omega) ta.1 (by omega) hL0 (by omega) la hr (fun h => by rw [ca] at h; cases h))
      (ih' b g t L gb (by omega) ar2 (by omega) (by omega) ta.2 (by omega) hL0 (by omega) lb hr (fun h => ?_))
     rw [h] at hc; simp only [if_true] at hc; exact hc trivial
    | true =>
     simp only [Bool.not_true, Bool.false_eq_true, if_false]
     rcases ct_G ga with ⟨e, gs⟩ | e
     case inr => rw [e]; exact .inl rfl
     rw [e]
     have n0 : ((0 : Int) != 0) = false := rfl
     rw [n0]
     simp only [Bool.false_eq_true, if_false]
     have lm : ∀ {x : Fm}, x.least L = true → FmG true x → x.least 1000000000 = true := fun h hx => fleastG_mono (by omega) hx h
     have ea : a.slf 1 = a.up 1 0 := slf_up (by omega) (by omega) ga (lm la ga) 0 (by omega) (by omega)
     have eb : b.slf 1 = b.up 1 0 := slf_up (by omega) (by omega) gb (lm lb gb) 0 (by omega) (by omega)
     have fa : fdp (a.slf 1) = fdp a := fdp_evx _ _
     have fb : fdp (b.slf 1) = fdp b := fdp_evx _ _
     have ua := ga.up (b := 1) (by omega) (by omega) (fleastG_mono (M' := 536870912) (by omega) ga la) 0
     have ub := gb.up (b := 1) (by omega) (by omega) (fleastG_mono (M' := 536870912) (by omega) gb lb) 0
     have wa := fleastG_up (b := 1) hL0 (by omega) (by omega) (by omega) ga la 0 (by omega) (by omega)
     have wb := fleastG_up (b := 1) hL0 (by omega) (by omega) (by omega) gb lb 0 (by omega) (by omega)
     have ya := ta.1.upl (m := [a.ct.1]) g [] (by simp) (by simp; omega) (by omega) (by simp)
     have yb := ta.2.upl (m := [a.ct.1]) g [] (by simp) (by simp; omega) (by omega) (by simp)
     simp only [List.append_nil, List.length_cons, List.length_nil] at ya yb
     have hg1 : (g ++ [a.ct.1]).length + N ≤ 100 := by simp; omega
     refine build_okR (.inl rfl) gs (two_okR (.inr rfl) ?_ ?_)
     ·rw [ea]
      refine ih' _ _ _ (L + 1000000) ua.1 (by rw [← ea, fa]; omega) (argsOk_of (by rw [ua.2]; exact za)) (by rw [ua.2]; omega) (by omega) ya hg1 (by omega) (by omega)
       (fleastG_mono (by omega) ua.1 wa) ⟨.var (by omega), by rw [tmSz_v]; omega, least_v (by omega)⟩ (fun _ => ?_)
      rw [ct_up (by omega) (by omega) ga (lm la ga) (by omega)]
      exact ⟨e, .v0⟩
     ·rw [eb]
      refine ih' _ _ _ (L + 1000000) ub.1 (by rw [← eb, fb]; omega) (argsOk_of (by rw [ub.2]; exact zb)) (by rw [ub.2]; omega) (by omega) yb hg1 (by omega) (by omega)
       (fleastG_mono (by omega) ub.1 wb) (rlUp_R hL0 (by omega) hr zt) (fun h => ?_)
      rw [fl_c_up (by omega) (by omega) gb (lm lb gb) (by omega)] at h
      rw [ct_up (by omega) (by omega) gb (lm lb gb) (by omega), h]
      rw [h, ca] at hc
      simp only [if_true, Bool.true_or, true_implies] at hc
      obtain ⟨h1, h2⟩ := hc
      obtain ⟨e1, e2, e3⟩ := ct_join2 (.inr rfl) ga gb h1
      rw [e3] at h2
      exact ⟨e2, rlUp_ty hL0 (by omega) (by omega) hr zt h2⟩
  | @q k s a hk hs ga =>
   have za := hA.1 a (by simp [fmQ, Fm.args])
   rw [fdp_q] at hd
   have la := fleast_part hl
   have ta : FmTy TyG (g ++ [s]) a := by cases hT with | q _ a => exact a
   have ar1 := argsOk_of za
   have hg1 : (g ++ [s]).length + N ≤ 100 := by simp; omega
   have la1 : a.least (L + 1000000) = true := fleastG_mono (by omega) ga la
   have uni : ∀ (k' : Int), (k' = 4 ∨ k' = 7) → (a.fl.c = true → a.ct.2 = 0 ∧ HasTy TyG g t a.ct.1) → okR g (rlBuild k' s (rlOf N a (rlUp false t))) := by
    intro k' hk' hc'
    refine build_okR hk' hs (ih' a _ _ (L + 1000000) ga (by omega) ar1 (by omega) (by omega) ta hg1 (by omega) (by omega) la1 (rlUp_R hL0 (by omega) hr zt) (fun h => ?_))
    obtain ⟨h1, h2⟩ := hc' h
    exact ⟨h1, rlUp_ty0 hL0 (by omega) (by omega) hr zt h2⟩
   rcases FmG.qk hk with rfl | rfl | rfl | rfl
   ·change okR g (rlQ (rlOf N) 4 s a t)
    rw [fl_c_q (by omega), ct_all] at hc
    unfold rlQ
    rw [hc_c ga za]
    show okR g (rlBuild 4 s (rlOf N a (rlUp a.fl.c t)))
    refine build_okR (.inl rfl) hs (ih' a _ _ (L + 1000000) ga (by omega) ar1 (by omega) (by omega) ta hg1 (by omega) (by omega) la1 (rlUp_R hL0 (by omega) hr zt) (fun h => ?_))
    rw [h] at hc ⊢
    simp only [if_true, Bool.true_or, true_implies] at hc
    obtain ⟨h1, h2⟩ := hc
    obtain ⟨e2, e3⟩ := ct_join1 (.inr rfl) hs ga h1
    rw [e3] at h2
    exact ⟨e2, rlUp_ty hL0 (by omega) (by omega) hr zt h2⟩
   ·change okR g (rlEx (rlOf N) a t)
    rw [fl_c_q (by omega), ct_ex] at hc
    unfold rlEx
    rw [hc_c ga za]
    have key : HasTy TyG g (rlPart a.fl.c 11 t) s ∧ (a.fl.c = true → a.ct.2 = 0 ∧ HasTy TyG g (rlPart a.fl.c 12 t) a.ct.1) := by
     cases ca : a.fl.c <;> rw [ca] at hc <;> simp only [Bool.false_eq_true, false_implies, true_implies, if_true, if_false, Bool.or_true, Bool.true_or, beq_self_eq_true, and_true, true_and] at hc ⊢
     ·exact hc
     ·obtain ⟨h1, h2⟩ := hc
      obtain ⟨e2, e3⟩ := ct_join1 (.inl rfl) hs ga h1
      rw [e3] at h2
      exact ⟨.n1 (ty := .mk 0 []) .fst h2, e2, .n1 (ty := .mk 0 []) .snd h2⟩
    have hx := rlPart_R (b := a.fl.c) hL0 (.inl rfl) hr zt
    have hy := rlPart_R (b := a.fl.c) hL0 (.inr rfl) hr zt
    have hxz := rlPart_sz (b := a.fl.c) (k := 11) (t := t)
    have ec : ∀ x : Tm, (a.sp x).fl.c = a.fl.c := fun x => fl_c_ev _ _
    have et : ∀ x : Tm, (a.sp x).ct = a.ct := fun x => ct_ev _ _
    have ef : ∀ x : Tm, fdp (a.sp x) = fdp a := fun x => fdp_evx _ _
    generalize rlPart a.fl.c 11 t = x at *
    generalize rlPart a.fl.c 12 t = y at *
    by_cases s1 : x.szW > 4096
    ·rw [decide_eq_true s1]; exact .inl rfl
    by_cases s2 : subW (a.grown x) a.exs > 4096
    ·rw [decide_eq_true s2, Bool.or_true]; exact .inl rfl
    rw [decide_eq_false s1, decide_eq_false s2]
    simp only [Bool.or_self, Bool.false_eq_true, if_false]
    have zx := hx.cut (by omega)
    have esp : a.sp x = fmInn x 0 a 0 := fsp_inn hx.gd (by omega) (least_mono (by omega) _ hx.l) ga 0 (by omega) (by omega)
    have ec := ec x
    have et := et x
    have ef := ef x
    rw [esp] at ec et ef ⊢
    have hsz := ga.inn_sz (s := x) 0 (by omega) (by omega)
    have hqr := exs_range ga (by omega)
    have hpos := tmSz_pos x
    have hgr : a.grown x = (fmSz (fmInn x 0 a 0) : Int) := by
     unfold Fm.grown
     rw [x.szW_nodes _ (hx.gd.nodes_val (by omega)), a.szW_nodes _ (ga.nodes_val (by omega))]
     have e1 : subW (tmSz x : Int) 1 = ((tmSz x - 1 : Nat) : Int) := by rw [subW_eq (by omega) (by omega) (by omega) (by omega)]; omega
     rw [e1, grown_occ (c := 4096) (by omega) ga 0 _ (by omega) (by omega) (by omega), hsz]
    have hmul : fmOcc a 0 * (tmSz x - 1) ≤ 4096 * 4096 := Nat.mul_le_mul (by have := fmOcc_le a 0; omega) (by omega)
    rw [hgr, subW_eq (by omega) (by omega) (by omega) (by omega)] at s2
    have hAr := argsR_inn (x := x) ga (by omega) za (by omega) (fun hq => by
     obtain ⟨s1', s2', u, v, e⟩ := hq
     have hn3 : N = 3 := by
      subst e
      rw [fdp_q, fdp_q, fdp_eqn] at hd; omega
     have := hC (by omega) 5 s a rfl ⟨s1', s2', u, v, e⟩
     have hm2 : fmOcc a 0 * (tmSz x - 1) ≤ fmOcc a 0 * tmSz t := Nat.mul_le_mul_left _ (by omega)
     omega)
    have hl' := fleastG_inn hL0 (by omega) hx.gd hx.l ga la 0 (by omega) (by omega)
    have hty := ta.innQ g [] (by simp) key.1 (by simp; omega) (by omega)
    rw [List.append_nil] at hty
    refine ih' _ g y (L + 1000000) (ga.inn hx.gd (least_mono (by omega) _ hx.l) (fleastG_mono (M := L) (M' := 536870912) (by omega) ga la) 0 (by omega) (by omega)) (by omega) hAr (by omega) (by omega) hty (by omega) (by omega) (by omega) hl' (hy.mono (by omega)) (fun h => ?_)
    rw [ec] at h
    rw [et]
    exact key.2 h
   ·change okR g (rlQ (rlOf N) 6 s a t)
    rw [fl_c_q (by omega), ct_allu] at hc
    exact uni 4 (.inl rfl) (by simpa using hc)
   ·change okR g (rlQ (rlOf N) 7 s a t)
    rw [fl_c_q (by omega), ct_exu] at hc
    exact uni 7 (.inr rfl) (by simpa using hc)
theorem MkFm.fdp {u : Bool} {n : Nat} {g : List Ty} {f : Fm} (h : MkFm u n g f) : fdp f ≤ n + 1 := by
 induction h with
 | eq => rw [fdp_eqn]; omega
 | two _ _ _ h1 h2 => rw [fdp_two]; omega
 | q _ _ _ h1 => rw [fdp_q]; omega
theorem mkU_q_inv {n : Nat} {g : List Ty} {k : Int} {s : Ty} {a : Fm} (h : MkFm true n g (fmQ k s a)) : ∃ m, n = m + 1 ∧ MkTy 1 s ∧ MkFm true m (g ++ [s]) a := by
 cases h with
 | @q m _ _ _ _ hk hs ha => exact ⟨m, rfl, by simpa using hs, ha⟩
theorem mkU_eq_inv {n : Nat} {g : List Ty} {x y : Tm} (h : MkFm true n g (fmEq x y)) : MkTm 1 g tNat x ∧ MkTm 1 g tNat y := by
 cases h with
 | eq h1 h2 => exact ⟨h1, h2⟩
theorem corner_mk {n : Nat} {g : List Ty} {f : Fm} {t : Tm} (hm : MkFm true n g f) (hg : ∀ y ∈ g, MkTy 1 y) (zt : tmSz t ≤ 600) : CornerR f t := by
 rintro k s a rfl ⟨s1, s2, x, y, rfl⟩
 obtain ⟨n1, _, m1, h1⟩ := mkU_q_inv hm
 obtain ⟨n2, _, m2, h2⟩ := mkU_q_inv h1
 obtain ⟨n3, _, m3, h3⟩ := mkU_q_inv h2
 obtain ⟨hx, hy⟩ := mkU_eq_inv h3
 have hctx : ∀ z ∈ g ++ [s] ++ [s1] ++ [s2], MkTy 1 z := by
  intro z hz
  simp only [List.mem_append, List.mem_singleton] at hz
  rcases hz with ((hz | rfl) | rfl) | rfl
  ·exact hg z hz
  ·exact m1
  ·exact m2
  ·exact m3
 obtain ⟨x1, x2⟩ := hx.one hctx
 obtain ⟨y1, y2⟩ := hy.one hctx
 have oq : ∀ {t : Ty} {z : Fm} {d : Int}, fmOcc (fmQ 5 t z) d = fmOcc z (d + 1) := fun {t z d} => fmOcc_q (.inr (.inl rfl))
 rw [fmSz_q, fmSz_q, fmSz_eq, oq, oq, fmOcc_eq]
 have o1 := x2 (0 + 1 + 1) (by omega)
 have o2 := y2 (0 + 1 + 1) (by omega)
 have : (tmOcc x (0 + 1 + 1) + tmOcc y (0 + 1 + 1)) * tmSz t ≤ 6 * 600 := Nat.mul_le_mul (by omega) (by omega)
 omega
/-- What is known of a term that is made for the content type. -/
theorem mk_term {n : Nat} {g : List Ty} {s : Ty} {t : Tm} (hn : n ≤ 2) (hg : ∀ y ∈ g, MkTy 1 y) (hgl : g.length ≤ 10) (hs : TyG s) (zs : tySz s ≤ 15) (mt : MkTm n g s t) : TmR 10000 t ∧ tmSz t ≤ 565 ∧ HasTy TyG g t s := by
 have hgG : ∀ y ∈ g, TyG y := fun y hy => (hg y hy).G (by omega)
 have hg3 : ∀ y ∈ g, tySz y ≤ 15 := fun y hy => by have := (hg y hy).sz1; omega
 have b2 : ∀ n, n ≤ 2 → bndT 15 n ≤ 565 := fun n h => by
  match n, h with
  | 0, _ => decide
  | 1, _ => decide
  | 2, _ => decide
 have zt := (mt.sz (M := 15) (by omega) hg3 zs).1
 have := b2 n hn
 have lt := mt.least (M := 15) (m := 10000) (by omega) (by omega) hg3 zs (by omega)
 exact ⟨⟨mt.G hgG hs, by omega, by simpa using lt⟩, by omega, mt.ty (mk20 hg) ⟨hs.1, by omega⟩⟩
theorem fmErr_sz {n : Nat} {g : List Ty} {f : Fm} (hm : MkFm true n g f) (hn : n ≤ 3) (hg : ∀ y ∈ g, MkTy 1 y) (h : fmErr f = 0) : fmSz f ≤ 4096 := by
 have hgG : ∀ y ∈ g, TyG y := fun y hy => (hg y hy).G (by omega)
 have hz := hm.sz (fun y hy => (hg y hy).sz1)
 have p : 2 ^ n ≤ 2 ^ 3 := Nat.pow_le_pow_right (by omega) hn
 have p3 : 2 ^ 3 = 8 := rfl
 rcases Nat.lt_or_ge 4096 (fmSz f) with h' | h'
 ·exfalso
  rw [(hm.G hgG).err_val (by omega), if_neg (by omega)] at h
  cases h
 ·exact h'
/-- The law of RealizeNone: what it means that a term realizes a formula has no content, and is typed. -/
theorem law_rlNone {g : List Ty} {f : Fm} {t : Tm} (hm : MkFm true 3 g f) (hg : ∀ y ∈ g, MkTy 1 y) (hgl : g.length ≤ 10) (ok : f.cty.2 = 0) (mt : MkTm 2 g f.cty.1 t) : okR g (rlF f t) := by
 have hgG : ∀ y ∈ g, TyG y := fun y hy => (hg y hy).G (by omega)
 have hg3 : ∀ y ∈ g, tySz y ≤ 3 := fun y hy => (hg y hy).sz1
 have hG := hm.G hgG
 have he : fmErr f = 0 := by
  unfold Fm.cty at ok
  split at ok
  ·exact ok
  ·rename_i h; simpa using h
 have hsz := fmErr_sz hm (by omega) hg he
 rw [cty_ct hG hsz] at ok mt
 have hs : TyG f.ct.1 := by
  rcases ct_G hG with ⟨_, h⟩ | h
  ·exact h
  ·rw [ok] at h; cases h
 have p3 : 2 ^ 3 = 8 := rfl
 have zs := (ct_sz hm hgG ok).1
 obtain ⟨rt, zt, ht⟩ := mk_term (by omega) hg hgl hs (by omega) mt
 have lf := hm.least (m := 10000) (by omega) hg3 (by omega)
 have lf' : f.least 10000 = true := by simpa using lf
 unfold rlF
 rw [he, rt.gd.err0 (by omega), far_least, fleastG_mono (by omega) hG lf', least_mono (by omega) _ rt.l]
 show okR g (rlOf (fdp f) f (if f.hc then t else tm0 13 []))
 rw [hc_c hG hsz]
 have hd := hm.fdp
 have ru : TmR 10000 (tm0 13 []) := ⟨.t0 ar13 rfl, by rw [tmSz_0]; omega, least_tm0 (by omega) (by simp)⟩
 refine rlOf_good (fdp f) (by omega) f g _ 10000 hG (Nat.le_refl _) (argsOk_of hsz) (by omega) (fun _ => corner_mk hm hg ?_) (hm.ty hg) (by omega) (by omega) (by omega) lf' ?_ (fun h => ?_)
 ·split
  ·omega
  ·rw [tmSz_0]; omega
 ·split
  ·exact rt
  ·exact ru
 ·rw [h]; exact ⟨ok, ht⟩
end GoAbs
namespace GoAbs
open Go
/-- Putting in twice, at two depths. -/
theorem pIn_inD {s x : Tm} {e : Int} (he : 0 ≤ e) (hs : TmG s) (hx : TmG x) {t : Tm} (h : TmG t) : ∀ c : Int, 0 ≤ c → pIn s (pIn x t c) (c + e) = pIn (pIn s x e) (pIn s t (c + e + 1)) c := by
 induction h using TmG.nd with
 | hv i hi =>
  intro d hd
  rw [pIn_var, pIn_var (i := i) (e := d + e + 1)]
  by_cases h1 : i = d
  ·rw [if_pos h1, if_neg (by omega), if_neg (by omega), pIn_var, if_pos h1]
   have := pUp_in hd hs hx 0 e (by omega) (by omega)
   rw [this]; congr 1; omega
  ·rw [if_neg h1]
   by_cases h2 : i = d + e + 1
   ·rw [if_pos (show i > d by omega), if_pos h2, pIn_var, if_pos (by omega), pIn_up hs 0 d hd (by omega)]
   ·by_cases h3 : i > d + e + 1
    ·rw [if_pos (show i > d by omega), if_neg h2, if_pos h3, pIn_var, pIn_var, if_neg (by omega), if_pos (by omega), if_neg (by omega), if_pos (by omega)]
    ·rw [if_neg h2, if_neg h3]
     by_cases h4 : i > d
     ·rw [if_pos h4, pIn_var, pIn_var, if_neg (by omega), if_neg (by omega), if_neg h1, if_pos h4]
     ·rw [if_neg h4, pIn_var, pIn_var, if_neg (by omega), if_neg (by omega), if_neg h1, if_neg h4]
 | hn k t l hk hl _ ih =>
  intro d hd
  have hz := below_nn k
  rw [pIn_node hk, pIn_node hk, pIn_node hk, pIn_node hk, List.map_map, List.map_map]
  congr 1
  refine map_eq fun y hy => ?_
  have := ih y hy (d + tmBelow k) (by omega)
  simp only [Function.comp_apply]
  rw [show d + e + tmBelow k = d + tmBelow k + e by omega, this]
  congr 2; omega
theorem inn_innD {L : Int} (hL : 0 ≤ L) (hL2 : L ≤ 500000000) {s x t : Tm} (hs : TmG s) (hx : TmG x) (h : TmG t) (ls : s.least L = true) (lx : x.least L = true) (lt : t.least L = true) (zs : tmSz s ≤ 20000) (zx : tmSz x ≤ 20000) (zt : tmSz t ≤ 20000)
  (d e : Int) (hd : 0 ≤ d) (hd2 : d ≤ 20000) (he : 0 ≤ e) (he2 : e ≤ 20000) : tmInn s 0 (tmInn x 0 t d) (d + e) = tmInn (tmInn s 0 x e) 0 (tmInn s 0 t (d + e + 1)) d := by
 have m := fun {t : Tm} (M M' : Int) (hM : M ≤ M') (h : t.least M = true) => least_mono hM t h
 have z1 := TmG.inn_sz (s := x) _ h (Nat.le_refl _) d hd (by omega)
 have z2 := TmG.inn_sz (s := s) _ h (Nat.le_refl _) (d + e + 1) (by omega) (by omega)
 have z3 := TmG.inn_sz (s := s) _ hx (Nat.le_refl _) e (by omega) (by omega)
 have o1 := tmOcc_le t d
 have o2 := tmOcc_le t (d + e + 1)
 have o3 := tmOcc_le x e
 have b1 : tmOcc t d * (tmSz x - 1) ≤ 20000 * 20000 := Nat.mul_le_mul (by omega) (by omega)
 have b2 : tmOcc t (d + e + 1) * (tmSz s - 1) ≤ 20000 * 20000 := Nat.mul_le_mul (by omega) (by omega)
 have b3 : tmOcc x e * (tmSz s - 1) ≤ 20000 * 20000 := Nat.mul_le_mul (by omega) (by omega)
 have g1 : TmG (tmInn x 0 t d) := TmG.inn hx (m L _ (by omega) lx) _ h (Nat.le_refl _) (m L _ (by omega) lt) d hd (by omega)
 have g2 : TmG (tmInn s 0 t (d + e + 1)) := TmG.inn hs (m L _ (by omega) ls) _ h (Nat.le_refl _) (m L _ (by omega) lt) (d + e + 1) (by omega) (by omega)
 have g3 : TmG (tmInn s 0 x e) := TmG.inn hs (m L _ (by omega) ls) _ hx (Nat.le_refl _) (m L _ (by omega) lx) e (by omega) (by omega)
 have l1 : (tmInn x 0 t d).least (L + 1000000) = true := least_inn hL (by omega) hx lx _ h (Nat.le_refl _) lt d hd (by omega)
 have l2 : (tmInn s 0 t (d + e + 1)).least (L + 1000000) = true := least_inn hL (by omega) hs ls _ h (Nat.le_refl _) lt (d + e + 1) (by omega) (by omega)
 have l3 : (tmInn s 0 x e).least (L + 1000000) = true := least_inn hL (by omega) hs ls _ hx (Nat.le_refl _) lx e (by omega) (by omega)
 rw [inn_p hs (m L _ (by omega) ls) (by omega) g1 (d + e) (m (L + 1000000) _ (by omega) l1) (by omega) (by omega),
  inn_p g3 (m (L + 1000000) _ (by omega) l3) (by omega) g2 d (m (L + 1000000) _ (by omega) l2) hd (by omega),
  inn_p hx (m L _ (by omega) lx) (by omega) h d (m L _ (by omega) lt) hd (by omega),
  inn_p hs (m L _ (by omega) ls) (by omega) hx e (m L _ (by omega) lx) (by omega) (by omega),
  inn_p hs (m L _ (by omega) ls) (by omega) h (d + e + 1) (m L _ (by omega) lt) (by omega) (by omega)]
 exact pIn_inD he hs hx h d hd
/-- Lifting and putting in. -/
theorem up_innD {L : Int} (hL : 0 ≤ L) (hL2 : L ≤ 500000000) {s t : Tm} (hs : TmG s) (h : TmG t) (ls : s.least L = true) (lt : t.least L = true) (zs : tmSz s ≤ 20000) (zt : tmSz t ≤ 20000)
  (c e : Int) (hc : 0 ≤ c) (he : c ≤ e) (he2 : e ≤ 20000) : (tmInn s 0 t e).up 1 c = tmInn s 0 (t.up 1 c) (e + 1) := by
 have m := fun {t : Tm} (M M' : Int) (hM : M ≤ M') (h : t.least M = true) => least_mono hM t h
 have z2 := TmG.inn_sz (s := s) _ h (Nat.le_refl _) e (by omega) (by omega)
 have o2 := tmOcc_le t e
 have b2 : tmOcc t e * (tmSz s - 1) ≤ 20000 * 20000 := Nat.mul_le_mul (by omega) (by omega)
 have g1 : TmG (tmInn s 0 t e) := TmG.inn hs (m L _ (by omega) ls) _ h (Nat.le_refl _) (m L _ (by omega) lt) e (by omega) (by omega)
 have g2 : TmG (t.up 1 c) := TmG.up (by omega) (by omega) _ h (Nat.le_refl _) (m L _ (by omega) lt) c
 have l1 : (tmInn s 0 t e).least (L + 1000000) = true := least_inn hL (by omega) hs ls _ h (Nat.le_refl _) lt e (by omega) (by omega)
 have l2 : (t.up 1 c).least (L + 1) = true := least_up hL (by omega) (by omega) (by omega) _ h (Nat.le_refl _) lt c
 rw [up_p (by omega) (by omega) g1 c (m (L + 1000000) _ (by omega) l1) hc (by omega),
  inn_p hs (m L _ (by omega) ls) (by omega) h e (m L _ (by omega) lt) (by omega) (by omega),
  inn_p hs (m L _ (by omega) ls) (by omega) g2 (e + 1) (m (L + 1) _ (by omega) l2) (by omega) (by rw [tmSz_up]; omega),
  up_p (by omega) (by omega) h c (m L _ (by omega) lt) hc (by omega)]
 exact pUp_in (by omega) hs h c e hc he
theorem finn_innD {L : Int} (hL : 0 ≤ L) (hL2 : L ≤ 500000000) {s x : Tm} (hs : TmG s) (hx : TmG x) (ls : s.least L = true) (lx : x.least L = true) (zs : tmSz s ≤ 20000) (zx : tmSz x ≤ 20000) {e : Int} (he : 0 ≤ e) (he2 : e ≤ 1000) {u : Bool} {f : Fm} (h : FmG u f) :
  f.least L = true → fmSz f ≤ 19000 → ∀ d : Int, 0 ≤ d → d + fmSz f ≤ 19000 → fmInn s 0 (fmInn x 0 f d) (d + e) = fmInn (tmInn s 0 x e) 0 (fmInn s 0 f (d + e + 1)) d := by
 induction h with
 | @eq u v hu hv =>
  intro hl hz d hd hz2
  obtain ⟨l1, l2⟩ := fleast_eq.1 hl
  rw [fmSz_eq] at hz hz2
  rw [fmInn_eqn, fmInn_eqn, fmInn_eqn, fmInn_eqn, inn_innD hL hL2 hs hx hu ls lx l1 zs zx (by omega) d e hd (by omega) he (by omega), inn_innD hL hL2 hs hx hv ls lx l2 zs zx (by omega) d e hd (by omega) he (by omega)]
 | @two k a b hk _ _ h1 h2 =>
  intro hl hz d hd hz2
  obtain ⟨l1, l2⟩ := fleast_parts2 hl
  rw [fmSz_two] at hz hz2
  rw [fmInn_two, fmInn_two, fmInn_two, fmInn_two, below_two hk, addW_zero hd (by omega), addW_zero (by omega) (by omega), addW_zero (by omega) (by omega), h1 l1 (by omega) d hd (by omega), h2 l2 (by omega) d hd (by omega)]
 | @q k ty a hk hs' _ h1 =>
  intro hl hz d hd hz2
  have l1 := fleast_part hl
  rw [fmSz_q] at hz hz2
  rw [fmInn_q, fmInn_q, fmInn_q, fmInn_q, below_q (FmG.qk hk), addW_eq (by omega) (by omega) (by omega) (by omega), addW_eq (by omega) (by omega) (by omega) (by omega), addW_eq (by omega) (by omega) (by omega) (by omega)]
  have := h1 l1 (by omega) (d + 1) (by omega) (by omega)
  rw [show d + e + 1 = d + 1 + e by omega, this]
theorem fup_innD {L : Int} (hL : 0 ≤ L) (hL2 : L ≤ 500000000) {s : Tm} (hs : TmG s) (ls : s.least L = true) (zs : tmSz s ≤ 20000) {u : Bool} {f : Fm} (h : FmG u f) :
  f.least L = true → fmSz f ≤ 18000 → ∀ c e : Int, 0 ≤ c → c ≤ e → e + fmSz f ≤ 19000 → (fmInn s 0 f e).up 1 c = fmInn s 0 (f.up 1 c) (e + 1) := by
 induction h with
 | @eq u v hu hv =>
  intro hl hz c e hc he hz2
  obtain ⟨l1, l2⟩ := fleast_eq.1 hl
  rw [fmSz_eq] at hz hz2
  rw [fmInn_eqn, fmUp_eqn, fmUp_eqn, fmInn_eqn, up_innD hL hL2 hs hu ls l1 zs (by omega) c e hc he (by omega), up_innD hL hL2 hs hv ls l2 zs (by omega) c e hc he (by omega)]
 | @two k a b hk _ _ h1 h2 =>
  intro hl hz c e hc he hz2
  obtain ⟨l1, l2⟩ := fleast_parts2 hl
  rw [fmSz_two] at hz hz2
  rw [fmInn_two, fmUp2 hk hc (by omega), fmUp2 hk hc (by omega), fmInn_two, below_two hk, addW_zero (by omega) (by omega), addW_zero (by omega) (by omega), h1 l1 (by omega) c e hc he (by omega), h2 l2 (by omega) c e hc he (by omega)]
 | @q k ty a hk hs' _ h1 =>
  intro hl hz c e hc he hz2
  have l1 := fleast_part hl
  rw [fmSz_q] at hz hz2
  rw [fmInn_q, fmUpq (FmG.qk hk) hc (by omega), fmUpq (FmG.qk hk) hc (by omega), fmInn_q, below_q (FmG.qk hk), addW_eq (by omega) (by omega) (by omega) (by omega), addW_eq (by omega) (by omega) (by omega) (by omega),
   h1 l1 (by omega) (c + 1) (e + 1) (by omega) (by omega) (by omega)]
theorem finnG_occ0 {s s' : Tm} {u : Bool} {f : Fm} (h : FmG u f) : ∀ d : Int, 0 ≤ d → d + fmSz f ≤ 100000 → fmOcc f d = 0 → fmInn s 0 f d = fmInn s' 0 f d := by
 induction h with
 | @eq u v hu hv =>
  intro d hd hz ho
  rw [fmSz_eq] at hz
  rw [fmOcc_eq] at ho
  rw [fmInn_eqn, fmInn_eqn, inn_occ0 (s := s) (s' := s') hu d hd (by omega) (by omega), inn_occ0 (s := s) (s' := s') hv d hd (by omega) (by omega)]
 | @two k a b hk _ _ h1 h2 =>
  intro d hd hz ho
  rw [fmSz_two] at hz
  rw [fmOcc_two hk] at ho
  rw [fmInn_two, fmInn_two, below_two hk, addW_zero hd (by omega), h1 d hd (by omega) (by omega), h2 d hd (by omega) (by omega)]
 | @q k ty a hk hs' _ h1 =>
  intro d hd hz ho
  rw [fmSz_q] at hz
  rw [fmOcc_q (FmG.qk hk)] at ho
  rw [fmInn_q, fmInn_q, below_q (FmG.qk hk), addW_eq (by omega) (by omega) (by omega) (by omega), h1 (d + 1) (by omega) (by omega) ho]
theorem seenG {u : Bool} {b : Fm} (hb : FmG u b) (zb : fmSz b ≤ 8200) {x x' : Tm} (h : x' = x ∨ 2 ≤ tmSz x') (hz : fmOcc b 0 * (tmSz x' - 1) = 0) : fmInn x' 0 b 0 = fmInn x 0 b 0 := by
 rcases h with rfl | h
 ·rfl
 ·refine finnG_occ0 hb 0 (by omega) (by omega) ?_
  rcases Nat.mul_eq_zero.1 hz with h | h
  ·exact h
  ·omega
theorem Pd_two {s : Tm} {k d : Int} (hk : k = 2 ∨ k = 3) (hd : 0 ≤ d) (hd2 : d ≤ 1000) {a b : Fm} : fmInn s 0 (fmTwo k a b) d = fmTwo k (fmInn s 0 a d) (fmInn s 0 b d) := by
 rw [fmInn_two, below_two hk, addW_zero hd (by omega)]
theorem Pd_q {s : Tm} {k : Int} (hk : k = 4 ∨ k = 5 ∨ k = 6 ∨ k = 7) {t : Ty} {a : Fm} {d : Int} (hd : 0 ≤ d) (hd2 : d ≤ 1000) : fmInn s 0 (fmQ k t a) d = fmQ k t (fmInn s 0 a (d + 1)) := by
 rw [fmInn_q, below_q hk, addW_eq (by omega) (by omega) (by omega) (by omega)]
theorem Pd_part {s : Tm} {b : Bool} {k d : Int} (hk : k = 11 ∨ k = 12) (hd : 0 ≤ d) (hd2 : d ≤ 1000) {t : Tm} : tmInn s 0 (rlPart b k t) d = rlPart b k (tmInn s 0 t d) := by
 unfold rlPart
 cases b
 ·rfl
 ·simp only [if_true]
  rw [inn_tm0 (by rcases hk with rfl | rfl <;> rfl)]
  have : tmBelow k = 0 := by rcases hk with rfl | rfl <;> rfl
  rw [this, addW_zero hd (by omega)]; rfl
theorem Pd_v0 {s : Tm} {d : Int} (hd : 0 ≤ d) (hd2 : d ≤ 1000) : tmInn s 0 (tmVar 0) (d + 1) = tmVar 0 := by
 have e0 : addW 0 (d + 1) = d + 1 := by rw [addW_eq (by omega) (by omega) (by omega) (by omega)]; omega
 have h1 : ((0 : Int) == d + 1) = false := by simp; omega
 have h2 : decide ((0 : Int) > d + 1) = false := by simp; omega
 rw [tmVar, tmInn, e0, h1, h2]; rfl
theorem TmR.P {L : Int} (hL : 0 ≤ L) (hL2 : L ≤ 500000000) {s t : Tm} (hs : SubOk L s) (h : TmR L t) {d : Int} (hd : 0 ≤ d) (hd2 : d ≤ 1000) : TmG (tmInn s 0 t d) ∧ (tmInn s 0 t d).least (L + 1000000) = true :=
 ⟨TmG.inn hs.gd (least_mono (by omega) _ hs.l) _ h.gd (Nat.le_refl _) (least_mono (by omega) _ h.l) d hd (by have := h.sz; omega), least_inn hL (by omega) hs.gd hs.l _ h.gd (Nat.le_refl _) h.l d hd (by have := h.sz; omega)⟩
theorem Pd_up {L : Int} (hL : 0 ≤ L) (hL2 : L ≤ 300000000) {s t : Tm} {b : Bool} (hs : SubOk L s) (h : TmR L t) (zt : tmSz t ≤ 4096) {d : Int} (hd : 0 ≤ d) (hd2 : d ≤ 1000) (zP : tmSz (tmInn s 0 t d) ≤ 4096) :
  tmInn s 0 (rlUp b t) (d + 1) = rlUp b (tmInn s 0 t d) := by
 have hzs := hs.sz
 obtain ⟨gP, lP⟩ := h.P hL (by omega) hs hd hd2
 have e1 := sl_up (b := 1) (by omega) (by omega) _ h.gd (Nat.le_refl _) (least_mono (by omega) _ h.l) 0 (by omega) (by omega)
 have e2 := sl_up (b := 1) (by omega) (by omega) _ gP (Nat.le_refl _) (least_mono (by omega) _ lP) 0 (by omega) (by omega)
 have e3 := up_innD hL (by omega) hs.gd h.gd hs.l h.l (by omega) h.sz 0 d (by omega) hd (by omega)
 unfold rlUp rlCall
 rw [e1, e2, e3]
 cases b
 ·rfl
 ·simp only [if_true]
  rw [inn_tm0 rfl]
  have : tmBelow 3 = 0 := rfl
  rw [this, addW_zero (by omega) (by omega)]
  simp only [List.map_cons, List.map_nil, Pd_v0 hd hd2]
theorem hc_big {u : Bool} {f : Fm} (h : FmG u f) (hz : 4096 < fmSz f) (hz2 : fmSz f ≤ 1000000) : f.hc = false := by
 have e : fmErr f = 4 := by rw [h.err_val hz2, if_neg (by omega)]
 unfold Fm.hc Fm.has
 rw [e]; rfl
theorem hc_none {f : Fm} (h : f.fl.c = false) : f.hc = false := by
 unfold Fm.hc Fm.has
 split
 ·rfl
 ·exact h
/-- What a step over an existential quantifier says about sizes. -/
theorem ex_sz {u : Bool} {b : Fm} (hb : FmG u b) (zb : fmSz b ≤ 8200) {x : Tm} (hx : TmG x) (zx : tmSz x ≤ 20000) (lx : x.least 1000000000 = true) (s1 : ¬ x.szW > 4096) (s2 : ¬ subW (b.grown x) b.exs > 4096) :
  tmSz x ≤ 4096 ∧ b.sp x = fmInn x 0 b 0 ∧ (fmSz (fmInn x 0 b 0) : Int) ≤ 4096 + b.exs ∧ fmSz (fmInn x 0 b 0) = fmSz b + fmOcc b 0 * (tmSz x - 1) := by
 have zx' := G_cut hx zx (by omega)
 have esp : b.sp x = fmInn x 0 b 0 := fsp_inn hx (by omega) lx hb 0 (by omega) (by omega)
 have hsz := hb.inn_sz (s := x) 0 (by omega) (by omega)
 have hqr := exs_range hb (by omega)
 have hpos := tmSz_pos x
 have hmul : fmOcc b 0 * (tmSz x - 1) ≤ 8200 * 4096 := Nat.mul_le_mul (by have := fmOcc_le b 0; omega) (by omega)
 have hgr : b.grown x = (fmSz (fmInn x 0 b 0) : Int) := by
  unfold Fm.grown
  rw [x.szW_nodes _ (hx.nodes_val (by omega)), b.szW_nodes _ (hb.nodes_val (by omega))]
  have e1 : subW (tmSz x : Int) 1 = ((tmSz x - 1 : Nat) : Int) := by rw [subW_eq (by omega) (by omega) (by omega) (by omega)]; omega
  rw [e1, grown_occ (c := 4096) (by omega) hb 0 _ (by omega) (by omega) (by omega), hsz]
 rw [hgr, subW_eq (by omega) (by omega) (by omega) (by omega)] at s2
 exact ⟨zx', esp, by omega, hsz⟩
theorem rlEx_ok {r : Fm → Tm → Fm × Int} {a : Fm} {t : Tm} (h : (rlEx r a t).2 = 0) : ¬ (rlPart a.hc 11 t).szW > 4096 ∧ ¬ subW (a.grown (rlPart a.hc 11 t)) a.exs > 4096 ∧ rlEx r a t = r (a.sp (rlPart a.hc 11 t)) (rlPart a.hc 12 t) := by
 unfold rlEx at h ⊢
 by_cases s1 : (rlPart a.hc 11 t).szW > 4096
 ·rw [decide_eq_true s1] at h; cases h
 by_cases s2 : subW (a.grown (rlPart a.hc 11 t)) a.exs > 4096
 ·rw [decide_eq_true s2, Bool.or_true] at h; cases h
 rw [decide_eq_false s1, decide_eq_false s2]
 exact ⟨s1, s2, rfl⟩
theorem rlBuild_ok {k : Int} {s : Ty} {x : Fm × Int} (h : (rlBuild k s x).2 = 0) : x.2 = 0 ∧ (rlBuild k s x).1 = fmQ k s x.1 := by
 unfold rlBuild at h ⊢
 cases h1 : (x.2 != 0) with
 | true => rw [h1] at h; simp only [if_true] at h; rw [h] at h1; cases h1
 | false =>
  rw [h1] at h
  by_cases h2 : (fmQ k s x.1).szW > 4096
  ·rw [decide_eq_true h2] at h; cases h
  ·rw [decide_eq_false h2]; exact ⟨by simpa using h1, rfl⟩
theorem rlOf_size {n : Nat} {f : Fm} {t : Tm} (h : (rlOf (n + 1) f t).2 = 0) : ¬ t.szW > 4096 := by
 intro h4
 rw [rlOf, decide_eq_true h4] at h; cases h
theorem rlOf_eq {n : Nat} {x y t : Tm} (h : (rlOf n (fmEq x y) t).2 = 0) : (rlOf n (fmEq x y) t).1 = fmEq x y := by
 cases n with
 | zero => cases h
 | succ n => rw [rlOf_else (rlOf_size h)]; rfl
theorem EEE_inv {u : Bool} {a : Fm} (h : FmG u a) {s : Tm} {d : Int} (hd : 0 ≤ d) (hd2 : d ≤ 100) (hq : EEE (fmInn s 0 a d)) :
  ∃ t1 t2 u v, a = fmQ 5 t1 (fmQ 5 t2 (fmEq u v)) ∧ TyG t1 ∧ TyG t2 ∧ TmG u ∧ TmG v := by
 obtain ⟨t1, t2, u, v, e⟩ := hq
 cases h with
 | eq _ _ => rw [fmInn_eqn] at e; simp [fmQ, fmEq] at e
 | two hk _ _ => rw [fmInn_two] at e; simp [fmQ, fmTwo] at e
 | @q k t b hk ht hb =>
  rw [Pd_q (FmG.qk hk) hd (by omega)] at e
  simp only [fmQ, Fm.mk.injEq, List.cons.injEq, and_true, true_and] at e
  obtain ⟨rfl, rfl, e⟩ := e
  cases hb with
  | eq _ _ => rw [fmInn_eqn] at e; simp [fmEq] at e
  | two hk _ _ => rw [fmInn_two] at e; simp [fmTwo] at e
  | @q k' t' b hk' ht' hb =>
   rw [Pd_q (FmG.qk hk') (by omega) (by omega)] at e
   simp only [fmQ, Fm.mk.injEq, List.cons.injEq, and_true, true_and] at e
   obtain ⟨rfl, rfl, e⟩ := e
   cases hb with
   | @eq x y hx hy => exact ⟨t, t', x, y, rfl, ht, ht', hx, hy⟩
   | two hk _ _ => rw [fmInn_two] at e; simp [fmEq, fmTwo] at e
   | @q k'' t'' b hk'' ht'' hb => rw [Pd_q (FmG.qk hk'') (by omega) (by omega)] at e; simp [fmEq, fmQ] at e
end GoAbs
namespace GoAbs
open Go
theorem nx_T {gr : Tm → Int} {room : Int} {k : Int} {ty : Ty} {l : List Tm} (hr : (tmT k ty l).root = false) :
  (tmT k ty l).nx gr room = match Tm.nxL gr room l with | some p => (tmT k ty p.1, true, p.2) | none => (tmT k ty l, false, true) := by
 rw [tmT] at hr ⊢
 rw [Tm.nx, hr]; rfl
theorem nx_root {gr : Tm → Int} {room : Int} {t : Tm} (hr : t.root = true) : t.nx gr room = if decide (gr t > room) then (zeroT, true, false) else (t.red, true, true) := by
 obtain ⟨k, i, ty, l⟩ := t
 rw [Tm.nx, hr]; rfl
theorem nx_ty {gr : Tm → Int} {room : Int} {g : List Ty} {t : Tm} {s : Ty} (h : HasTy TyG g t s) : g.length + tmSz t ≤ 50000 → (t.nx gr room).2 = (true, true) → HasTy TyG g (t.nx gr room).1 s := by
 have rootc : ∀ {g : List Ty} {t : Tm} {s : Ty}, HasTy TyG g t s → g.length + tmSz t ≤ 50000 → t.root = true → (t.nx gr room).2 = (true, true) → HasTy TyG g (t.nx gr room).1 s := by
  intro g t s h hb hr hn
  rw [nx_root hr] at hn ⊢
  split at hn
  ·simp at hn
  ·rename_i hc
   rw [if_neg hc]
   exact h.red hr hb
 induction h with
 | var hi h => intro hb hn; exact rootc (.var hi h) hb (by
   cases hr : (tmVar _).root with
   | true => rfl
   | false =>
    exfalso
    rw [tmVar] at hr hn
    rw [Tm.nx, hr] at hn
    simp [Tm.nxL] at hn) hn
 | @lam g a b t hG ht ih =>
  intro hb hn
  have hr : (tmT 2 a [t]).root = false := by simp [Tm.root, tmT, Tm.kind]
  rw [nx_T hr] at hn ⊢
  rw [tmSz_T1] at hb
  cases h1 : (t.nx gr room).2.1 with
  | false => simp [Tm.nxL, h1] at hn
  | true =>
   simp only [Tm.nxL, h1, if_true] at hn ⊢
   refine .lam hG (ih (by simp; omega) ?_)
   have e : (t.nx gr room).2 = ((t.nx gr room).2.1, (t.nx gr room).2.2) := rfl
   simp only [Prod.mk.injEq, true_and] at hn
   rw [e, h1, hn]
 | @n0 g k ty s hN =>
  intro hb hn
  cases hr : (tmT k ty []).root with
  | true => exact rootc (.n0 hN) hb hr hn
  | false => rw [nx_T hr] at hn; simp [Tm.nxL] at hn
 | @n1 g k ty s a x hN h1 ih1 =>
  intro hb hn
  cases hr : (tmT k ty [x]).root with
  | true => exact rootc (.n1 hN h1) hb hr hn
  | false =>
   rw [nx_T hr] at hn ⊢
   rw [tmSz_T1] at hb
   cases f1 : (x.nx gr room).2.1 with
   | false => simp [Tm.nxL, f1] at hn
   | true =>
    simp only [Tm.nxL, f1, if_true] at hn ⊢
    refine .n1 hN (ih1 (by omega) ?_)
    have e : (x.nx gr room).2 = ((x.nx gr room).2.1, (x.nx gr room).2.2) := rfl
    simp only [Prod.mk.injEq, true_and] at hn
    rw [e, f1, hn]
 | @n2 g k ty s a b x y hN h1 h2 ih1 ih2 =>
  intro hb hn
  cases hr : (tmT k ty [x, y]).root with
  | true => exact rootc (.n2 hN h1 h2) hb hr hn
  | false =>
   rw [nx_T hr] at hn ⊢
   rw [tmSz_T2] at hb
   have ex : (x.nx gr room).2 = ((x.nx gr room).2.1, (x.nx gr room).2.2) := rfl
   have ey : (y.nx gr room).2 = ((y.nx gr room).2.1, (y.nx gr room).2.2) := rfl
   cases f1 : (x.nx gr room).2.1 with
   | true =>
    simp only [Tm.nxL, f1, if_true] at hn ⊢
    simp only [Prod.mk.injEq, true_and] at hn
    exact .n2 hN (ih1 (by omega) (by rw [ex, f1, hn])) h2
   | false =>
    cases f2 : (y.nx gr room).2.1 with
    | true =>
     simp only [Tm.nxL, f1, f2, if_true, Bool.false_eq_true, if_false] at hn ⊢
     simp only [Prod.mk.injEq, true_and] at hn
     exact .n2 hN h1 (ih2 (by omega) (by rw [ey, f2, hn]))
    | false => simp [Tm.nxL, f1, f2] at hn
 | @n3 g k ty s a b c x y z hN h1 h2 h3 ih1 ih2 ih3 =>
  intro hb hn
  cases hr : (tmT k ty [x, y, z]).root with
  | true => exact rootc (.n3 hN h1 h2 h3) hb hr hn
  | false =>
   rw [nx_T hr] at hn ⊢
   rw [tmSz_T3] at hb
   have ex : (x.nx gr room).2 = ((x.nx gr room).2.1, (x.nx gr room).2.2) := rfl
   have ey : (y.nx gr room).2 = ((y.nx gr room).2.1, (y.nx gr room).2.2) := rfl
   have ez : (z.nx gr room).2 = ((z.nx gr room).2.1, (z.nx gr room).2.2) := rfl
   cases f1 : (x.nx gr room).2.1 with
   | true =>
    simp only [Tm.nxL, f1, if_true] at hn ⊢
    simp only [Prod.mk.injEq, true_and] at hn
    exact .n3 hN (ih1 (by omega) (by rw [ex, f1, hn])) h2 h3
   | false =>
    cases f2 : (y.nx gr room).2.1 with
    | true =>
     simp only [Tm.nxL, f1, f2, if_true, Bool.false_eq_true, if_false] at hn ⊢
     simp only [Prod.mk.injEq, true_and] at hn
     exact .n3 hN h1 (ih2 (by omega) (by rw [ey, f2, hn])) h3
    | false =>
     cases f3 : (z.nx gr room).2.1 with
     | true =>
      simp only [Tm.nxL, f1, f2, f3, if_true, Bool.false_eq_true, if_false] at hn ⊢
      simp only [Prod.mk.injEq, true_and] at hn
      exact .n3 hN h1 h2 (ih3 (by omega) (by rw [ez, f3, hn]))
     | false => simp [Tm.nxL, f1, f2, f3] at hn
end GoAbs
namespace GoAbs
open Go
/-- How many nodes more a redex has when it is reduced (ref04.growth). -/
def Tm.grow (t : Tm) : Int :=
 if t.kind == 3 then subW (addW (ta (ta t 0) 0).szW (mulW ((ta (ta t 0) 0).times 0) (subW (ta t 1).szW 1))) t.szW
 else if t.kind == 6 then
  (if (ta t 2).kind == 4 then subW (ta t 0).szW t.szW
  else subW (subW (addW (addW (addW 2 (ta t 1).szW) (ta (ta t 2) 0).szW) t.szW) 1) t.szW)
 else if t.kind == 9 then
  (if (ta t 2).kind == 7 then subW (ta t 0).szW t.szW
  else subW (subW (subW (addW (addW (addW (addW 3 (ta t 1).szW) (ta (ta t 2) 0).szW) (ta (ta t 2) 1).szW) t.szW) 1) (ta (ta t 2) 0).szW) t.szW)
 else if t.kind == 11 then subW (ta (ta t 0) 0).szW t.szW else subW (ta (ta t 0) 1).szW t.szW
theorem HasTy.least {g : List Ty} {t : Tm} {s : Ty} (h : HasTy TyG g t s) : ∀ M : Int, 1 ≤ M → (g.length : Int) + tmSz t ≤ M → t.least M = true := by
 induction h with
 | var hi h => intro M hM hb; rw [tmSz_v] at hb; exact least_v (by omega)
 | lam hG _ ih => intro M hM hb; rw [tmSz_T1] at hb; exact least_T1 hM (ih M hM (by simp; omega))
 | n0 hN => intro M hM hb; exact least_mk (by omega) (by simp)
 | n1 hN _ ih => intro M hM hb; rw [tmSz_T1] at hb; exact least_T1 hM (ih M hM (by omega))
 | n2 hN _ _ ih1 ih2 => intro M hM hb; rw [tmSz_T2] at hb; exact least_mk (by omega) (by simp [ih1 M hM (by omega), ih2 M hM (by omega)])
 | n3 hN _ _ _ ih1 ih2 ih3 => intro M hM hb; rw [tmSz_T3] at hb; exact least_T3 hM (ih1 M hM (by omega)) (ih2 M hM (by omega)) (ih3 M hM (by omega))
theorem TmG.rec_mk {t : Ty} {a b c a' b' c' : Tm} {k : Int} (hk : k = 6 ∨ k = 9) (h : TmG (tmT k t [a, b, c])) (ha : TmG a') (hb : TmG b') (hc : TmG c') : TmG (tmT k t [a', b', c']) := by
 generalize hx : tmT k t [a, b, c] = x at h
 cases h with
 | @plain k' l ar h1 h2 h3 h4 =>
  simp only [tmT, tm0, Tm.mk.injEq] at hx
  obtain ⟨rfl, _, _, _⟩ := hx
  rcases hk with rfl | rfl <;> simp [typed] at h3
 | var => simp only [tmT, tmVar, Tm.mk.injEq] at hx; rcases hk with rfl | rfl <;> simp at hx
 | @typd k' t' l ar h1 h2 h3 hg h4 =>
  simp only [tmT, Tm.mk.injEq] at hx
  obtain ⟨rfl, _, rfl, _⟩ := hx
  rcases hk with rfl | rfl
  ·exact .recr hg ha hb hc
  ·exact .fold hg ha hb hc
theorem grow_eq {g : List Ty} {t : Tm} {s : Ty} (h : HasTy TyG g t s) (hG : TmG t) (hr : t.root = true) (hb : g.length + tmSz t ≤ 10000) : t.grow = (tmSz t.red : Int) - tmSz t ∧ TmG t.red := by
 have hW := hG.szW (by omega)
 have hp := tmSz_pos t
 cases h with
 | var => simp [Tm.root, tmVar, Tm.kind] at hr
 | lam => simp [Tm.root, tmT, Tm.kind] at hr
 | n0 hN => cases hN <;> simp [Tm.root, tmT, Tm.kind] at hr
 | @n1 _ k ty _ a x hN h1 =>
  have gx := hG.arg (x := x) (by simp [tmT, Tm.args])
  have zz : tmSz (tmT k ty [x]) = tmSz x + 1 := tmSz_T1
  cases hN with
  | succ => simp [Tm.root, tmT, Tm.kind] at hr
  | fst =>
   have hk : x.kind = 10 := by simpa [Tm.root, tmT, Tm.kind, ta, Tm.args] using hr
   obtain ⟨ty', a', b', y, z, e, rfl, h2, h3⟩ := h1.inv_pair hk
   have gy := gx.arg (x := y) (by simp [tmT, Tm.args])
   have z2 : tmSz (tmT 10 ty' [y, z]) = tmSz y + tmSz z + 1 := tmSz_T2
   have e1 : (tmT 11 ty [tmT 10 ty' [y, z]]).grow = subW y.szW (tmT 11 ty [tmT 10 ty' [y, z]]).szW := rfl
   have e2 : (tmT 11 ty [tmT 10 ty' [y, z]]).red = y := rfl
   rw [e1, e2, hW, gy.szW (by omega), subW_eq (by omega) (by omega) (by omega) (by omega)]
   exact ⟨rfl, gy⟩
  | snd =>
   have hk : x.kind = 10 := by simpa [Tm.root, tmT, Tm.kind, ta, Tm.args] using hr
   obtain ⟨ty', a', b', y, z, e, rfl, h2, h3⟩ := h1.inv_pair hk
   have gy := gx.arg (x := z) (by simp [tmT, Tm.args])
   have z2 : tmSz (tmT 10 ty' [y, z]) = tmSz y + tmSz z + 1 := tmSz_T2
   have e1 : (tmT 12 ty [tmT 10 ty' [y, z]]).grow = subW z.szW (tmT 12 ty [tmT 10 ty' [y, z]]).szW := rfl
   have e2 : (tmT 12 ty [tmT 10 ty' [y, z]]).red = z := rfl
   rw [e1, e2, hW, gy.szW (by omega), subW_eq (by omega) (by omega) (by omega) (by omega)]
   exact ⟨rfl, gy⟩
 | @n2 _ k ty _ a b x y hN h1 h2 =>
  have gx := hG.arg (x := x) (by simp [tmT, Tm.args])
  have gy := hG.arg (x := y) (by simp [tmT, Tm.args])
  have zz : tmSz (tmT k ty [x, y]) = tmSz x + tmSz y + 1 := tmSz_T2
  cases hN with
  | app =>
   have hk : x.kind = 2 := by simpa [Tm.root, tmT, Tm.kind, ta, Tm.args] using hr
   obtain ⟨a', b', z, e, rfl, h3⟩ := h1.inv_lam hk
   have gz := gx.arg (x := z) (by simp [tmT, Tm.args])
   have z2 : tmSz (tmT 2 a' [z]) = tmSz z + 1 := tmSz_T1
   have py := tmSz_pos y
   have e1 : (tmT 3 ty [tmT 2 a' [z], y]).grow = subW (addW z.szW (mulW (z.times 0) (subW y.szW 1))) (tmT 3 ty [tmT 2 a' [z], y]).szW := rfl
   have e2 : (tmT 3 ty [tmT 2 a' [z], y]).red = tmInn y 0 z 0 := rfl
   have ly := h2.least 536870912 (by omega) (by omega)
   have lz := h3.least 536870912 (by omega) (by simp; omega)
   have ho := tmOcc_le z 0
   have hm : tmOcc z 0 * (tmSz y - 1) ≤ 10000 * 10000 := Nat.mul_le_mul (by omega) (by omega)
   have e3 : subW y.szW 1 = ((tmSz y - 1 : Nat) : Int) := by rw [gy.szW (by omega), subW_eq (by omega) (by omega) (by omega) (by omega)]; omega
   have e4 : mulW (z.times 0) (subW y.szW 1) = ((tmOcc z 0 * (tmSz y - 1) : Nat) : Int) := by
    rw [TmG.times_occ _ gz (Nat.le_refl _) 0 (by omega) (by omega), e3]
    unfold mulW
    exact wrap_eq (by simp) (by omega) (by omega)
   rw [e1, e2, e4, hW, gz.szW (by omega), addW_eq (by omega) (by omega) (by omega) (by omega), subW_eq (by omega) (by omega) (by omega) (by omega),
    TmG.inn_sz _ gz (Nat.le_refl _) 0 (by omega) (by omega)]
   exact ⟨by simp, TmG.inn gy ly _ gz (Nat.le_refl _) lz 0 (by omega) (by omega)⟩
  | cons => simp [Tm.root, tmT, Tm.kind] at hr
  | pair => simp [Tm.root, tmT, Tm.kind] at hr
 | @n3 _ k ty _ a b c x y z hN h1 h2 h3 =>
  have gx := hG.arg (x := x) (by simp [tmT, Tm.args])
  have gy := hG.arg (x := y) (by simp [tmT, Tm.args])
  have gz := hG.arg (x := z) (by simp [tmT, Tm.args])
  have zz : tmSz (tmT k ty [x, y, z]) = tmSz x + (tmSz y + tmSz z) + 1 := tmSz_T3
  cases hN with
  | recr =>
   have hk : z.kind = 4 ∨ z.kind = 5 := by simpa [Tm.root, tmT, Tm.kind, ta, Tm.args] using hr
   have e1 : (tmT 6 s [x, y, z]).grow = if z.kind == 4 then subW x.szW (tmT 6 s [x, y, z]).szW else
    subW (subW (addW (addW (addW 2 y.szW) (ta z 0).szW) (tmT 6 s [x, y, z]).szW) 1) (tmT 6 s [x, y, z]).szW := rfl
   have e2 : (tmT 6 s [x, y, z]).red = if z.kind == 4 then x else tm0 3 [tm0 3 [y, ta z 0], tmT 6 s [x, y, ta z 0]] := rfl
   rw [e1, e2]
   rcases hk with hk | hk
   ·rw [hk]
    simp only [beq_self_eq_true, if_true]
    rw [hW, gx.szW (by omega), subW_eq (by omega) (by omega) (by omega) (by omega)]
    exact ⟨rfl, gx⟩
   ·have hk' : (z.kind == 4) = false := by rw [hk]; rfl
    obtain ⟨ty', m, rfl, hm⟩ := h3.inv_succ hk
    have gm := gz.arg (x := m) (by simp [tmT, Tm.args])
    have zm : tmSz (tmT 5 ty' [m]) = tmSz m + 1 := tmSz_T1
    have em : ta (tmT 5 ty' [m]) 0 = m := rfl
    rw [hk', em]
    simp only [Bool.false_eq_true, if_false]
    rw [hW, gy.szW (by omega), gm.szW (by omega)]
    have hN : tmSz (tmT 6 s [x, y, tmT 5 ty' [m]]) ≤ 10000 := by omega
    generalize hNN : tmSz (tmT 6 s [x, y, tmT 5 ty' [m]]) = N at *
    have q1 : addW 2 (tmSz y : Int) = 2 + tmSz y := addW_eq (by omega) (by omega) (by omega) (by omega)
    have q2 : addW (2 + (tmSz y : Int)) (tmSz m : Int) = 2 + tmSz y + tmSz m := addW_eq (by omega) (by omega) (by omega) (by omega)
    have q3 : addW (2 + (tmSz y : Int) + tmSz m) (N : Int) = 2 + tmSz y + tmSz m + N := addW_eq (by omega) (by omega) (by omega) (by omega)
    have q4 : subW (2 + (tmSz y : Int) + tmSz m + N) 1 = 2 + tmSz y + tmSz m + N - 1 := subW_eq (by omega) (by omega) (by omega) (by omega)
    have q5 : subW (2 + (tmSz y : Int) + tmSz m + N - 1) (N : Int) = 2 + tmSz y + tmSz m + N - 1 - N := subW_eq (by omega) (by omega) (by omega) (by omega)
    rw [q1, q2, q3, q4, q5]
    refine ⟨?_, .t2 ar3 rfl (.t2 ar3 rfl gy gm) (TmG.rec_mk (.inl rfl) hG gx gy gm)⟩
    rw [tmSz_2, tmSz_2, tmSz_T3]; omega
  | fold =>
   have hk : z.kind = 7 ∨ z.kind = 8 := by simpa [Tm.root, tmT, Tm.kind, ta, Tm.args] using hr
   have e1 : (tmT 9 s [x, y, z]).grow = if z.kind == 7 then subW x.szW (tmT 9 s [x, y, z]).szW else
    subW (subW (subW (addW (addW (addW (addW 3 y.szW) (ta z 0).szW) (ta z 1).szW) (tmT 9 s [x, y, z]).szW) 1) (ta z 0).szW) (tmT 9 s [x, y, z]).szW := rfl
   have e2 : (tmT 9 s [x, y, z]).red = if z.kind == 7 then x else tm0 3 [tm0 3 [tm0 3 [y, ta z 0], ta z 1], tmT 9 s [x, y, ta z 1]] := rfl
   rw [e1, e2]
   rcases hk with hk | hk
   ·rw [hk]
    simp only [beq_self_eq_true, if_true]
    rw [hW, gx.szW (by omega), subW_eq (by omega) (by omega) (by omega) (by omega)]
    exact ⟨rfl, gx⟩
   ·have hk' : (z.kind == 7) = false := by rw [hk]; rfl
    obtain ⟨ty', m, n, rfl, hm, hn⟩ := h3.inv_cons hk
    have gm := gz.arg (x := m) (by simp [tmT, Tm.args])
    have gn := gz.arg (x := n) (by simp [tmT, Tm.args])
    have zm : tmSz (tmT 8 ty' [m, n]) = tmSz m + tmSz n + 1 := tmSz_T2
    have em : ta (tmT 8 ty' [m, n]) 0 = m := rfl
    have en : ta (tmT 8 ty' [m, n]) 1 = n := rfl
    rw [hk', em, en]
    simp only [Bool.false_eq_true, if_false]
    rw [hW, gy.szW (by omega), gm.szW (by omega), gn.szW (by omega)]
    have hN : tmSz (tmT 9 s [x, y, tmT 8 ty' [m, n]]) ≤ 10000 := by omega
    generalize hNN : tmSz (tmT 9 s [x, y, tmT 8 ty' [m, n]]) = N at *
    have q1 : addW 3 (tmSz y : Int) = 3 + tmSz y := addW_eq (by omega) (by omega) (by omega) (by omega)
    have q2 : addW (3 + (tmSz y : Int)) (tmSz m : Int) = 3 + tmSz y + tmSz m := addW_eq (by omega) (by omega) (by omega) (by omega)
    have q2' : addW (3 + (tmSz y : Int) + tmSz m) (tmSz n : Int) = 3 + tmSz y + tmSz m + tmSz n := addW_eq (by omega) (by omega) (by omega) (by omega)
    have q3 : addW (3 + (tmSz y : Int) + tmSz m + tmSz n) (N : Int) = 3 + tmSz y + tmSz m + tmSz n + N := addW_eq (by omega) (by omega) (by omega) (by omega)
    have q4 : subW (3 + (tmSz y : Int) + tmSz m + tmSz n + N) 1 = 3 + tmSz y + tmSz m + tmSz n + N - 1 := subW_eq (by omega) (by omega) (by omega) (by omega)
    have q4' : subW (3 + (tmSz y : Int) + tmSz m + tmSz n + N - 1) (tmSz m : Int) = 3 + tmSz y + tmSz m + tmSz n + N - 1 - tmSz m := subW_eq (by omega) (by omega) (by omega) (by omega)
    have q5 : subW (3 + (tmSz y : Int) + tmSz m + tmSz n + N - 1 - tmSz m) (N : Int) = 3 + tmSz y + tmSz m + tmSz n + N - 1 - tmSz m - N := subW_eq (by omega) (by omega) (by omega) (by omega)
    rw [q1, q2, q2', q3, q4, q4', q5]
    refine ⟨?_, .t2 ar3 rfl (.t2 ar3 rfl (.t2 ar3 rfl gy gm) gn) (TmG.rec_mk (.inr rfl) hG gx gy gn)⟩
    rw [tmSz_2, tmSz_2, tmSz_2, tmSz_T3]; omega
end GoAbs
namespace GoAbs
open Go
theorem TmG.repl {k : Int} {ty : Ty} {l l' : List Tm} (h : TmG (tmT k ty l)) (hl : l'.length = l.length) (h' : ∀ x ∈ l', TmG x) : TmG (tmT k ty l') := by
 generalize hx : tmT k ty l = x at h
 cases h with
 | @plain k' l0 ar h1 h2 h3 h4 =>
  simp only [tmT, tm0, Tm.mk.injEq] at hx
  obtain ⟨rfl, _, rfl, rfl⟩ := hx
  exact .plain h1 (by rw [hl]; exact h2) h3 h'
 | @var i hi =>
  simp only [tmT, tmVar, Tm.mk.injEq] at hx
  obtain ⟨rfl, rfl, rfl, rfl⟩ := hx
  have : l' = [] := List.length_eq_zero_iff.1 (by simpa using hl)
  subst this
  exact .var (i := 0) (by omega)
 | @typd k' t' l0 ar h1 h2 h3 hg h4 =>
  simp only [tmT, Tm.mk.injEq] at hx
  obtain ⟨rfl, _, rfl, rfl⟩ := hx
  exact .typd h1 (by rw [hl]; exact h2) h3 hg h'
theorem nx_good {room : Int} {g : List Ty} {t : Tm} {s : Ty} (h : HasTy TyG g t s) : TmG t → g.length + tmSz t ≤ 10000 → (t.nx Tm.grow room).2 = (true, true) →
  TmG (t.nx Tm.grow room).1 ∧ (tmSz (t.nx Tm.grow room).1 : Int) ≤ tmSz t + room := by
 have rootc : ∀ {g : List Ty} {t : Tm} {s : Ty}, HasTy TyG g t s → TmG t → g.length + tmSz t ≤ 10000 → t.root = true → (t.nx Tm.grow room).2 = (true, true) →
   TmG (t.nx Tm.grow room).1 ∧ (tmSz (t.nx Tm.grow room).1 : Int) ≤ tmSz t + room := by
  intro g t s h hG hb hr hn
  obtain ⟨e1, e2⟩ := grow_eq h hG hr hb
  rw [nx_root hr] at hn ⊢
  split at hn
  ·simp at hn
  ·rename_i hc
   rw [if_neg hc]
   simp at hc
   exact ⟨e2, by simp only; omega⟩
 induction h with
 | var hi h =>
  intro hG hb hn
  cases hr : (tmVar _).root with
  | true => exact rootc (.var hi h) hG hb hr hn
  | false =>
   exfalso
   rw [tmVar] at hr hn
   rw [Tm.nx, hr] at hn
   simp [Tm.nxL] at hn
 | @lam g a b t hT ht ih =>
  intro hG hb hn
  have hr : (tmT 2 a [t]).root = false := by simp [Tm.root, tmT, Tm.kind]
  rw [nx_T hr] at hn ⊢
  rw [tmSz_T1] at hb
  cases h1 : (t.nx Tm.grow room).2.1 with
  | false => simp [Tm.nxL, h1] at hn
  | true =>
   simp only [Tm.nxL, h1, if_true] at hn ⊢
   have e : (t.nx Tm.grow room).2 = ((t.nx Tm.grow room).2.1, (t.nx Tm.grow room).2.2) := rfl
   simp only [Prod.mk.injEq, true_and] at hn
   obtain ⟨q1, q2⟩ := ih (hG.arg (by simp [tmT, Tm.args])) (by simp; omega) (by rw [e, h1, hn])
   exact ⟨hG.repl (by simp) (by simpa using q1), by rw [tmSz_T1, tmSz_T1]; omega⟩
 | @n0 g k ty s hN =>
  intro hG hb hn
  cases hr : (tmT k ty []).root with
  | true => exact rootc (.n0 hN) hG hb hr hn
  | false => rw [nx_T hr] at hn; simp [Tm.nxL] at hn
 | @n1 g k ty s a x hN h1 ih1 =>
  intro hG hb hn
  cases hr : (tmT k ty [x]).root with
  | true => exact rootc (.n1 hN h1) hG hb hr hn
  | false =>
   rw [nx_T hr] at hn ⊢
   rw [tmSz_T1] at hb
   cases f1 : (x.nx Tm.grow room).2.1 with
   | false => simp [Tm.nxL, f1] at hn
   | true =>
    simp only [Tm.nxL, f1, if_true] at hn ⊢
    have e : (x.nx Tm.grow room).2 = ((x.nx Tm.grow room).2.1, (x.nx Tm.grow room).2.2) := rfl
    simp only [Prod.mk.injEq, true_and] at hn
    obtain ⟨q1, q2⟩ := ih1 (hG.arg (by simp [tmT, Tm.args])) (by omega) (by rw [e, f1, hn])
    exact ⟨hG.repl (by simp) (by simpa using q1), by rw [tmSz_T1, tmSz_T1]; omega⟩
 | @n2 g k ty s a b x y hN h1 h2 ih1 ih2 =>
  intro hG hb hn
  have gx := hG.arg (x := x) (by simp [tmT, Tm.args])
  have gy := hG.arg (x := y) (by simp [tmT, Tm.args])
  cases hr : (tmT k ty [x, y]).root with
  | true => exact rootc (.n2 hN h1 h2) hG hb hr hn
  | false =>
   rw [nx_T hr] at hn ⊢
   rw [tmSz_T2] at hb
   have ex : (x.nx Tm.grow room).2 = ((x.nx Tm.grow room).2.1, (x.nx Tm.grow room).2.2) := rfl
   have ey : (y.nx Tm.grow room).2 = ((y.nx Tm.grow room).2.1, (y.nx Tm.grow room).2.2) := rfl
   cases f1 : (x.nx Tm.grow room).2.1 with
   | true =>
    simp only [Tm.nxL, f1, if_true] at hn ⊢
    simp only [Prod.mk.injEq, true_and] at hn
    obtain ⟨q1, q2⟩ := ih1 gx (by omega) (by rw [ex, f1, hn])
    exact ⟨hG.repl (by simp) (by simp [q1, gy]), by rw [tmSz_T2, tmSz_T2]; omega⟩
   | false =>
    cases f2 : (y.nx Tm.grow room).2.1 with
    | true =>
     simp only [Tm.nxL, f1, f2, if_true, Bool.false_eq_true, if_false] at hn ⊢
     simp only [Prod.mk.injEq, true_and] at hn
     obtain ⟨q1, q2⟩ := ih2 gy (by omega) (by rw [ey, f2, hn])
     exact ⟨hG.repl (by simp) (by simp [q1, gx]), by rw [tmSz_T2, tmSz_T2]; omega⟩
    | false => simp [Tm.nxL, f1, f2] at hn
 | @n3 g k ty s a b c x y z hN h1 h2 h3 ih1 ih2 ih3 =>
  intro hG hb hn
  have gx := hG.arg (x := x) (by simp [tmT, Tm.args])
  have gy := hG.arg (x := y) (by simp [tmT, Tm.args])
  have gz := hG.arg (x := z) (by simp [tmT, Tm.args])
  cases hr : (tmT k ty [x, y, z]).root with
  | true => exact rootc (.n3 hN h1 h2 h3) hG hb hr hn
  | false =>
   rw [nx_T hr] at hn ⊢
   rw [tmSz_T3] at hb
   have ex : (x.nx Tm.grow room).2 = ((x.nx Tm.grow room).2.1, (x.nx Tm.grow room).2.2) := rfl
   have ey : (y.nx Tm.grow room).2 = ((y.nx Tm.grow room).2.1, (y.nx Tm.grow room).2.2) := rfl
   have ez : (z.nx Tm.grow room).2 = ((z.nx Tm.grow room).2.1, (z.nx Tm.grow room).2.2) := rfl
   cases f1 : (x.nx Tm.grow room).2.1 with
   | true =>
    simp only [Tm.nxL, f1, if_true] at hn ⊢
    simp only [Prod.mk.injEq, true_and] at hn
    obtain ⟨q1, q2⟩ := ih1 gx (by omega) (by rw [ex, f1, hn])
    exact ⟨hG.repl (by simp) (by simp [q1, gy, gz]), by rw [tmSz_T3, tmSz_T3]; omega⟩
   | false =>
    cases f2 : (y.nx Tm.grow room).2.1 with
    | true =>
     simp only [Tm.nxL, f1, f2, if_true, Bool.false_eq_true, if_false] at hn ⊢
     simp only [Prod.mk.injEq, true_and] at hn
     obtain ⟨q1, q2⟩ := ih2 gy (by omega) (by rw [ey, f2, hn])
     exact ⟨hG.repl (by simp) (by simp [q1, gx, gz]), by rw [tmSz_T3, tmSz_T3]; omega⟩
    | false =>
     cases f3 : (z.nx Tm.grow room).2.1 with
     | true =>
      simp only [Tm.nxL, f1, f2, f3, if_true, Bool.false_eq_true, if_false] at hn ⊢
      simp only [Prod.mk.injEq, true_and] at hn
      obtain ⟨q1, q2⟩ := ih3 gz (by omega) (by rw [ez, f3, hn])
      exact ⟨hG.repl (by simp) (by simp [q1, gx, gy]), by rw [tmSz_T3, tmSz_T3]; omega⟩
     | false => simp [Tm.nxL, f1, f2, f3] at hn
/-- Normalization (ref04.Normal), from step n on, with fuel. -/
def normN (steps : Int) : Nat → Int → Tm → Option (Tm × Int × Int)
 | 0, _, _ => none
 | k + 1, n, t =>
  if !(t.nx Tm.grow (4096 - (tmSz t : Int))).2.1 then some (t, n, 0)
  else if n == steps then some (zeroT, 0, 5)
  else if !(t.nx Tm.grow (4096 - (tmSz t : Int))).2.2 then some (zeroT, 0, 4)
  else normN steps k (n + 1) (t.nx Tm.grow (4096 - (tmSz t : Int))).1
theorem normN_ok {steps : Int} {s : Ty} : ∀ (k : Nat) (n : Int) (t : Tm), HasTy TyG [] t s → TmG t → tmSz t ≤ 4096 → ∀ r, normN steps k n t = some r →
  (r.2.2 = 0 ∧ r.1.nrm = true ∧ HasTy TyG [] r.1 s ∧ TmG r.1 ∧ tmSz r.1 ≤ 4096) ∨ r.2.2 = 5 ∨ r.2.2 = 4
 | 0, n, t, _, _, _, r, h => by simp [normN] at h
 | k + 1, n, t, hT, hG, hz, r, h => by
  rw [normN] at h
  cases h1 : (t.nx Tm.grow (4096 - (tmSz t : Int))).2.1 with
  | false =>
   rw [h1] at h
   simp only [Bool.not_false, if_true, Option.some.injEq] at h
   subst h
   exact .inl ⟨rfl, (nx_none t h1).1, hT, hG, hz⟩
  | true =>
   rw [h1] at h
   simp only [Bool.not_true, Bool.false_eq_true, if_false] at h
   split at h
   ·simp only [Option.some.injEq] at h; subst h; exact .inr (.inl rfl)
   ·cases h2 : (t.nx Tm.grow (4096 - (tmSz t : Int))).2.2 with
    | false =>
     rw [h2] at h
     simp only [Bool.not_false, if_true, Option.some.injEq] at h
     subst h; exact .inr (.inr rfl)
    | true =>
     rw [h2] at h
     simp only [Bool.not_true, Bool.false_eq_true, if_false] at h
     have hn : (t.nx Tm.grow (4096 - (tmSz t : Int))).2 = (true, true) := by
      have e : (t.nx Tm.grow (4096 - (tmSz t : Int))).2 = ((t.nx Tm.grow (4096 - (tmSz t : Int))).2.1, (t.nx Tm.grow (4096 - (tmSz t : Int))).2.2) := rfl
      rw [e, h1, h2]
     have a1 := nx_ty hT (by simp; omega) hn
     obtain ⟨a2, a3⟩ := nx_good hT hG (by simp; omega) hn
     exact normN_ok k (n + 1) _ a1 a2 (by omega) r h
/-- A closed term of the unit type without redex is the unit. -/
theorem unit_nrm {t : Tm} (h : HasTy TyG [] t tUnit) (hG : TmG t) (hn : t.nrm = true) : t = tm0 13 [] := by
 have hk := (h.canon rfl hn).2.2.2.2 rfl
 cases hG with
 | @plain k l a h1 h2 h3 h4 =>
  simp only [tm0, Tm.kind] at hk
  subst hk
  rw [ar13] at h1
  have : a = 0 := (Option.some.inj h1).symm
  subst this
  have : l = [] := List.length_eq_zero_iff.1 (by omega)
  subst this; rfl
 | var => simp [tmVar, Tm.kind] at hk
 | @typd k t l a h1 h2 h3 =>
  simp only [tmT, Tm.kind] at hk
  subst hk
  simp [typed] at h3
end GoAbs
