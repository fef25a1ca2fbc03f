/-
  The abstract layer: plain laws, further ones.
-/
import Derived.Test.YteopcebaeojjkaaDoorAbsD
set_option linter.unusedSimpArgs false
set_option linter.unusedVariables false
set_option linter.unusedSectionVars false
set_option maxRecDepth 8000
namespace GoAbs
open Go

end GoAbs

namespace GoAbs
open Go

theorem fdp_two {k : Int} {a b : Fm} : fdp (fmTwo k a b) = max (fdp a) (fdp b) + 1 := by simp [fmTwo, fdp, fdpL]
theorem fdp_eqn {x y : Tm} : fdp (fmEq x y) = 1 := by simp [fmEq, fdp, fdpL]

theorem least_tm0 {k : Int} {l : List Tm} {M : Int} (hM : 0 ≤ M) (h : ∀ x ∈ l, x.least M = true) : (tm0 k l).least M = true := least_mk (by omega) h
theorem chCall_G {a b : Ty} {f t : Tm} (h1 : TmG f) (h2 : TmG t) : TmG (chCall a b f t) := by
  unfold chCall
  repeat' split
  · exact .t0 ar13 rfl
  · exact h1
  · exact .t2 ar3 rfl h1 h2
theorem chCall_least {a b : Ty} {f t : Tm} {M : Int} (hM : 0 ≤ M) (h1 : f.least M = true) (h2 : t.least M = true) : (chCall a b f t).least M = true := by
  unfold chCall
  repeat' split
  · exact least_tm0 hM (by simp)
  · exact h1
  · exact least_tm0 hM (by simp [h1, h2])
theorem chCall_sz {a b : Ty} {f t : Tm} : tmSz (chCall a b f t) ≤ tmSz f + tmSz t + 1 := by
  unfold chCall
  repeat' split
  · rw [tmSz_0]; omega
  · omega
  · rw [tmSz_2]; omega
end GoAbs

namespace GoAbs
open Go

theorem chCall_ty {g : List Ty} {a b : Ty} {f t : Tm} (hb : TyF b) (h : HasTy TyF g f (chFun a b)) (ht : HasTy TyF g t a) : HasTy TyF g (chCall a b f t) b := by
  unfold chCall chFun at *
  cases kb : (b.kind == 5) with
  | true => simp only [if_true]; rw [hb.kind5 kb]; exact .n0 (ty := .mk 0 []) .unit
  | false =>
    rw [kb] at h
    simp only [Bool.false_eq_true, if_false] at h ⊢
    cases ka : (a.kind == 5) with
    | true => rw [ka] at h; simp only [if_true] at h ⊢; exact h
    | false =>
      rw [ka] at h
      simp only [Bool.false_eq_true, if_false] at h ⊢
      exact .n2 (ty := .mk 0 []) .app h ht

theorem FmTy.inn {a : Ty} {x : Tm} {f : Fm} {g' : List Ty} (h : FmTy TyF g' f) : ∀ g l : List Ty, g' = g ++ [a] ++ l → HasTy TyF g x a → l.length + fmSz f ≤ 40000 → g.length + tmSz x ≤ 40000 → FmTy TyF (g ++ l) (fmInn x 0 f (l.length : Int)) := by
  induction h with
  | @eq g' p q h1 h2 =>
    intro g l e hx hb hg
    rw [fmSz_eq] at hb
    rw [fmInn_eqn]
    exact .eq (h1.inn g l e hx (by omega) (by omega)) (h2.inn g l e hx (by omega) (by omega))
  | @two g' k p q hk _ _ ih1 ih2 =>
    intro g l e hx hb hg
    rw [fmSz_two] at hb
    rw [fmInn_two, below_two hk, addW_zero (by omega) (by omega)]
    exact .two hk (ih1 g l e hx (by omega) hg) (ih2 g l e hx (by omega) hg)
  | @q g' k s p hk _ ih =>
    intro g l e hx hb hg
    subst e
    rw [fmSz_q] at hb
    have hq : fmBelow k = 1 := by rcases hk with rfl | rfl | rfl | rfl <;> rfl
    have e1 : addW (l.length : Int) (fmBelow k) = ((l ++ [s]).length : Int) := by
      rw [hq, addW_eq (by omega) (by omega) (by omega) (by omega)]; simp
    rw [fmInn_q, e1]
    refine .q hk ?_
    have := ih g (l ++ [s]) (by simp) hx (by simp; omega) hg
    rw [List.append_assoc]; exact this
inductive Shp : Nat → Fm → Prop
  | eq {n : Nat} {x y : Tm} : TmG x → TmG y → Shp n (fmEq x y)
  | two {n : Nat} {k : Int} {a b : Fm} (hk : k = 2 ∨ k = 3) : Shp n a → Shp n b → Shp (n + 1) (fmTwo k a b)
  | q {n : Nat} {k : Int} {s : Ty} {a : Fm} (hk : k = 4 ∨ k = 5) (hs : TyG s) : Shp n a → Shp (n + 1) (fmQ k s a)
theorem Shp.G {n : Nat} {f : Fm} (h : Shp n f) : FmG false f := by
  induction h with
  | eq h1 h2 => exact .eq h1 h2
  | two hk _ _ h1 h2 => exact .two hk h1 h2
  | q hk hs _ h1 => exact .q (by rcases hk with h | h; exact .inl h; exact .inr (.inl h)) hs h1
theorem fleast_parts2 {k M : Int} {a b : Fm} (h : (fmTwo k a b).least M = true) : a.least M = true ∧ b.least M = true := by
  rw [fmTwo, Fm.least] at h; simpa [Tm.leastL_nil, Fm.leastL_cons, Fm.leastL_nil] using h
theorem fleast_part {k M : Int} {s : Ty} {a : Fm} (h : (fmQ k s a).least M = true) : a.least M = true := by
  rw [fmQ, Fm.least] at h; simpa [Tm.leastL_nil, Fm.leastL_cons, Fm.leastL_nil] using h
theorem fleast_eq {M : Int} {x y : Tm} : (fmEq x y).least M = true ↔ x.least M = true ∧ y.least M = true := by
  rw [fmEq, Fm.least]; simp [Tm.leastL_nil, Tm.leastL_cons, Fm.leastL_nil]
theorem Shp.inn {s : Tm} (hs : TmG s) (hsl : s.least 536870912 = true) {n : Nat} {f : Fm} (h : Shp n f) : f.least 536870912 = true → ∀ d : Int, 0 ≤ d → d + fmSz f ≤ 500000 → Shp n (fmInn s 0 f d) := by
  induction h with
  | @eq n x y hx hy =>
    intro hl d h0 hb
    rw [fmSz_eq] at hb
    obtain ⟨l1, l2⟩ := fleast_eq.1 hl
    rw [fmInn_eqn]
    exact .eq (TmG.inn hs hsl _ hx (Nat.le_refl _) l1 d h0 (by omega)) (TmG.inn hs hsl _ hy (Nat.le_refl _) l2 d h0 (by omega))
  | @two n k p q hk _ _ h1 h2 =>
    intro hl d h0 hb
    rw [fmSz_two] at hb
    obtain ⟨l1, l2⟩ := fleast_parts2 hl
    rw [fmInn_two, below_two hk, addW_zero h0 (by omega)]
    exact .two hk (h1 l1 d h0 (by omega)) (h2 l2 d h0 (by omega))
  | @q n k t p hk ht _ h1 =>
    intro hl d h0 hb
    rw [fmSz_q] at hb
    have hr := fmBelow_range k
    have e := addW_eq (a := d) (b := fmBelow k) (by omega) (by omega) (by omega) (by omega)
    rw [fmInn_q, e]
    exact .q hk ht (h1 (fleast_part hl) _ (by omega) (by omega))
end GoAbs

namespace GoAbs
open Go

/-- What is kept of a term on the way. -/
structure TmOk (L : Int) (g : List Ty) (t : Tm) (s : Ty) : Prop where
  gd : TmG t
  sz : tmSz t ≤ 20000
  l : t.least L = true
  ty : HasTy TyF g t s
theorem TmOk.cut {L : Int} {g : List Ty} {t : Tm} {s : Ty} (h : TmOk L g t s) (hz : t.szW ≤ 4096) : tmSz t ≤ 4096 := by
  have := t.szW_nodes _ (h.gd.nodes_val (by have := h.sz; omega)); omega
theorem TmOk.call {L : Int} (hL : 0 ≤ L) {g : List Ty} {f t : Tm} {a b : Ty} (hf : TmOk L g f (chFun a b)) (h : TmOk L g t a) (hz : tmSz f + tmSz t ≤ 19000) (hb : TyF b) : TmOk L g (chCall a b f t) b :=
  ⟨chCall_G hf.gd h.gd, by have := chCall_sz (a := a) (b := b) (f := f) (t := t); omega, chCall_least hL hf.l h.l, chCall_ty hb hf.ty h.ty⟩

end GoAbs

namespace GoAbs
open Go

mutual
def pUp (b : Int) : Tm → Int → Tm
  | .mk k i t l, c => .mk k (if k == 1 && decide (i ≥ c) then i + b else i) t (pUpL b l (c + tmBelow k))
def pUpL (b : Int) : List Tm → Int → List Tm
  | [], _ => []
  | t :: l, c => pUp b t c :: pUpL b l c
end
theorem pUpL_map {b : Int} : ∀ (l : List Tm) (c : Int), pUpL b l c = l.map fun t => pUp b t c
  | [], c => by simp [pUpL]
  | t :: l, c => by simp [pUpL, pUpL_map l c]
mutual
def pIn (s : Tm) : Tm → Int → Tm
  | .mk k i t l, e => if k == 1 then (if i == e then pUp e s 0 else if decide (i > e) then tmVar (i - 1) else .mk k i t l)
    else .mk k i t (pInL s l (e + tmBelow k))
def pInL (s : Tm) : List Tm → Int → List Tm
  | [], _ => []
  | t :: l, e => pIn s t e :: pInL s l e
end
theorem pInL_map {s : Tm} : ∀ (l : List Tm) (e : Int), pInL s l e = l.map fun t => pIn s t e
  | [], e => by simp [pInL]
  | t :: l, e => by simp [pInL, pInL_map l e]

theorem pUp_var {b i c : Int} : pUp b (tmVar i) c = tmVar (if i ≥ c then i + b else i) := by
  rw [tmVar, pUp, pUpL_map]
  by_cases h : i ≥ c <;> simp [tmVar, h]
theorem pUp_node {b k c : Int} {t : Ty} {l : List Tm} (hk : k ≠ 1) : pUp b (tmT k t l) c = tmT k t (l.map fun x => pUp b x (c + tmBelow k)) := by
  have : (k == 1) = false := by simpa using hk
  rw [tmT, pUp, pUpL_map, this]; rfl
theorem pIn_var {s : Tm} {i e : Int} : pIn s (tmVar i) e = if i = e then pUp e s 0 else if i > e then tmVar (i - 1) else tmVar i := by
  rw [tmVar, pIn]
  by_cases h : i = e
  · simp [h]
  · by_cases h' : i > e <;> simp [h, h', tmVar]
theorem pIn_node {s : Tm} {k e : Int} {t : Ty} {l : List Tm} (hk : k ≠ 1) : pIn s (tmT k t l) e = tmT k t (l.map fun x => pIn s x (e + tmBelow k)) := by
  have : (k == 1) = false := by simpa using hk
  rw [tmT, pIn, pInL_map, this]; rfl
theorem below_nn (k : Int) : 0 ≤ tmBelow k ∧ tmBelow k ≤ 1 := by unfold tmBelow; split <;> omega

theorem TmG.nd {P : (t : Tm) → TmG t → Prop} (hv : ∀ i (hi : 0 ≤ i), P (tmVar i) (.var hi))
    (hn : ∀ (k : Int) (t : Ty) (l : List Tm) (_ : k ≠ 1) (hl : ∀ x ∈ l, TmG x) (ht : TmG (tmT k t l)), (∀ x (hx : x ∈ l), P x (hl x hx)) → P (tmT k t l) ht) {t : Tm} (h : TmG t) : P t h := by
  induction h with
  | @plain k l a ha hl ht h ih =>
    by_cases hk : k = 1
    · subst hk
      have : a = 0 := by simp [arity, arities] at ha; omega
      subst this
      have : l = [] := by cases l with
        | nil => rfl
        | cons x l => simp at hl; omega
      subst this
      exact hv 0 (by omega)
    · exact hn k (.mk 0 []) l hk h _ ih
  | var hi => exact hv _ hi
  | @typd k t l a ha hl ht hg h ih =>
    refine hn k t l ?_ h _ ih
    intro e; subst e; simp [typed] at ht

theorem map_eq {f g : Tm → Tm} {l : List Tm} (h : ∀ x ∈ l, f x = g x) : l.map f = l.map g := List.map_congr_left h

theorem pUp_up {a b : Int} (hb : 0 ≤ b) {t : Tm} (h : TmG t) : ∀ c c' : Int, c' ≤ c → c ≤ c' + b → pUp a (pUp b t c') c = pUp (b + a) t c' := by
  induction h using TmG.nd with
  | hv i hi =>
    intro c c' h1 h2
    rw [pUp_var, pUp_var, pUp_var]
    congr 1
    split <;> split <;> omega
  | hn k t l hk hl _ ih =>
    intro c c' h1 h2
    rw [pUp_node hk, pUp_node hk, pUp_node hk, List.map_map]
    congr 1
    exact map_eq fun x hx => ih x hx _ _ (by omega) (by omega)

theorem pUp_in {b : Int} (hb : 0 ≤ b) {s : Tm} (hs : TmG s) {t : Tm} (h : TmG t) : ∀ c e : Int, 0 ≤ c → c ≤ e → pUp b (pIn s t e) c = pIn s (pUp b t c) (e + b) := by
  induction h using TmG.nd with
  | hv i hi =>
    intro c e h0 h1
    rw [pIn_var, pUp_var, pIn_var]
    by_cases h2 : i = e
    · rw [if_pos h2, if_pos (show i ≥ c by omega), if_pos (by omega), pUp_up (by omega) hs c 0 h0 (by omega)]
    · rw [if_neg h2]
      by_cases h3 : i > e
      · rw [if_pos h3, pUp_var, if_pos (show i - 1 ≥ c by omega), if_pos (show i ≥ c by omega), if_neg (by omega), if_pos (by omega)]
        congr 1; omega
      · rw [if_neg h3, pUp_var]
        by_cases h4 : i ≥ c
        · rw [if_pos h4, if_neg (by omega), if_neg (by omega)]
        · rw [if_neg h4, if_neg (by omega), if_neg (by omega)]
  | hn k t l hk hl _ ih =>
    intro c e h0 h1
    have hz := below_nn k
    rw [pIn_node hk, pUp_node hk, pUp_node hk, pIn_node hk, List.map_map, List.map_map]
    congr 1
    refine map_eq fun x hx => ?_
    have := ih x hx (c + tmBelow k) (e + tmBelow k) (by omega) (by omega)
    simp only [Function.comp_apply]
    rw [this]
    congr 1; omega

theorem pIn_up {b : Int} {x : Tm} {t : Tm} (h : TmG t) : ∀ c e : Int, c ≤ e → e ≤ c + b → pIn x (pUp (b + 1) t c) e = pUp b t c := by
  induction h using TmG.nd with
  | hv i hi =>
    intro c e h1 h2
    rw [pUp_var, pIn_var, pUp_var]
    by_cases h3 : i ≥ c
    · rw [if_pos h3, if_pos h3, if_neg (by omega), if_pos (by omega)]
      congr 1; omega
    · rw [if_neg h3, if_neg h3, if_neg (by omega), if_neg (by omega)]
  | hn k t l hk hl _ ih =>
    intro c e h1 h2
    rw [pUp_node hk, pIn_node hk, pUp_node hk, List.map_map]
    congr 1
    exact map_eq fun y hy => ih y hy _ _ (by omega) (by omega)

end GoAbs

namespace GoAbs
open Go

theorem up_p {b : Int} (hb0 : 0 ≤ b) (hb : b ≤ 100000000000) {t : Tm} (h : TmG t) : ∀ c : Int, t.least 1000000000 = true → 0 ≤ c → c + tmSz t ≤ 100000000000 → t.up b c = pUp b t c := by
  induction h using TmG.nd with
  | hv i hi =>
    intro c hl hc hz
    rw [tmVar, Tm.least_eq, Bool.and_eq_true] at hl
    have hi2 : i ≤ 1000000000 := of_decide_eq_true hl.1
    rw [pUp_var, tmVar, Tm.up, Tm.upL, addW_eq (by omega) (by omega) (by omega) (by omega)]
    by_cases h1 : i ≥ c <;> simp [tmVar, h1]
  | hn k t l hk hl _ ih =>
    intro c hle hc hz
    have hz' : tmSz (tmT k t l) = tmSzL l + 1 := by rw [tmT, tmSz]
    rw [tmT, Tm.least, Bool.and_eq_true] at hle
    have hr := below_nn k
    have hkb : (k == 1) = false := by simpa using hk
    rw [pUp_node hk, tmT, Tm.up, Tm.upL_map, hkb, show addW c (tmBelow k) = c + tmBelow k from addW_eq (by omega) (by omega) (by omega) (by omega)]
    simp only [Bool.false_and, Bool.false_eq_true, if_false, tmT]
    congr 1
    refine map_eq fun x hx => ih x hx _ (Tm.leastL_iff.1 hle.2 x hx) (by omega) ?_
    have := tmSzL_mem hx
    omega

theorem inn_p {s : Tm} (hs : TmG s) (ls : s.least 1000000000 = true) (zs : tmSz s ≤ 1000000000) {t : Tm} (h : TmG t) : ∀ d : Int, t.least 1000000000 = true → 0 ≤ d → d + tmSz t ≤ 50000000000 → tmInn s 0 t d = pIn s t d := by
  induction h using TmG.nd with
  | hv i hi =>
    intro d hl hd hz
    rw [tmVar, Tm.least_eq, Bool.and_eq_true] at hl
    have hi2 : i ≤ 1000000000 := of_decide_eq_true hl.1
    have e0 : addW 0 d = d := by rw [addW_eq (by omega) (by omega) (by omega) (by omega)]; omega
    rw [pIn_var, tmVar, tmInn, e0, subW_eq (by omega) (by omega) (by omega) (by omega)]
    by_cases h1 : i = d
    · simp [h1, up_p hd (by omega) hs 0 ls (by omega) (by omega)]
    · by_cases h2 : i > d <;> simp [h1, h2, tmVar]
  | hn k t l hk hl _ ih =>
    intro d hle hd hz
    have hz' : tmSz (tmT k t l) = tmSzL l + 1 := by rw [tmT, tmSz]
    rw [tmT, Tm.least, Bool.and_eq_true] at hle
    have hr := below_nn k
    have hkb : (k == 1) = false := by simpa using hk
    rw [pIn_node hk, tmT, tmInn, tmInnL_map, hkb, show addW d (tmBelow k) = d + tmBelow k from addW_eq (by omega) (by omega) (by omega) (by omega)]
    simp only [Bool.false_eq_true, if_false, tmT]
    congr 1
    refine map_eq fun x hx => ih x hx _ (Tm.leastL_iff.1 hle.2 x hx) (by omega) ?_
    have := tmSzL_mem hx
    omega

end GoAbs

namespace GoAbs
open Go

/-- A term that is put in: not a big one. -/
structure SubOk (L : Int) (s : Tm) : Prop where
  gd : TmG s
  sz : tmSz s ≤ 2000
  l : s.least L = true

theorem TmOk.P {L : Int} (hL : 0 ≤ L) (hL2 : L ≤ 500000000) {g : List Ty} {s t : Tm} {ty : Ty} (hs : SubOk L s) (h : TmOk L g t ty) : TmG (tmInn s 0 t 0) ∧ (tmInn s 0 t 0).least (L + 1000000) = true :=
  ⟨TmG.inn hs.gd (least_mono (by omega) _ hs.l) _ h.gd (Nat.le_refl _) (least_mono (by omega) _ h.l) 0 (by omega) (by have := h.sz; omega), least_inn hL (by omega) hs.gd hs.l _ h.gd (Nat.le_refl _) h.l 0 (by omega) (by have := h.sz; omega)⟩
end GoAbs

namespace GoAbs
open Go

end GoAbs

namespace GoAbs
open Go

end GoAbs

namespace GoAbs
open Go

end GoAbs

namespace GoAbs
open Go

/- Content types. -/
def ctJoin (k : Int) (x y : Ty × Int) : Ty × Int :=
  if x.2 != 0 then (tZero, x.2) else if y.2 != 0 then (tZero, y.2) else if tyErr (.mk k [x.1, y.1]) != 0 then (tZero, tyErr (.mk k [x.1, y.1])) else (.mk k [x.1, y.1], 0)
def ctCase (k : Int) (t : Ty) (ps : List (Bool × (Ty × Int))) : Ty × Int :=
  if k == 2 then (if (ps.getD 0 (false, (tUnit, 0))).1 then (if (ps.getD 1 (false, (tUnit, 0))).1 then ctJoin 3 (ps.getD 0 (false, (tUnit, 0))).2 (ps.getD 1 (false, (tUnit, 0))).2 else (ps.getD 0 (false, (tUnit, 0))).2) else (ps.getD 1 (false, (tUnit, 0))).2)
  else if k == 3 then (if (ps.getD 1 (false, (tUnit, 0))).1 then (if (ps.getD 0 (false, (tUnit, 0))).1 then ctJoin 4 (ps.getD 0 (false, (tUnit, 0))).2 (ps.getD 1 (false, (tUnit, 0))).2 else (ps.getD 1 (false, (tUnit, 0))).2) else (tUnit, 0))
  else if k == 4 then (if (ps.getD 0 (false, (tUnit, 0))).1 then ctJoin 4 (t, 0) (ps.getD 0 (false, (tUnit, 0))).2 else (tUnit, 0))
  else if k == 5 then (if (ps.getD 0 (false, (tUnit, 0))).1 then ctJoin 3 (t, 0) (ps.getD 0 (false, (tUnit, 0))).2 else (t, 0))
  else if k == 1 then (tUnit, 0) else (ps.getD 0 (false, (tUnit, 0))).2
mutual
def Fm.ct : Fm → Ty × Int
  | .mk k t _ a => ctCase k t (Fm.ctL a)
def Fm.ctL : List Fm → List (Bool × (Ty × Int))
  | [] => []
  | f :: l => (f.fl.c, f.ct) :: Fm.ctL l
end
theorem ct_eqn {x y : Tm} : (fmEq x y).ct = (tUnit, 0) := rfl
theorem ct_two {k : Int} {a b : Fm} : (fmTwo k a b).ct = ctCase k (.mk 0 []) [(a.fl.c, a.ct), (b.fl.c, b.ct)] := by rw [fmTwo, Fm.ct, Fm.ctL, Fm.ctL, Fm.ctL]
theorem ct_q {k : Int} {t : Ty} {a : Fm} : (fmQ k t a).ct = ctCase k t [(a.fl.c, a.ct)] := by rw [fmQ, Fm.ct, Fm.ctL, Fm.ctL]
/- realize. -/
theorem fl_c_q {k : Int} {t : Ty} {a : Fm} (h : 4 ≤ k) : (fmQ k t a).fl.c = (a.fl.c || k == 5) := Fm.fl_qc h
theorem fl_c_two {k : Int} {a b : Fm} (h : k = 2 ∨ k = 3) : (fmTwo k a b).fl.c = (b.fl.c || (k == 2 && a.fl.c)) := by rw [Fm.fl_two h]
end GoAbs

namespace GoAbs
open Go

theorem FmG.qk {u : Bool} {k : Int} (hk : k = 4 ∨ k = 5 ∨ (u = true ∧ (k = 6 ∨ k = 7))) : k = 4 ∨ k = 5 ∨ k = 6 ∨ k = 7 := by
  rcases hk with h | h | ⟨_, h | h⟩ <;> simp [h]
theorem below_q {k : Int} (hk : k = 4 ∨ k = 5 ∨ k = 6 ∨ k = 7) : fmBelow k = 1 := by rcases hk with rfl | rfl | rfl | rfl <;> rfl
theorem fdp_q {k : Int} {t : Ty} {a : Fm} : fdp (fmQ k t a) = fdp a + 1 := by simp [fmQ, fdp, fdpL]

theorem fmUp2 {k b d : Int} {p q : Fm} (hk : k = 2 ∨ k = 3) (h0 : 0 ≤ d) (h1 : d ≤ 1000000) : (fmTwo k p q).up b d = fmTwo k (p.up b d) (q.up b d) := by
  rw [fmTwo, Fm.up_eq]
  simp only [Fm.kind, Fm.terms, Fm.args, Fm.type, List.map_cons, List.map_nil]
  rw [below_two hk, addW_zero h0 (by omega)]; rfl
theorem fmUpq {k b d : Int} {t : Ty} {p : Fm} (hk : k = 4 ∨ k = 5 ∨ k = 6 ∨ k = 7) (h0 : 0 ≤ d) (h1 : d ≤ 1000000) : (fmQ k t p).up b d = fmQ k t (p.up b (d + 1)) := by
  rw [fmQ, Fm.up_eq]
  simp only [Fm.kind, Fm.terms, Fm.args, Fm.type, List.map_cons, List.map_nil]
  rw [below_q hk, addW_eq (by omega) (by omega) (by omega) (by omega)]; rfl

theorem FmTy.upl {Q : Ty → Prop} {m g' : List Ty} {f : Fm} (h : FmTy Q g' f) : ∀ g l : List Ty, g' = g ++ l → l.length + fmSz f ≤ 40000 → g.length ≤ 40000 → m.length ≤ 40000 → FmTy Q (g ++ m ++ l) (f.up (m.length : Int) (l.length : Int)) := by
  induction h with
  | @eq g' p q h1 h2 =>
    intro g l e hb hg hm
    rw [fmSz_eq] at hb
    rw [fmUp_eqn]
    exact .eq (h1.upl g l e (by omega) (by omega) (by omega)) (h2.upl g l e (by omega) (by omega) (by omega))
  | @two g' k p q hk _ _ ih1 ih2 =>
    intro g l e hb hg hm
    rw [fmSz_two] at hb
    rw [fmUp2 hk (by omega) (by omega)]
    exact .two hk (ih1 g l e (by omega) hg hm) (ih2 g l e (by omega) hg hm)
  | @q g' k s p hk _ ih =>
    intro g l e hb hg hm
    subst e
    rw [fmSz_q] at hb
    rw [fmUpq hk (by omega) (by omega)]
    have := ih g (l ++ [s]) (by simp) (by simp; omega) hg hm
    refine .q hk ?_
    rw [List.append_assoc]
    have e1 : ((l ++ [s]).length : Int) = (l.length : Int) + 1 := by simp
    rw [e1] at this; exact this
/- Existential quantifiers are counted. -/
end GoAbs

namespace GoAbs
open Go

theorem ctJoin_G {k : Int} (hk : k = 3 ∨ k = 4) {x y : Ty × Int} (hx : (x.2 = 0 ∧ TyG x.1) ∨ x.2 = 4) (hy : (y.2 = 0 ∧ TyG y.1) ∨ y.2 = 4) :
    ((ctJoin k x y).2 = 0 ∧ TyG (ctJoin k x y).1 ∧ x.2 = 0 ∧ y.2 = 0 ∧ (ctJoin k x y).1 = .mk k [x.1, y.1]) ∨ (ctJoin k x y).2 = 4 := by
  unfold ctJoin
  rcases hx with ⟨ex, gx⟩ | ex
  case inr => rw [ex]; right; rfl
  rcases hy with ⟨ey, gy⟩ | ey
  case inr => rw [ex, ey]; right; rfl
  have hF : TyF (.mk k [x.1, y.1]) := by
    rcases hk with rfl | rfl
    · exact .pair gx.1 gy.1
    · exact .func gx.1 gy.1
  have hs : tySz (.mk k [x.1, y.1]) = tySz x.1 + tySz y.1 + 1 := by
    rcases hk with rfl | rfl
    · exact tySz_pair
    · exact tySz_fun
  have z1 := gx.2
  have z2 := gy.2
  have he := hF.err (by omega)
  rw [ex, ey]
  by_cases h64 : tySz (.mk k [x.1, y.1]) ≤ 64
  · rw [if_pos h64] at he
    rw [he]
    exact .inl ⟨rfl, ⟨hF, h64⟩, rfl, rfl, rfl⟩
  · rw [if_neg h64] at he
    rw [he]
    right; rfl
/-- What is kept of a term on the way. -/
structure TmR (L : Int) (t : Tm) : Prop where
  gd : TmG t
  sz : tmSz t ≤ 20000
  l : t.least L = true
theorem TmR.cut {L : Int} {t : Tm} (h : TmR L t) (hz : t.szW ≤ 4096) : tmSz t ≤ 4096 := by
  have := t.szW_nodes _ (h.gd.nodes_val (by have := h.sz; omega)); omega
theorem TmR.mono {L L' : Int} (hL : L ≤ L') {t : Tm} (h : TmR L t) : TmR L' t := ⟨h.gd, h.sz, least_mono hL _ h.l⟩

/-- What is known of a term that is made for the content type. -/
theorem mk_term {n : Nat} {g : List Ty} {s : Ty} {t : Tm} (hn : n ≤ 2) (hg : ∀ y ∈ g, MkTy 1 y) (hgl : g.length ≤ 10) (hs : TyG s) (zs : tySz s ≤ 15) (mt : MkTm n g s t) : TmR 10000 t ∧ tmSz t ≤ 565 ∧ HasTy TyG g t s := by
  have hgG : ∀ y ∈ g, TyG y := fun y hy => (hg y hy).G (by omega)
  have hg3 : ∀ y ∈ g, tySz y ≤ 15 := fun y hy => by have := (hg y hy).sz1; omega
  have b2 : ∀ n, n ≤ 2 → bndT 15 n ≤ 565 := fun n h => by
    match n, h with
    | 0, _ => decide
    | 1, _ => decide
    | 2, _ => decide
  have zt := (mt.sz (M := 15) (by omega) hg3 zs).1
  have := b2 n hn
  have lt := mt.least (M := 15) (m := 10000) (by omega) (by omega) hg3 zs (by omega)
  exact ⟨⟨mt.G hgG hs, by omega, by simpa using lt⟩, by omega, mt.ty (mk20 hg) ⟨hs.1, by omega⟩⟩

end GoAbs

namespace GoAbs
open Go

/-- Putting in twice, at two depths. -/
theorem pIn_inD {s x : Tm} {e : Int} (he : 0 ≤ e) (hs : TmG s) (hx : TmG x) {t : Tm} (h : TmG t) : ∀ c : Int, 0 ≤ c → pIn s (pIn x t c) (c + e) = pIn (pIn s x e) (pIn s t (c + e + 1)) c := by
  induction h using TmG.nd with
  | hv i hi =>
    intro d hd
    rw [pIn_var, pIn_var (i := i) (e := d + e + 1)]
    by_cases h1 : i = d
    · rw [if_pos h1, if_neg (by omega), if_neg (by omega), pIn_var, if_pos h1]
      have := pUp_in hd hs hx 0 e (by omega) (by omega)
      rw [this]; congr 1; omega
    · rw [if_neg h1]
      by_cases h2 : i = d + e + 1
      · rw [if_pos (show i > d by omega), if_pos h2, pIn_var, if_pos (by omega), pIn_up hs 0 d hd (by omega)]
      · by_cases h3 : i > d + e + 1
        · rw [if_pos (show i > d by omega), if_neg h2, if_pos h3, pIn_var, pIn_var, if_neg (by omega), if_pos (by omega), if_neg (by omega), if_pos (by omega)]
        · rw [if_neg h2, if_neg h3]
          by_cases h4 : i > d
          · rw [if_pos h4, pIn_var, pIn_var, if_neg (by omega), if_neg (by omega), if_neg h1, if_pos h4]
          · rw [if_neg h4, pIn_var, pIn_var, if_neg (by omega), if_neg (by omega), if_neg h1, if_neg h4]
  | hn k t l hk hl _ ih =>
    intro d hd
    have hz := below_nn k
    rw [pIn_node hk, pIn_node hk, pIn_node hk, pIn_node hk, List.map_map, List.map_map]
    congr 1
    refine map_eq fun y hy => ?_
    have := ih y hy (d + tmBelow k) (by omega)
    simp only [Function.comp_apply]
    rw [show d + e + tmBelow k = d + tmBelow k + e by omega, this]
    congr 2; omega

theorem TmR.P {L : Int} (hL : 0 ≤ L) (hL2 : L ≤ 500000000) {s t : Tm} (hs : SubOk L s) (h : TmR L t) {d : Int} (hd : 0 ≤ d) (hd2 : d ≤ 1000) : TmG (tmInn s 0 t d) ∧ (tmInn s 0 t d).least (L + 1000000) = true :=
  ⟨TmG.inn hs.gd (least_mono (by omega) _ hs.l) _ h.gd (Nat.le_refl _) (least_mono (by omega) _ h.l) d hd (by have := h.sz; omega), least_inn hL (by omega) hs.gd hs.l _ h.gd (Nat.le_refl _) h.l d hd (by have := h.sz; omega)⟩
end GoAbs

namespace GoAbs
open Go

end GoAbs

namespace GoAbs
open Go

end GoAbs

namespace GoAbs
open Go

/-- Formulas with the right kinds and types. -/
inductive FmC : Fm → Prop
  | eq {t : Ty} {l : List Tm} : FmC (.mk 1 t l [])
  | two {k : Int} {t : Ty} {l : List Tm} {a b : Fm} (hk : k = 2 ∨ k = 3) : FmC a → FmC b → FmC (.mk k t l [a, b])
  | q {k : Int} {s : Ty} {l : List Tm} {a : Fm} (hk : k = 4 ∨ k = 5 ∨ k = 6 ∨ k = 7) (hs : TyG s) : FmC a → FmC (.mk k s l [a])
theorem FmC.arg {f x : Fm} (h : FmC f) (hx : x ∈ f.args) : FmC x := by
  cases h with
  | eq => simp [Fm.args] at hx
  | two _ ha hb => simp [Fm.args] at hx; rcases hx with rfl | rfl <;> assumption
  | q _ _ ha => simp [Fm.args] at hx; subst hx; exact ha

theorem ctk_1 {t : Ty} {l : List Tm} : (Fm.mk 1 t l []).ct = (tUnit, 0) ∧ (Fm.mk 1 t l []).fl.c = false := ⟨rfl, by rw [Fm.fl_1 rfl]⟩
theorem ctk_2 {t : Ty} {l : List Tm} {a b : Fm} : (Fm.mk 2 t l [a, b]).ct = (if a.fl.c then (if b.fl.c then ctJoin 3 a.ct b.ct else a.ct) else b.ct) ∧ (Fm.mk 2 t l [a, b]).fl.c = (b.fl.c || a.fl.c) :=
  ⟨by rw [Fm.ct, Fm.ctL, Fm.ctL, Fm.ctL]; rfl, by rw [Fm.fl_2 (f := .mk 2 t l [a, b]) (.inl rfl) rfl]; rfl⟩
theorem ctk_3 {t : Ty} {l : List Tm} {a b : Fm} : (Fm.mk 3 t l [a, b]).ct = (if b.fl.c then (if a.fl.c then ctJoin 4 a.ct b.ct else b.ct) else (tUnit, 0)) ∧ (Fm.mk 3 t l [a, b]).fl.c = b.fl.c :=
  ⟨by rw [Fm.ct, Fm.ctL, Fm.ctL, Fm.ctL]; rfl, by rw [Fm.fl_2 (f := .mk 3 t l [a, b]) (.inr rfl) rfl]; show (b.fl.c || false) = _; rw [Bool.or_false]⟩
theorem ctk_4 {s : Ty} {l : List Tm} {a : Fm} : (Fm.mk 4 s l [a]).ct = (if a.fl.c then ctJoin 4 (s, 0) a.ct else (tUnit, 0)) ∧ (Fm.mk 4 s l [a]).fl.c = a.fl.c :=
  ⟨by rw [Fm.ct, Fm.ctL, Fm.ctL]; rfl, by rw [Fm.fl_q (f := .mk 4 s l [a]) (by simp [Fm.kind]) rfl]; show (a.fl.c || false) = _; rw [Bool.or_false]⟩
theorem ctk_5 {s : Ty} {l : List Tm} {a : Fm} : (Fm.mk 5 s l [a]).ct = (if a.fl.c then ctJoin 3 (s, 0) a.ct else (s, 0)) ∧ (Fm.mk 5 s l [a]).fl.c = true :=
  ⟨by rw [Fm.ct, Fm.ctL, Fm.ctL]; rfl, by rw [Fm.fl_q (f := .mk 5 s l [a]) (by simp [Fm.kind]) rfl]; show (a.fl.c || true) = _; rw [Bool.or_true]⟩
theorem ctk_67 {k : Int} (hk : k = 6 ∨ k = 7) {s : Ty} {l : List Tm} {a : Fm} : (Fm.mk k s l [a]).ct = a.ct ∧ (Fm.mk k s l [a]).fl.c = a.fl.c := by
  rcases hk with rfl | rfl
  · exact ⟨by rw [Fm.ct, Fm.ctL, Fm.ctL]; rfl, by rw [Fm.fl_q (f := .mk 6 s l [a]) (by simp [Fm.kind]) rfl]; show (a.fl.c || false) = _; rw [Bool.or_false]⟩
  · exact ⟨by rw [Fm.ct, Fm.ctL, Fm.ctL]; rfl, by rw [Fm.fl_q (f := .mk 7 s l [a]) (by simp [Fm.kind]) rfl]; show (a.fl.c || false) = _; rw [Bool.or_false]⟩

/-- What a content type may be. -/
def CtOk (p : Ty × Int) : Prop := (p.2 = 0 ∧ TyG p.1) ∨ p = (tZero, 4)
theorem ctJoin_ok {k : Int} (hk : k = 3 ∨ k = 4) {x y : Ty × Int} (hx : CtOk x) (hy : CtOk y) : CtOk (ctJoin k x y) := by
  rcases hx with ⟨ex, gx⟩ | rfl
  case inr => exact .inr rfl
  rcases hy with ⟨ey, gy⟩ | rfl
  case inr => unfold ctJoin; rw [ex]; exact .inr rfl
  rcases ctJoin_G hk (.inl ⟨ex, gx⟩) (.inl ⟨ey, gy⟩) with ⟨h1, h2, _⟩ | h4
  · exact .inl ⟨h1, h2⟩
  · right
    unfold ctJoin at h4 ⊢
    rw [ex, ey] at h4 ⊢
    have n0 : ((0 : Int) != 0) = false := rfl
    rw [n0] at h4 ⊢
    simp only [Bool.false_eq_true, if_false] at h4 ⊢
    split at h4
    · rename_i h; rw [if_pos h]; simp only at h4; rw [h4]
    · cases h4
theorem FmC.ok {f : Fm} (h : FmC f) : CtOk f.ct ∧ (f.fl.c = false → f.ct = (tUnit, 0)) := by
  induction h with
  | eq => exact ⟨.inl ⟨by rw [ctk_1.1], by rw [ctk_1.1]; exact TyG.unit⟩, fun _ => ctk_1.1⟩
  | @two k t l a b hk _ _ h1 h2 =>
    rcases hk with rfl | rfl
    · rw [ctk_2.1, ctk_2.2]
      cases ha : a.fl.c <;> cases hb : b.fl.c <;> simp only [Bool.or_false, Bool.or_true, Bool.or_self, if_true, Bool.false_eq_true, if_false, false_implies, and_true, true_implies]
      · exact ⟨h2.1, h2.2 hb⟩
      · exact ⟨h2.1, fun h => by cases h⟩
      · exact ⟨h1.1, fun h => by cases h⟩
      · exact ⟨ctJoin_ok (.inl rfl) h1.1 h2.1, fun h => by cases h⟩
    · rw [ctk_3.1, ctk_3.2]
      cases ha : a.fl.c <;> cases hb : b.fl.c <;> simp only [if_true, Bool.false_eq_true, if_false]
      · exact ⟨.inl ⟨rfl, TyG.unit⟩, fun _ => trivial⟩
      · exact ⟨h2.1, fun h => by cases h⟩
      · exact ⟨.inl ⟨rfl, TyG.unit⟩, fun _ => trivial⟩
      · exact ⟨ctJoin_ok (.inr rfl) h1.1 h2.1, fun h => by cases h⟩
  | @q k s l a hk hs _ h1 =>
    rcases hk with rfl | rfl | hk
    · rw [ctk_4.1, ctk_4.2]
      cases ha : a.fl.c <;> simp only [if_true, Bool.false_eq_true, if_false]
      · exact ⟨.inl ⟨rfl, TyG.unit⟩, fun _ => trivial⟩
      · exact ⟨ctJoin_ok (.inr rfl) (.inl ⟨rfl, hs⟩) h1.1, fun h => by cases h⟩
    · rw [ctk_5.1, ctk_5.2]
      refine ⟨?_, fun h => by cases h⟩
      cases ha : a.fl.c <;> simp only [if_true, Bool.false_eq_true, if_false]
      · exact .inl ⟨rfl, hs⟩
      · exact ctJoin_ok (.inl rfl) (.inl ⟨rfl, hs⟩) h1.1
    · rw [(ctk_67 hk).1, (ctk_67 hk).2]; exact h1

end GoAbs

namespace GoAbs
open Go

/- The context of a sequent, and the places of its hypotheses. -/
end GoAbs

namespace GoAbs
open Go

/-- Where a hypothesis stands. -/
inductive PlOk (A : List Ty) : List Fm → List Int → Prop
  | nil : PlOk A [] []
  | cons {f : Fm} {l : List Fm} {p : Int} {q : List Int} (h : (f.fl.c = false ∧ p = -1) ∨ (f.fl.c = true ∧ ∃ n : Nat, p = (n : Int) ∧ A[n]? = some f.ct.1)) (h0 : f.ct.2 = 0) : PlOk A l q → PlOk A (f :: l) (p :: q)

theorem PlOk.len {A : List Ty} {l : List Fm} {q : List Int} (h : PlOk A l q) : q.length = l.length := by
  induction h with
  | nil => rfl
  | cons _ _ _ ih => simp [ih]
theorem PlOk.at {A : List Ty} {l : List Fm} {q : List Int} (h : PlOk A l q) : ∀ (i : Nat) (f : Fm) (p : Int), l[i]? = some f → q[i]? = some p →
    ((f.fl.c = false ∧ p = -1) ∨ (f.fl.c = true ∧ ∃ n : Nat, p = (n : Int) ∧ A[n]? = some f.ct.1)) ∧ f.ct.2 = 0 := by
  induction h with
  | nil => intro i f p h; simp at h
  | cons h h0 _ ih =>
    intro i f p hf hp
    match i with
    | 0 => simp at hf hp; subst hf; subst hp; exact ⟨h, h0⟩
    | i + 1 => exact ih i f p (by simpa using hf) (by simpa using hp)

end GoAbs
