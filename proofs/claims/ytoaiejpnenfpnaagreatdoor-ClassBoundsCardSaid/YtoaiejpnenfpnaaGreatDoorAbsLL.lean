/-
  The abstract layer: plain laws.
-/
import Derived.Test.YtoaiejpnenfpnaaGreatDoorAbsLK
set_option linter.unusedSimpArgs false
set_option linter.unusedVariables false
set_option linter.unusedSectionVars false
namespace GoAbs
open Go

theorem var_j {i : Int} (hl : (tmVar i).least 1000000000 = true) : i ≤ 1000000000 := by
  rw [tmVar, Tm.least, Bool.and_eq_true] at hl; exact of_decide_eq_true hl.1
theorem map_idj {g : Tm → Tm} : ∀ {l : List Tm}, (∀ x ∈ l, g x = x) → l.map g = l
  | [], _ => rfl
  | t :: l, h => by rw [List.map_cons, h t (by simp), map_idj (fun x hx => h x (by simp [hx]))]

mutual
def Tm.rb (G : Int → Int → Tm) : Tm → Int → Tm
  | .mk k i t l, b => if k == 1 then G i b else .mk k i t (Tm.rbL G l (if k == 2 then addW b 1 else b))
def Tm.rbL (G : Int → Int → Tm) : List Tm → Int → List Tm
  | [], _ => []
  | t :: l, b => t.rb G b :: Tm.rbL G l b
end
theorem Tm.rbL_map {G : Int → Int → Tm} : ∀ (l : List Tm) (b : Int), Tm.rbL G l b = l.map fun t => t.rb G b
  | [], b => by simp [Tm.rbL]
  | t :: l, b => by simp [Tm.rbL, Tm.rbL_map l b]
theorem Tm.rb_eq (G : Int → Int → Tm) (t : Tm) (b : Int) : t.rb G b = if t.kind == 1 then G t.index b else .mk t.kind t.index t.type (t.args.map fun x => x.rb G (if t.kind == 2 then addW b 1 else b)) := by
  cases t; rw [Tm.rb, Tm.rbL_map]; rfl
theorem Tm.rb_W {G : Int → Int → Tm} (hG : ∀ i b, TmW (G i b)) : ∀ (t : Tm) (b : Int), TmW t → TmW (t.rb G b) := by
  intro t
  induction t using Tm.ind with | h t ih => ?_
  intro b ht
  rw [Tm.rb_eq]
  split
  · exact hG _ _
  · refine .mk _ _ _ _ ht.ty (by rw [List.length_map]; exact ht.len) ?_
    intro x hx
    obtain ⟨y, hy, rfl⟩ := List.mem_map.1 hx
    exact ih y hy _ (ht.arg hy)

def liftG (fr b i below : Int) : Tm := tmVar (if decide (subW i below ≥ fr) then addW i b else i)
theorem liftG_W (fr b i below : Int) : TmW (liftG fr b i below) := tmVar_W _
def tLift (t : Tm) (fr b : Int) : Tm := t.rb (liftG fr b) 0
theorem tLift_W {t : Tm} (ht : TmW t) (fr b : Int) : TmW (tLift t fr b) := Tm.rb_W (liftG_W fr b) t 0 ht
def putG (a : Int) (s : Tm) (i below : Int) : Tm :=
  if subW i below == a then tLift s 0 (addW a below) else if decide (subW i below > a) then tmVar (subW i 1) else tmVar i
theorem putG_W (a : Int) {s : Tm} (hs : TmW s) (i below : Int) : TmW (putG a s i below) := by
  unfold putG
  repeat' split
  · exact tLift_W hs _ _
  · exact tmVar_W _
  · exact tmVar_W _
def tPut (t : Tm) (a : Int) (s : Tm) : Tm := t.rb (putG a s) 0

theorem TmG.rb_up {b : Int} (hb0 : 0 ≤ b) (hb : b ≤ 1000000) {fr : Int} (hf0 : 0 ≤ fr) (hf : fr ≤ 100000) : ∀ (n : Nat) {t : Tm}, TmG t → tmSz t ≤ n → t.least 1000000000 = true → ∀ d : Int, 0 ≤ d → d + n ≤ 100000 →
    t.rb (liftG fr b) d = t.up b (fr + d)
  | 0, t, h, hn, _, _, _, _ => by have := tmSz_pos t; omega
  | n + 1, t, h, hn, hl, d, h0, hd => by
    revert hn hl
    refine h.cases' (p := fun t => tmSz t ≤ n + 1 → t.least 1000000000 = true → t.rb (liftG fr b) d = t.up b (fr + d)) ?_ ?_
    · intro i hi _ hl
      have hi2 := var_j hl
      rw [tmVar, Tm.rb, Tm.up, Tm.upL]
      simp only [beq_self_eq_true, if_true, Bool.true_and, liftG]
      rw [subW_eq (by omega) (by omega) (by omega) (by omega)]
      have e : decide (i - d ≥ fr) = decide (i ≥ fr + d) := by
        by_cases h : i ≥ fr + d
        · rw [decide_eq_true h, decide_eq_true (by omega)]
        · rw [decide_eq_false h, decide_eq_false (by omega)]
      rw [e]; rfl
    · intro k ty l hk _ hg _ hn hl
      rw [tmSz] at hn
      rw [Tm.least, Bool.and_eq_true] at hl
      have hr := tmBelow_range k
      have e : addW (fr + d) (tmBelow k) = fr + (d + tmBelow k) := by rw [addW_eq (by omega) (by omega) (by omega) (by omega)]; omega
      rw [Tm.rb, Tm.rbL_map, Tm.up, Tm.upL_map, hk, e, below_eq h0 (by omega)]
      simp only [Bool.false_and, Bool.false_eq_true, if_false]
      congr 1
      refine List.map_congr_left fun y hy => ?_
      exact TmG.rb_up hb0 hb hf0 hf n (hg y hy) (by have := tmSzL_mem hy; omega) (Tm.leastL_iff.1 hl.2 y hy) _ (by omega) (by omega)
theorem tLift_up {t : Tm} {fr b : Int} (h : TmG t) (hs : tmSz t ≤ 5000) (hl : t.least 536870912 = true) (hb0 : 0 ≤ b) (hb : b ≤ 1000000) (hf0 : 0 ≤ fr) (hf : fr ≤ 100000) : tLift t fr b = t.up b fr := by
  have := TmG.rb_up hb0 hb hf0 hf _ h (Nat.le_refl _) (least_mono (by omega) _ hl) 0 (by omega) (by omega)
  rw [Int.add_zero] at this
  exact this

/-- What is lifted by one over the variable 0 comes back when this variable is taken away. -/
theorem TmG.put_up {s : Tm} : ∀ (n : Nat) {t : Tm}, TmG t → tmSz t ≤ n → t.least 536870912 = true → ∀ d : Int, 0 ≤ d → d + n ≤ 100000 → (t.up 1 d).rb (putG 0 s) d = t
  | 0, t, h, hn, _, _, _, _ => by have := tmSz_pos t; omega
  | n + 1, t, h, hn, hl, d, h0, hd => by
    revert hn hl
    refine h.cases' (p := fun t => tmSz t ≤ n + 1 → t.least 536870912 = true → (t.up 1 d).rb (putG 0 s) d = t) ?_ ?_
    · intro i hi _ hl
      have hi2 : i ≤ 536870912 := by rw [tmVar, Tm.least, Bool.and_eq_true] at hl; exact of_decide_eq_true hl.1
      rw [tmVar, Tm.up, Tm.upL, Tm.rb]
      simp only [beq_self_eq_true, if_true, Bool.true_and, putG]
      by_cases h : i ≥ d
      · rw [decide_eq_true h]
        simp only [if_true]
        rw [addW_eq (by omega) (by omega) (by omega) (by omega), subW_eq (by omega) (by omega) (by omega) (by omega)]
        have e1 : (i + 1 - d == 0) = false := by simp; omega
        have e2 : decide (i + 1 - d > 0) = true := by simp; omega
        rw [e1, e2, subW_eq (by omega) (by omega) (by omega) (by omega)]
        simp only [Bool.false_eq_true, if_false, if_true]
        have : i + 1 - 1 = i := by omega
        rw [this]; rfl
      · rw [decide_eq_false h]
        simp only [Bool.false_eq_true, if_false]
        rw [subW_eq (by omega) (by omega) (by omega) (by omega)]
        have e1 : (i - d == 0) = false := by simp; omega
        have e2 : decide (i - d > 0) = false := by simp; omega
        rw [e1, e2]
        simp only [Bool.false_eq_true, if_false]
        rfl
    · intro k ty l hk _ hg _ hn hl
      rw [tmSz] at hn
      rw [Tm.least, Bool.and_eq_true] at hl
      have hr := tmBelow_range k
      have e : addW d (tmBelow k) = d + tmBelow k := by rw [addW_eq (by omega) (by omega) (by omega) (by omega)]
      rw [Tm.up, Tm.upL_map, Tm.rb, Tm.rbL_map, hk, e, below_eq h0 (by omega), List.map_map]
      simp only [Bool.false_and, Bool.false_eq_true, if_false]
      congr 1
      exact map_idj fun y hy => TmG.put_up n (hg y hy) (by have := tmSzL_mem hy; omega) (Tm.leastL_iff.1 hl.2 y hy) _ (by omega) (by omega)

mutual
theorem near_true {M : Int} (hM : M ≤ 536870912) : ∀ (t : Tm) (b : Int) (s : Bool), t.least M = true → t.eachF nearF b s = s
  | .mk k i ty l, b, s, h => by
    rw [Tm.least, Bool.and_eq_true] at h
    have hi := of_decide_eq_true h.1
    rw [Tm.eachF, nearL_true hM l _ _ h.2]
    split
    · unfold nearF; rw [decide_eq_true (by omega)]; simp
    · rfl
theorem nearL_true {M : Int} (hM : M ≤ 536870912) : ∀ (l : List Tm) (b : Int) (s : Bool), Tm.leastL M l = true → Tm.eachL nearF l b s = s
  | [], b, s, _ => by rw [Tm.eachL]
  | t :: l, b, s, h => by
    rw [Tm.leastL, Bool.and_eq_true] at h
    rw [Tm.eachL, near_true hM t b s h.1, nearL_true hM l b s h.2]
end
theorem near_ok {t : Tm} (h : t.least 536870912 = true) : t.near = true := near_true (by omega) t 0 true h

/-- A formula is typed. -/
inductive FmTy : List Ty → Fm → Prop
  | eq {g : List Ty} {x y : Tm} : HasTy g x tNat → HasTy g y tNat → FmTy g (fmEq x y)
  | two {g : List Ty} {k : Int} {a b : Fm} (hk : k = 2 ∨ k = 3) : FmTy g a → FmTy g b → FmTy g (fmTwo k a b)
  | q {g : List Ty} {k : Int} {s : Ty} {a : Fm} (hk : k = 4 ∨ k = 5 ∨ k = 6 ∨ k = 7) : FmTy (g ++ [s]) a → FmTy g (fmQ k s a)

theorem HasTy.up1 {s : Ty} {g' : List Ty} {t : Tm} {ty : Ty} (h : HasTy g' t ty) : ∀ g l : List Ty, g' = g ++ l → l.length + tmSz t ≤ 100000 → g.length ≤ 100000 → HasTy (g ++ [s] ++ l) (t.up 1 (l.length : Int)) ty := by
  induction h with
  | @var g' i t hi h =>
    intro g l e hb hg
    subst e
    rw [tmVar, Tm.up, Tm.upL]
    simp only [beq_self_eq_true, Bool.true_and]
    simp only [List.length_append] at hi h
    by_cases hc : (i : Int) ≥ (l.length : Int)
    · rw [decide_eq_true hc]
      simp only [if_true]
      have e : addW (i : Int) 1 = ((i + 1 : Nat) : Int) := by rw [addW_eq (by omega) (by omega) (by omega) (by omega)]; simp
      rw [e]
      refine HasTy.var (i := i + 1) (by simp only [List.length_append, List.length_cons, List.length_nil]; omega) ?_
      have e1 : (g ++ [s] ++ l).length - 1 - (i + 1) = g.length + l.length - 1 - i := by simp only [List.length_append, List.length_cons, List.length_nil]; omega
      rw [e1, List.append_assoc, List.getElem?_append_left (by omega), ← h, List.getElem?_append_left (by omega)]
    · rw [decide_eq_false hc]
      simp only [Bool.false_eq_true, if_false]
      refine HasTy.var (i := i) (by simp only [List.length_append, List.length_cons, List.length_nil]; omega) ?_
      have e1 : (g ++ [s] ++ l).length - 1 - i = (g ++ [s]).length + (l.length - 1 - i) := by simp only [List.length_append, List.length_cons, List.length_nil]; omega
      have e2 : g.length + l.length - 1 - i = g.length + (l.length - 1 - i) := by omega
      rw [e1, List.getElem?_append_right (by omega), Nat.add_sub_cancel_left, ← h, e2, List.getElem?_append_right (by omega), Nat.add_sub_cancel_left]
  | @lam g' a b t hG _ ih =>
    intro g l e hb hg
    subst e
    rw [tmSz_T1] at hb
    rw [tmT, Tm.up, Tm.upL_map]
    have e1 : addW (l.length : Int) (tmBelow 2) = ((l ++ [a]).length : Int) := by
      have : tmBelow 2 = 1 := rfl
      rw [this, addW_eq (by omega) (by omega) (by omega) (by omega)]; simp
    rw [e1]
    have := ih g (l ++ [a]) (by simp) (by simp; omega) hg
    refine HasTy.lam hG ?_
    rw [List.append_assoc]; exact this
  | @n0 g' k ty s' hN =>
    intro g l e hb hg
    have hk : (k == 1) = false := by cases hN <;> rfl
    rw [tmT, Tm.up, Tm.upL_map, hk]
    exact .n0 hN
  | @n1 g' k ty s' a x hN _ ih =>
    intro g l e hb hg
    have hk : (k == 1) = false := by cases hN <;> rfl
    have hk2 : tmBelow k = 0 := by cases hN <;> rfl
    rw [tmSz_T1] at hb
    rw [tmT, Tm.up, Tm.upL_map, hk, hk2, addW_zero (by omega) (by omega)]
    exact .n1 hN (ih g l e (by omega) hg)
  | @n2 g' k ty s' a b x y hN _ _ ih1 ih2 =>
    intro g l e hb hg
    have hk : (k == 1) = false := by cases hN <;> rfl
    have hk2 : tmBelow k = 0 := by cases hN <;> rfl
    have z : tmSz (tmT k ty [x, y]) = tmSz x + tmSz y + 1 := by simp [tmT, tmSz, tmSzL]
    rw [tmT, Tm.up, Tm.upL_map, hk, hk2, addW_zero (by omega) (by omega)]
    exact .n2 hN (ih1 g l e (by omega) hg) (ih2 g l e (by omega) hg)
  | @n3 g' k ty s' a b c x y z hN _ _ _ ih1 ih2 ih3 =>
    intro g l e hb hg
    have hk : (k == 1) = false := by cases hN <;> rfl
    have hk2 : tmBelow k = 0 := by cases hN <;> rfl
    rw [tmSz_T3] at hb
    rw [tmT, Tm.up, Tm.upL_map, hk, hk2, addW_zero (by omega) (by omega)]
    exact .n3 hN (ih1 g l e (by omega) hg) (ih2 g l e (by omega) hg) (ih3 g l e (by omega) hg)
theorem HasTy.up0 {s : Ty} {g : List Ty} {t : Tm} {ty : Ty} (h : HasTy g t ty) (hb : tmSz t ≤ 10000) (hg : g.length ≤ 10000) : HasTy (g ++ [s]) (t.up 1 0) ty := by
  have := h.up1 (s := s) g [] (by simp) (by simp; omega) (by omega)
  simpa using this

theorem less_ty {g : List Ty} {x : Tm} (h : HasTy (g ++ [tNat]) x tNat) : FmTy (g ++ [tNat]) (lessF (tmVar 0) x) :=
  .eq (.n2 (ty := .mk 0 []) .app (.n2 (ty := .mk 0 []) .app .sub (.n1 (ty := .mk 0 []) .succ .v0)) h) (.n0 (ty := .mk 0 []) .zero)
theorem bnd_ty' {g : List Ty} {all : Bool} {x : Tm} {f : Fm} (hx : HasTy (g ++ [tNat]) x tNat) (hf : FmTy (g ++ [tNat]) f) : FmTy g (bndF all x f) :=
  .q (by cases all <;> simp) (.two (by cases all <;> simp) (less_ty hx) hf)
theorem mk20 {g : List Ty} (hg : ∀ y ∈ g, MkTy 1 y) : ∀ y ∈ g, TyF y ∧ tySz y ≤ 20 := fun y hy => ⟨(hg y hy).F, by have := (hg y hy).sz1; omega⟩
theorem nat20 : TyF tNat ∧ tySz tNat ≤ 20 := ⟨.nat, by rw [tySz_nat]; omega⟩
theorem MkFm.ty {n : Nat} {g : List Ty} {f : Fm} (h : MkFm true n g f) (hg : ∀ y ∈ g, MkTy 1 y) : FmTy g f := by
  induction h with
  | eq h1 h2 => exact .eq (h1.ty (mk20 hg) nat20) (h2.ty (mk20 hg) nat20)
  | two hk _ _ h1 h2 => exact .two hk (h1 hg) (h2 hg)
  | q hk hs _ h1 =>
    simp only [if_true] at hs
    exact .q (by rcases hk with h | h | ⟨_, h | h⟩ <;> simp [h]) (h1 (app_mk hg hs))
theorem MkDec.ty {n : Nat} {g : List Ty} {f : Fm} (h : MkDec n g f) (hg : ∀ y ∈ g, MkTy 1 y) (hb : g.length + n ≤ 10000) : FmTy g f := by
  induction h with
  | eq h1 h2 => exact .eq (h1.ty (mk20 hg) nat20) (h2.ty (mk20 hg) nat20)
  | two hk _ _ h1 h2 => exact .two hk (h1 hg (by omega)) (h2 hg (by omega))
  | @bnd n g all x b hx _ h1 =>
    have hz := (hx.small hg (by omega)).2.1
    exact bnd_ty' ((hx.ty (mk20 hg) nat20).up0 (by omega) (by omega)) (h1 (app_mk hg .nat) (by simp; omega))

theorem least_up1 {M : Int} (hM : 0 ≤ M) (hM2 : M ≤ 1000000000) : ∀ (n : Nat) {t : Tm}, TmG t → tmSz t ≤ n → t.least M = true → ∀ fr : Int, (t.up 1 fr).least (M + 1) = true
  | 0, t, _, hn, _, _ => by have := tmSz_pos t; omega
  | n + 1, .mk k i ty l, hG, hn, hl, fr => by
    rw [tmSz] at hn
    have h0 : 0 ≤ i := by cases hG <;> omega
    have harg : ∀ x ∈ l, TmG x := by
      cases hG with
      | plain _ _ _ h => exact h
      | var => simp
      | typd _ _ _ _ h => exact h
    rw [Tm.least, Bool.and_eq_true] at hl
    have hi := of_decide_eq_true hl.1
    rw [Tm.up, Tm.upL_map]
    refine least_mk ?_ ?_
    · split
      · rw [addW_eq (by omega) (by omega) (by omega) (by omega)]; omega
      · omega
    · intro z hz
      obtain ⟨y, hy, rfl⟩ := List.mem_map.1 hz
      exact least_up1 hM hM2 n (harg y hy) (by have := tmSzL_mem hy; omega) (Tm.leastL_iff.1 hl.2 y hy) _
theorem up_count {t : Tm} (gt : TmG t) (zt : tmSz t ≤ 1000) (lt : t.least 536870912 = true) : TmG (t.up 1 0) ∧ (t.up 1 0).count 0 = 0 := by
  have hG := TmG.up (b := 1) (by omega) (by omega) _ gt (Nat.le_refl _) lt 0
  refine ⟨hG, ?_⟩
  rw [hG.count_occ (by rw [tmSz_up]; omega) (least_mono (by omega) _ (least_up1 (M := 536870912) (by omega) (by omega) _ gt (Nat.le_refl _) lt 0)) (by omega) (by omega), TmG.up_occ _ gt (Nat.le_refl _) lt 0 (by omega) (by omega)]; rfl
theorem tmUp1_W : ∀ (t : Tm) (fr : Int), TmW t → TmW (t.up 1 fr) := by
  intro t
  induction t using Tm.ind with | h t ih => ?_
  intro fr ht
  rw [Tm.up_eq]
  refine .mk _ _ _ _ ht.ty (by rw [List.length_map]; exact ht.len) ?_
  intro x hx
  obtain ⟨y, hy, rfl⟩ := List.mem_map.1 hx
  exact ih y hy _ (ht.arg hy)
/-- The law of bounded quantifiers. -/
theorem law_bounds {g : List Ty} {all : Bool} {x : Tm} {f : Fm} (hx : MkTm 2 g tNat x) (hg : ∀ y ∈ g, MkTy 1 y) (hl : g.length ≤ 3) (gf : FmG true f) (zf : fmSz f ≤ 600) (tf : FmTy (g ++ [tNat]) f) :
    TmG x ∧ tmSz x ≤ 1000 ∧ x.least 536870912 = true ∧ (x.up 1 0).count 0 = 0 ∧ fmErr (bndF all (x.up 1 0) f) = 0 ∧ (bndF all (x.up 1 0) f).has 4 = (f.fl.d, 0) ∧ f.has 4 = (f.fl.d, 0) ∧
    (bndF all (x.up 1 0) f).has 2 = (false, 0) ∧ FmTy g (bndF all (x.up 1 0) f) ∧ FmG true (bndF all (x.up 1 0) f) ∧ fmSz (bndF all (x.up 1 0) f) ≤ 4096 := by
  have g3 : ∀ y ∈ g, tySz y ≤ 3 := fun y hy => (hg y hy).sz1
  have l1 := tySz_nat
  have gx := hx.G (fun y hy => (hg y hy).G (by omega)) .nat
  have b2 : bndT 3 2 = 241 := rfl
  have zx : tmSz x ≤ 241 := by have := (MkTm.sz (M := 3) (by omega) hx g3 (by omega)).1; omega
  have lx : x.least 536870912 = true := by have := hx.least (M := 3) (m := 536870912) (by omega) (by omega) g3 (by omega) (by omega); simpa using this
  obtain ⟨gu, cu⟩ := up_count gx (by omega) lx
  have gb := bndF_G (all := all) gu gf
  have zb : fmSz (bndF all (x.up 1 0) f) ≤ 4096 := by rw [bndF_sz, tmSz_up]; omega
  have tx := (hx.ty (mk20 hg) nat20).up0 (s := tNat) (by omega) (by omega)
  refine ⟨gx, by omega, lx, cu, gb.err0 zb, ?_, gf.has (by omega) 4, ?_, bnd_ty' tx tf, gb, zb⟩
  · rw [gb.has zb 4, ← bndF_fl (all := all) (f := f) cu]; rfl
  · rw [gb.has zb 2]
    have hk : 4 ≤ (bndF all (x.up 1 0) f).kind := by cases all <;> simp [bndF, fmQ, Fm.kind]
    have := Fm.fl_q (f := bndF all (x.up 1 0) f) hk rfl
    rw [this]; rfl
end GoAbs
