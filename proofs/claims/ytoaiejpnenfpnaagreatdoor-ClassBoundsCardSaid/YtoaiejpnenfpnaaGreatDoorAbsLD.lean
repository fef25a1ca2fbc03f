/-
  The abstract layer: plain laws.
-/
import Derived.Test.YtoaiejpnenfpnaaGreatDoorAbsLC
set_option linter.unusedSimpArgs false
set_option linter.unusedVariables false
set_option linter.unusedSectionVars false
namespace GoAbs
open Go

theorem addW_eq {a b : Int} (h0 : -1000000000000 ≤ a) (h1 : a ≤ 1000000000000) (h2 : -1000000000000 ≤ b) (h3 : b ≤ 1000000000000) : addW a b = a + b := wrap_eq rfl (by omega) (by omega)
theorem subW_eq {a b : Int} (h0 : -1000000000000 ≤ a) (h1 : a ≤ 1000000000000) (h2 : -1000000000000 ≤ b) (h3 : b ≤ 1000000000000) : subW a b = a - b := wrap_eq rfl (by omega) (by omega)

theorem Tm.leastL_iff {m : Int} : ∀ {l : List Tm}, Tm.leastL m l = true ↔ ∀ x ∈ l, x.least m = true
  | [] => by simp [Tm.leastL_nil]
  | x :: l => by simp [Tm.leastL_cons, Tm.leastL_iff (l := l)]
theorem Fm.leastL_iff {m : Int} : ∀ {l : List Fm}, Fm.leastL m l = true ↔ ∀ x ∈ l, x.least m = true
  | [] => by simp [Fm.leastL_nil]
  | x :: l => by simp [Fm.leastL_cons, Fm.leastL_iff (l := l)]
theorem least_mk {m k i : Int} {t : Ty} {l : List Tm} (hi : i ≤ m) (h : ∀ x ∈ l, x.least m = true) : (Tm.mk k i t l).least m = true := by
  rw [Tm.least, Tm.leastL_iff.2 h]; simp [hi]
theorem least_0 {m k : Int} (hm : 1 ≤ m) : (tm0 k []).least m = true := least_mk (by omega) (by simp)
theorem least_1 {m k : Int} {a : Tm} (hm : 1 ≤ m) (h1 : a.least m = true) : (tm0 k [a]).least m = true := least_mk (by omega) (by simp [h1])
theorem least_2 {m k : Int} {a b : Tm} (hm : 1 ≤ m) (h1 : a.least m = true) (h2 : b.least m = true) : (tm0 k [a, b]).least m = true := least_mk (by omega) (by simp [h1, h2])
theorem least_T1 {m k : Int} {t : Ty} {a : Tm} (hm : 1 ≤ m) (h1 : a.least m = true) : (tmT k t [a]).least m = true := least_mk (by omega) (by simp [h1])
theorem least_T3 {m k : Int} {t : Ty} {a b c : Tm} (hm : 1 ≤ m) (h1 : a.least m = true) (h2 : b.least m = true) (h3 : c.least m = true) : (tmT k t [a, b, c]).least m = true := least_mk (by omega) (by simp [h1, h2, h3])
theorem least_v {m i : Int} (h : i ≤ m) : (tmVar i).least m = true := least_mk h (by simp)
theorem least_num {m : Int} (hm : 1 ≤ m) : ∀ n, (numT n).least m = true
  | 0 => least_0 hm
  | n + 1 => least_1 hm (least_num hm n)
theorem least_plus {m : Int} (hm : 1 ≤ m) : plusT.least m = true :=
  least_T1 hm (least_T1 hm (least_T3 hm (least_v hm) (least_T1 hm (least_T1 hm (least_1 hm (least_v (by omega))))) (least_v (by omega))))
theorem least_pred {m : Int} (hm : 1 ≤ m) : predT.least m = true :=
  least_T1 hm (least_T3 hm (least_0 hm) (least_T1 hm (least_T1 hm (least_v hm))) (least_v (by omega)))
theorem least_sub {m : Int} (hm : 1 ≤ m) : subT.least m = true :=
  least_T1 hm (least_T1 hm (least_T3 hm (least_v hm) (least_T1 hm (least_T1 hm (least_2 hm (least_pred hm) (least_v (by omega))))) (least_v (by omega))))

theorem MkTm.least {M m : Nat} (hm' : 1 ≤ m) {n : Nat} {g : List Ty} {t : Ty} {x : Tm} (h : MkTm n g t x) (hM : 1 ≤ M) (hg : ∀ y ∈ g, tySz y ≤ M) (ht : tySz t ≤ M)
    (hb : g.length + (3 + M) * n + tySz t ≤ m) : x.least (m : Int) = true := by
  have hm : (1 : Int) ≤ (m : Int) := by omega
  have app : ∀ {g l : List Ty}, (∀ y ∈ g, tySz y ≤ M) → (∀ y ∈ l, tySz y ≤ M) → ∀ y ∈ g ++ l, tySz y ≤ M := by
    intro g l h1 h2 y hy
    rcases List.mem_append.1 hy with hy | hy
    · exact h1 y hy
    · exact h2 y hy
  have nat1 : tySz tNat ≤ M := by rw [tySz_nat]; exact hM
  have list1 : tySz tList ≤ M := by rw [tySz_list]; exact hM
  have mul : ∀ n : Nat, (3 + M) * (n + 1) = (3 + M) * n + (3 + M) := fun n => Nat.mul_succ _ _
  induction h with
  | @var n g t i hi => exact least_v (by omega)
  | @app n g t s b x hs _ _ h1 h2 =>
    have s1 := hs.sz0
    have := mul n
    exact least_2 hm (least_T1 hm (h1 (app hg (by simp; omega)) ht (by simp only [List.length_append, List.length_cons, List.length_nil]; omega))) (h2 hg (by omega) (by omega))
  | @fst n g t s x y hs _ _ h1 h2 =>
    have s1 := hs.sz0
    have := mul n
    exact least_1 hm (least_2 hm (h1 hg ht (by omega)) (h2 hg (by omega) (by omega)))
  | @snd n g t s x y hs _ _ h1 h2 =>
    have s1 := hs.sz0
    have := mul n
    exact least_1 hm (least_2 hm (h1 hg (by omega) (by omega)) (h2 hg ht (by omega)))
  | @recr n g t b f k hk _ _ h1 h2 =>
    have := mul n
    exact least_T3 hm (h2 hg ht (by omega)) (least_T1 hm (least_T1 hm (h1 (app hg (by simp [nat1, ht])) ht (by simp only [List.length_append, List.length_cons, List.length_nil]; omega)))) (least_num hm _)
  | @fold n g t b f x _ _ _ h1 h2 h3 =>
    have := mul n
    have l1 := tySz_list
    exact least_T3 hm (h2 hg ht (by omega)) (least_T1 hm (least_T1 hm (least_T1 hm (h1 (app hg (by simp [nat1, list1, ht])) ht (by simp only [List.length_append, List.length_cons, List.length_nil]; omega))))) (h3 hg list1 (by omega))
  | @fapp n g t s x i hi h _ h1 =>
    have s1 := hg _ (List.mem_of_getElem? h)
    rw [tySz_fun] at s1
    have := mul n
    exact least_2 hm (least_v (by omega)) (h1 hg (by omega) (by omega))
  | @succ n g x _ h1 => have := mul n; exact least_1 hm (h1 hg ht (by omega))
  | @plus n g x y _ _ h1 h2 => have := mul n; exact least_2 hm (least_2 hm (least_plus hm) (h1 hg ht (by omega))) (h2 hg ht (by omega))
  | @sub n g x y _ _ h1 h2 => have := mul n; exact least_2 hm (least_2 hm (least_sub hm) (h1 hg ht (by omega))) (h2 hg ht (by omega))
  | num => exact least_num hm _
  | @cons n g x y _ _ h1 h2 =>
    have := mul n
    have l1 := tySz_nat
    exact least_2 hm (h1 hg nat1 (by omega)) (h2 hg ht (by omega))
  | nil => exact least_0 hm
  | @pair n g a b x y _ _ h1 h2 =>
    rw [tySz_pair] at ht hb
    have : (3 + M) * (n - 1) ≤ (3 + M) * n := Nat.mul_le_mul_left _ (by omega)
    exact least_2 hm (h1 hg (by omega) (by omega)) (h2 hg (by omega) (by omega))
  | @lam n g a b x _ h1 =>
    rw [tySz_fun] at ht hb
    have : (3 + M) * (n - 1) ≤ (3 + M) * n := Nat.mul_le_mul_left _ (by omega)
    have := tySz_pos a
    exact least_T1 hm (h1 (app hg (by simp; omega)) (by omega) (by simp only [List.length_append, List.length_cons, List.length_nil]; omega))
  | unit => exact least_0 hm
theorem MkFm.least {u : Bool} {m : Nat} (hm : 1 ≤ m) {n : Nat} {g : List Ty} {f : Fm} (h : MkFm u n g f) (hg : ∀ y ∈ g, tySz y ≤ 3)
    (hb : g.length + n + 13 ≤ m) : f.least (m : Int) = true := by
  have l1 := tySz_nat
  induction h with
  | @eq n g x y h1 h2 =>
    have a1 := h1.least (m := m) hm (M := 3) (by omega) hg (by omega) (by omega)
    have a2 := h2.least (m := m) hm (M := 3) (by omega) hg (by omega) (by omega)
    rw [Fm.least_eq]
    simp only [fmEq, Fm.terms, Fm.args, Tm.leastL_cons, Tm.leastL_nil, Fm.leastL_nil, a1, a2, Bool.and_self]
  | @two n g k a b _ _ _ h1 h2 =>
    rw [Fm.least_eq]
    simp only [fmTwo, Fm.terms, Fm.args, Fm.leastL_cons, Tm.leastL_nil, Fm.leastL_nil, h1 hg (by omega), h2 hg (by omega), Bool.and_self]
  | @q n g k s a _ hs _ h1 =>
    rw [Fm.least_eq]
    have hs' : tySz s ≤ 3 := (hs.up (by split <;> omega)).sz1
    have := h1 (by
      intro y hy
      rcases List.mem_append.1 hy with hy | hy
      · exact hg y hy
      · simp at hy; subst hy; exact hs') (by simp only [List.length_append, List.length_cons, List.length_nil]; omega)
    simp only [fmQ, Fm.terms, Fm.args, Fm.leastL_cons, Tm.leastL_nil, Fm.leastL_nil, this, Bool.and_self]

mutual
def tmOcc : Tm → Int → Nat
  | .mk k i _ l, x => if k == 1 then (if i == x then 1 else 0) else tmOccL l (x + tmBelow k)
def tmOccL : List Tm → Int → Nat
  | [], _ => 0
  | t :: l, x => tmOcc t x + tmOccL l x
end
theorem tmBelow_range (k : Int) : 0 ≤ tmBelow k ∧ tmBelow k ≤ 1 := by unfold tmBelow; split <;> omega
theorem fmBelow_range (k : Int) : 0 ≤ fmBelow k ∧ fmBelow k ≤ 1 := by unfold fmBelow; split <;> omega
mutual
theorem tmOcc_le : ∀ (t : Tm) (x : Int), tmOcc t x ≤ tmSz t
  | .mk k i t l, x => by
    rw [tmOcc, tmSz]
    have := tmOccL_le l (x + tmBelow k)
    repeat' split
    all_goals omega
theorem tmOccL_le : ∀ (l : List Tm) (x : Int), tmOccL l x ≤ tmSzL l
  | [], x => by simp [tmOccL]
  | t :: l, x => by rw [tmOccL, tmSzL]; have := tmOcc_le t x; have := tmOccL_le l x; omega
end
theorem timesL_sum {a : Int} : ∀ (l : List Tm) (n : Nat), (∀ y ∈ l, y.times a = (tmOcc y a : Int)) → n + tmSzL l ≤ 1000000 → Tm.timesL a (n : Int) l = ((n + tmOccL l a : Nat) : Int)
  | [], n, _, _ => by rw [Tm.timesL_nil]; simp [tmOccL]
  | t :: l, n, h, hs => by
    rw [tmSzL] at hs
    have h1 := tmOcc_le t a
    have e : addW (n : Int) (tmOcc t a : Int) = ((n + tmOcc t a : Nat) : Int) := wrap_eq (by omega) (by omega) (by omega)
    rw [Tm.timesL_cons, h t (by simp), e, timesL_sum l _ (fun y hy => h y (by simp [hy])) (by omega), tmOccL, Nat.add_assoc]

/-- What kinds of nodes there are: a variable, or one that is none. -/
theorem TmG.cases' {p : Tm → Prop} {t : Tm} (h : TmG t) (hv : ∀ i, 0 ≤ i → p (tmVar i))
    (hn : ∀ k ty l, (k == 1) = false → tmHead k 0 ty l.length = true → (∀ x ∈ l, TmG x) → (∀ l', l'.length = l.length → (∀ x ∈ l', TmG x) → TmG (.mk k 0 ty l')) → p (.mk k 0 ty l)) : p t := by
  cases h with
  | @plain k l a ha hl ht h =>
    cases hk : (k == 1) with
    | true =>
      have hk' : k = 1 := by simpa using hk
      subst hk'
      have : a = 0 := by have e : arity 1 = some 0 := rfl; rw [e] at ha; exact (Option.some.inj ha).symm
      subst this
      have hl0 : l = [] := List.length_eq_zero_iff.1 (by omega)
      subst hl0
      exact hv 0 (by omega)
    | false =>
      have : tmHead k 0 (.mk 0 []) l.length = true := by simp [tmHead, ha, hl, ht, noType, Ty.kind, Ty.args]
      exact hn k _ l hk this h (fun l' h1 h2 => .plain ha (by rw [h1]; exact hl) ht h2)
  | @var i hi => exact hv i hi
  | @typd k t l a ha hl ht hg h =>
    have hk : (k == 1) = false := by
      cases hk : (k == 1) with
      | false => rfl
      | true => have hk' : k = 1 := by simpa using hk
                subst hk'; cases ht
    have : tmHead k 0 t l.length = true := by simp [tmHead, ha, hl, ht, hg.err]
    exact hn k _ l hk this h (fun l' h1 h2 => .typd ha (by rw [h1]; exact hl) ht hg h2)

theorem tmSzL_map {g : Tm → Tm} : ∀ (l : List Tm), (∀ x ∈ l, tmSz (g x) = tmSz x) → tmSzL (l.map g) = tmSzL l
  | [], _ => rfl
  | x :: l, h => by rw [List.map_cons, tmSzL, tmSzL, h x (by simp), tmSzL_map l (fun y hy => h y (by simp [hy]))]
theorem tmSz_up {b : Int} : ∀ (t : Tm) (fr : Int), tmSz (t.up b fr) = tmSz t := by
  intro t
  induction t using Tm.ind with | h t ih => ?_
  intro fr
  rw [Tm.up_eq]
  cases t with | mk k i ty l =>
  rw [tmSz, tmSz]
  simp only [Tm.args] at ih ⊢
  rw [tmSzL_map l (fun x hx => ih x hx _)]
theorem tmSz_pos (t : Tm) : 1 ≤ tmSz t := by cases t; rw [tmSz]; omega

theorem TmG.times_occ : ∀ (n : Nat) {t : Tm}, TmG t → tmSz t ≤ n → ∀ x : Int, 0 ≤ x → x + n ≤ 1000000 → t.times x = (tmOcc t x : Int)
  | 0, t, h, hn, x, _, _ => by have := tmSz_pos t; omega
  | n + 1, t, h, hn, x, hx, hb => by
    revert hn
    refine h.cases' (p := fun t => tmSz t ≤ n + 1 → t.times x = (tmOcc t x : Int)) ?_ ?_
    · intro i hi _
      rw [tmVar, Tm.times, tmOcc, Tm.timesL_nil]
      cases hix : (i == x) <;> simp [addW, wrap_small]
    · intro k ty l hk _ hl _ hn
      rw [tmSz] at hn
      have hr := tmBelow_range k
      have e : addW x (tmBelow k) = x + tmBelow k := addW_eq (by omega) (by omega) (by omega) (by omega)
      rw [Tm.times, tmOcc, hk, e]
      simp only [Bool.false_and, Bool.false_eq_true, if_false]
      have := timesL_sum (a := x + tmBelow k) l 0 (fun y hy => TmG.times_occ n (hl y hy) (by have := tmSzL_mem hy; omega) _ (by omega) (by omega)) (by omega)
      simpa using this

theorem tmSzL_inn {g : Tm → Tm} {o : Tm → Nat} {c : Nat} : ∀ (l : List Tm), (∀ x ∈ l, tmSz (g x) = tmSz x + o x * c) → tmSzL (l.map g) = tmSzL l + (l.map o).sum * c
  | [], _ => by simp [tmSzL]
  | x :: l, h => by
    rw [List.map_cons, tmSzL, tmSzL, h x (by simp), tmSzL_inn l (fun y hy => h y (by simp [hy])), List.map_cons, List.sum_cons, Nat.add_mul]
    omega
theorem tmOccL_sum (x : Int) : ∀ l : List Tm, tmOccL l x = (l.map fun t => tmOcc t x).sum
  | [] => rfl
  | t :: l => by rw [tmOccL, List.map_cons, List.sum_cons, tmOccL_sum x l]

theorem TmG.inn_sz {s : Tm} : ∀ (n : Nat) {t : Tm}, TmG t → tmSz t ≤ n → ∀ d : Int, 0 ≤ d → d + n ≤ 1000000 → tmSz (tmInn s 0 t d) = tmSz t + tmOcc t d * (tmSz s - 1)
  | 0, t, h, hn, x, _, _ => by have := tmSz_pos t; omega
  | n + 1, t, h, hn, d, hd, hb => by
    revert hn
    have e0 : addW 0 d = d := by rw [addW_eq (by omega) (by omega) (by omega) (by omega)]; omega
    refine h.cases' (p := fun t => tmSz t ≤ n + 1 → tmSz (tmInn s 0 t d) = tmSz t + tmOcc t d * (tmSz s - 1)) ?_ ?_
    · intro i hi _
      rw [tmVar, tmInn, tmOcc, e0]
      have := tmSz_pos s
      cases hix : (i == d) with
      | true => simp only [beq_self_eq_true, if_true, tmSz_up, tmSz, tmSzL]; omega
      | false =>
        simp only [beq_self_eq_true, if_true, Bool.false_eq_true, if_false]
        split <;> simp [tmVar, tmSz, tmSzL]
    · intro k ty l hk _ hl _ hn
      rw [tmSz] at hn
      have hr := tmBelow_range k
      have e : addW d (tmBelow k) = d + tmBelow k := addW_eq (by omega) (by omega) (by omega) (by omega)
      rw [tmInn, tmOcc, hk, e, tmInnL_map]
      simp only [Bool.false_eq_true, if_false, tmSz]
      rw [tmSzL_inn l (o := fun t => tmOcc t (d + tmBelow k)) (c := tmSz s - 1) (fun y hy => TmG.inn_sz n (hl y hy) (by have := tmSzL_mem hy; omega) _ (by omega) (by omega)), tmOccL_sum]
      omega

theorem TmG.up {b : Int} (hb0 : 0 ≤ b) (hb : b ≤ 1000000) : ∀ (n : Nat) {t : Tm}, TmG t → tmSz t ≤ n → t.least 536870912 = true → ∀ fr : Int, TmG (t.up b fr)
  | 0, t, h, hn, _, _ => by have := tmSz_pos t; omega
  | n + 1, t, h, hn, hl, fr => by
    revert hn hl
    refine h.cases' (p := fun t => tmSz t ≤ n + 1 → t.least 536870912 = true → TmG (t.up b fr)) ?_ ?_
    · intro i hi _ hl
      rw [tmVar, Tm.least_eq] at hl
      have hi2 : i ≤ 536870912 := by rw [Bool.and_eq_true] at hl; exact of_decide_eq_true hl.1
      rw [tmVar, Tm.up, Tm.upL]
      refine .var ?_
      split
      · rw [addW_eq (by omega) (by omega) (by omega) (by omega)]; omega
      · exact hi
    · intro k ty l hk _ hg hmk hn hl
      rw [tmSz] at hn
      rw [Tm.least, Bool.and_eq_true] at hl
      rw [Tm.up, Tm.upL_map, hk]
      simp only [Bool.false_and, Bool.false_eq_true, if_false]
      refine hmk _ (by simp) ?_
      intro x hx
      obtain ⟨y, hy, rfl⟩ := List.mem_map.1 hx
      exact TmG.up hb0 hb n (hg y hy) (by have := tmSzL_mem hy; omega) (Tm.leastL_iff.1 hl.2 y hy) _

theorem TmG.inn {s : Tm} (hs : TmG s) (hsl : s.least 536870912 = true) : ∀ (n : Nat) {t : Tm}, TmG t → tmSz t ≤ n → t.least 536870912 = true → ∀ d : Int, 0 ≤ d → d + n ≤ 1000000 → TmG (tmInn s 0 t d)
  | 0, t, h, hn, _, _, _, _ => by have := tmSz_pos t; omega
  | n + 1, t, h, hn, hl, d, hd, hb => by
    revert hn hl
    have e0 : addW 0 d = d := by rw [addW_eq (by omega) (by omega) (by omega) (by omega)]; omega
    refine h.cases' (p := fun t => tmSz t ≤ n + 1 → t.least 536870912 = true → TmG (tmInn s 0 t d)) ?_ ?_
    · intro i hi _ hl
      rw [tmVar, Tm.least_eq] at hl
      have hi2 : i ≤ 536870912 := by rw [Bool.and_eq_true] at hl; exact of_decide_eq_true hl.1
      rw [tmVar, tmInn, e0]
      simp only [beq_self_eq_true, if_true]
      split
      · exact TmG.up hd (by omega) _ hs (Nat.le_refl _) hsl _
      · split
        · rename_i h1
          have : i > d := by simpa using h1
          refine .var ?_
          rw [subW_eq (by omega) (by omega) (by omega) (by omega)]; omega
        · exact .var hi
    · intro k ty l hk _ hg hmk hn hl
      rw [tmSz] at hn
      have hr := tmBelow_range k
      have e : addW d (tmBelow k) = d + tmBelow k := addW_eq (by omega) (by omega) (by omega) (by omega)
      rw [Tm.least, Bool.and_eq_true] at hl
      rw [tmInn, tmInnL_map, hk, e]
      simp only [Bool.false_eq_true, if_false]
      refine hmk _ (by simp) ?_
      intro x hx
      obtain ⟨y, hy, rfl⟩ := List.mem_map.1 hx
      exact TmG.inn hs hsl n (hg y hy) (by have := tmSzL_mem hy; omega) (Tm.leastL_iff.1 hl.2 y hy) _ (by omega) (by omega)

mutual
def fmOcc : Fm → Int → Nat
  | .mk k _ l a, x => tmOccL l x + fmOccL a (x + fmBelow k)
def fmOccL : List Fm → Int → Nat
  | [], _ => 0
  | t :: l, x => fmOcc t x + fmOccL l x
end
mutual
theorem fmOcc_le : ∀ (t : Fm) (x : Int), fmOcc t x ≤ fmSz t
  | .mk k t l a, x => by
    rw [fmOcc, fmSz]
    have := tmOccL_le l x
    have := fmOccL_le a (x + fmBelow k)
    omega
theorem fmOccL_le : ∀ (l : List Fm) (x : Int), fmOccL l x ≤ fmSzL l
  | [], x => by simp [fmOccL]
  | t :: l, x => by rw [fmOccL, fmSzL]; have := fmOcc_le t x; have := fmOccL_le l x; omega
end

theorem ftimes_eq {x y : Tm} (hx : TmG x) (hy : TmG y) {a : Int} (h0 : 0 ≤ a) (hb : a + (tmSz x + tmSz y) ≤ 1000000) : (fmEq x y).times a = (fmOcc (fmEq x y) a : Int) := by
  have h := timesL_sum (a := a) [x, y] 0 (fun z hz => by
    simp at hz
    rcases hz with rfl | rfl
    · exact hx.times_occ _ (Nat.le_refl _) _ h0 (by omega)
    · exact hy.times_occ _ (Nat.le_refl _) _ h0 (by omega)) (by simp [tmSzL]; omega)
  rw [fmEq, Fm.times, fmOcc, Fm.timesL_nil]
  simpa [fmOccL] using h
theorem below_two {k : Int} (hk : k = 2 ∨ k = 3) : fmBelow k = 0 := by rcases hk with rfl | rfl <;> rfl
theorem addW_zero {a : Int} (h0 : 0 ≤ a) (hb : a ≤ 1000000) : addW a 0 = a := by rw [addW_eq (by omega) (by omega) (by omega) (by omega)]; omega
theorem addW_z {a : Int} (h0 : 0 ≤ a) (hb : a ≤ 1000000) : addW 0 a = a := by rw [addW_eq (by omega) (by omega) (by omega) (by omega)]; omega

theorem FmG.times_occ {u : Bool} {f : Fm} (h : FmG u f) : ∀ a : Int, 0 ≤ a → a + fmSz f ≤ 500000 → f.times a = (fmOcc f a : Int) := by
  induction h with
  | @eq x y hx hy => intro a h0 hb; rw [fmSz_eq] at hb; exact ftimes_eq hx hy h0 (by omega)
  | @two k p q hk _ _ h1 h2 =>
    intro a h0 hb
    rw [fmSz_two] at hb
    have e1 := h1 a h0 (by omega)
    have e2 := h2 a h0 (by omega)
    have l1 := fmOcc_le p a
    have l2 := fmOcc_le q a
    rw [fmTwo, Fm.times, fmOcc, below_two hk, addW_zero h0 (by omega), Tm.timesL_nil, Fm.timesL_cons, Fm.timesL_cons, Fm.timesL_nil, e1, e2, addW_z (by omega) (by omega),
      addW_eq (by omega) (by omega) (by omega) (by omega)]
    simp [fmOccL, tmOccL]
  | @q k s p hk hs _ h1 =>
    intro a h0 hb
    rw [fmSz_q] at hb
    have hr := fmBelow_range k
    have e := addW_eq (a := a) (b := fmBelow k) (by omega) (by omega) (by omega) (by omega)
    have e1 := h1 (a + fmBelow k) (by omega) (by omega)
    have l1 := fmOcc_le p (a + fmBelow k)
    rw [fmQ, Fm.times, fmOcc, e, Tm.timesL_nil, Fm.timesL_cons, Fm.timesL_nil, e1, addW_z (by omega) (by omega)]
    simp [fmOccL, tmOccL]

theorem fmInn_eqn {s : Tm} {a d : Int} {x y : Tm} : fmInn s a (fmEq x y) d = fmEq (tmInn s a x d) (tmInn s a y d) := by
  rw [fmInn_eq]; rfl
theorem fmInn_two {s : Tm} {a d k : Int} {x y : Fm} : fmInn s a (fmTwo k x y) d = fmTwo k (fmInn s a x (addW d (fmBelow k))) (fmInn s a y (addW d (fmBelow k))) := by
  rw [fmInn_eq]; rfl
theorem fmInn_q {s : Tm} {a d k : Int} {t : Ty} {x : Fm} : fmInn s a (fmQ k t x) d = fmQ k t (fmInn s a x (addW d (fmBelow k))) := by
  rw [fmInn_eq]; rfl

theorem FmG.inn_sz {u : Bool} {s : Tm} {f : Fm} (h : FmG u f) : ∀ d : Int, 0 ≤ d → d + fmSz f ≤ 500000 → fmSz (fmInn s 0 f d) = fmSz f + fmOcc f d * (tmSz s - 1) := by
  induction h with
  | @eq x y hx hy =>
    intro d h0 hb
    rw [fmSz_eq] at hb
    rw [fmInn_eqn, fmSz_eq, fmSz_eq, hx.inn_sz _ (Nat.le_refl _) d h0 (by omega), hy.inn_sz _ (Nat.le_refl _) d h0 (by omega)]
    simp only [fmEq, fmOcc, tmOccL, fmOccL, Nat.add_zero, Nat.add_mul]
    omega
  | @two k p q hk _ _ h1 h2 =>
    intro d h0 hb
    rw [fmSz_two] at hb
    rw [fmInn_two, below_two hk, addW_zero h0 (by omega), fmSz_two, fmSz_two, h1 d h0 (by omega), h2 d h0 (by omega)]
    simp only [fmTwo, fmOcc, tmOccL, fmOccL, Nat.add_zero, Nat.zero_add, below_two hk, Int.add_zero, Nat.add_mul]
    omega
  | @q k t p hk hs _ h1 =>
    intro d h0 hb
    rw [fmSz_q] at hb
    have hr := fmBelow_range k
    have e := addW_eq (a := d) (b := fmBelow k) (by omega) (by omega) (by omega) (by omega)
    rw [fmInn_q, e, fmSz_q, fmSz_q, h1 _ (by omega) (by omega)]
    simp only [fmQ, fmOcc, tmOccL, fmOccL, Nat.add_zero, Nat.zero_add]
    omega

theorem FmG.inn {u : Bool} {s : Tm} (hs : TmG s) (hsl : s.least 536870912 = true) {f : Fm} (h : FmG u f) : f.least 536870912 = true → ∀ d : Int, 0 ≤ d → d + fmSz f ≤ 500000 → FmG u (fmInn s 0 f d) := by
  induction h with
  | @eq x y hx hy =>
    intro hl d h0 hb
    rw [fmSz_eq] at hb
    rw [Fm.least_eq] at hl
    simp only [fmEq, Fm.terms, Fm.args, Tm.leastL_cons, Tm.leastL_nil, Fm.leastL_nil, Bool.and_true, Bool.and_eq_true] at hl
    rw [fmInn_eqn]
    exact .eq (TmG.inn hs hsl _ hx (Nat.le_refl _) hl.1 d h0 (by omega)) (TmG.inn hs hsl _ hy (Nat.le_refl _) hl.2 d h0 (by omega))
  | @two k p q hk _ _ h1 h2 =>
    intro hl d h0 hb
    rw [fmSz_two] at hb
    rw [Fm.least_eq] at hl
    simp only [fmTwo, Fm.terms, Fm.args, Fm.leastL_cons, Tm.leastL_nil, Fm.leastL_nil, Bool.and_true, Bool.true_and, Bool.and_eq_true] at hl
    rw [fmInn_two, below_two hk, addW_zero h0 (by omega)]
    exact .two hk (h1 hl.1 d h0 (by omega)) (h2 hl.2 d h0 (by omega))
  | @q k t p hk ht _ h1 =>
    intro hl d h0 hb
    rw [fmSz_q] at hb
    rw [Fm.least_eq] at hl
    simp only [fmQ, Fm.terms, Fm.args, Fm.leastL_cons, Tm.leastL_nil, Fm.leastL_nil, Bool.and_true, Bool.true_and] at hl
    have hr := fmBelow_range k
    have e := addW_eq (a := d) (b := fmBelow k) (by omega) (by omega) (by omega) (by omega)
    rw [fmInn_q, e]
    exact .q hk ht (h1 hl _ (by omega) (by omega))

theorem chL_map {k : Int} {t : Ty} {g : Fm → Fm} : ∀ (l : List Fm) (ps : List (Ty × Ty)), (∀ x ∈ l, (g x).ch = x.ch) → Fm.chL k t ps (l.map g) = Fm.chL k t ps l
  | [], _, _ => rfl
  | x :: l, ps, h => by
    rw [List.map_cons, Fm.chL_cons, Fm.chL_cons, h x (by simp), chL_map l _ (fun y hy => h y (by simp [hy]))]
theorem ch_inn {s : Tm} {a : Int} : ∀ (f : Fm) (d : Int), (fmInn s a f d).ch = f.ch := by
  intro f
  induction f using Fm.ind with | h f ih => ?_
  intro d
  rw [fmInn_eq, Fm.ch_eq, Fm.ch_eq f]
  exact chL_map f.args [] (fun x hx => ih x hx _)

theorem TmG.err_val {t : Tm} (h : TmG t) (hs : tmSz t ≤ 1000000) : tmErr t = if tmSz t ≤ 4096 then 0 else 4 := by
  unfold tmErr
  rw [h.nodes_val hs, chk]
  by_cases h64 : tmSz t ≤ 4096
  · rw [if_neg (by omega), if_pos h64]
  · rw [if_pos (by omega), if_neg h64]

/-- The law of what stays. -/
theorem law_keeps {f : Fm} {s : Tm} (hf : FmG false f) (hs : TmG s) (zf : fmSz f ≤ 100000) (zs : tmSz s ≤ 10000) (lf : f.least 536870912 = true) (ls : s.least 536870912 = true) :
    (fmPut f 0 s).2 = 4 ∨ ((fmPut f 0 s).2 = 0 ∧ (fmPut f 0 s).1.look = f.look ∧ f.look.2 = f.ch.2) := by
  unfold fmPut
  have ef := hf.err_val (by omega)
  have es := hs.err_val (by omega)
  by_cases c1 : fmSz f ≤ 4096
  case neg => rw [if_neg c1] at ef; rw [ef]; exact .inl rfl
  rw [if_pos c1] at ef
  by_cases c2 : tmSz s ≤ 4096
  case neg => rw [if_neg c2] at es; rw [ef, es]; exact .inl rfl
  rw [if_pos c2] at es
  have hz1 := tmSz_pos s
  have nf := Fm.szW_nodes f _ (hf.nodes_val (by omega))
  have ns := Tm.szW_nodes s _ (hs.nodes_val (by omega))
  have ht := hf.times_occ 0 (by omega) (by omega)
  have ol := fmOcc_le f 0
  have hm : fmOcc f 0 * (tmSz s - 1) ≤ 4096 * 4096 := Nat.mul_le_mul (by omega) (by omega)
  have e1 : subW s.szW 1 = ((tmSz s - 1 : Nat) : Int) := by rw [ns, subW_eq (by omega) (by omega) (by omega) (by omega)]; omega
  have e2 : mulW (f.times 0) (subW s.szW 1) = ((fmOcc f 0 * (tmSz s - 1) : Nat) : Int) := by
    rw [e1, ht, mulW]
    exact wrap_eq (by rw [Int.natCast_mul]) (by omega) (by omega)
  have e3 : addW f.szW (mulW (f.times 0) (subW s.szW 1)) = ((fmSz f + fmOcc f 0 * (tmSz s - 1) : Nat) : Int) := by
    rw [e2, nf, addW_eq (by omega) (by omega) (by omega) (by omega)]; omega
  have hsz := hf.inn_sz (s := s) 0 (by omega) (by omega)
  have hG := hf.inn hs ls lf 0 (by omega) (by omega)
  by_cases c3 : fmSz f + fmOcc f 0 * (tmSz s - 1) ≤ 4096
  · right
    have eg : fmErr (fmInn s 0 f 0) = 0 := by rw [hG.err_val (by omega)]; exact if_pos (by omega)
    have c3' : decide (addW f.szW (mulW (f.times 0) (subW s.szW 1)) > 4096) = false := by rw [e3]; simp; omega
    have c0 : (decide ((0 : Int) < 0) || decide ((0 : Int) > 4096)) = false := rfl
    simp only [ef, es, lf, ls, c3', c0, bne_self_eq_false, Bool.false_eq_true, if_false, Bool.not_true, Bool.or_self]
    refine ⟨trivial, ?_, ?_⟩
    · unfold Fm.look
      rw [eg, ef, hG.uni, hf.uni, ch_inn]
    · unfold Fm.look
      rw [ef, hf.uni]; rfl
  · left
    have c3' : decide (addW f.szW (mulW (f.times 0) (subW s.szW 1)) > 4096) = true := by rw [e3]; simp; omega
    have c0 : (decide ((0 : Int) < 0) || decide ((0 : Int) > 4096)) = false := rfl
    simp only [ef, es, lf, ls, c3', c0, bne_self_eq_false, Bool.false_eq_true, if_false, Bool.not_true, Bool.or_self, if_true]

theorem MkFm.sz {u : Bool} {n : Nat} {g : List Ty} {f : Fm} (h : MkFm u n g f) (hg : ∀ y ∈ g, tySz y ≤ 3) : fmSz f + 1 ≤ 136 * 2 ^ n := by
  have b1 : bndT 3 1 = 67 := rfl
  induction h with
  | @eq n g x y h1 h2 =>
    have l1 := tySz_nat
    have a1 := (MkTm.sz (M := 3) (by omega) h1 hg (by omega)).1
    have a2 := (MkTm.sz (M := 3) (by omega) h2 hg (by omega)).1
    have := Nat.one_le_two_pow (n := n)
    rw [fmSz_eq]; omega
  | @two n g k a b _ _ _ h1 h2 => have := h1 hg; have := h2 hg; rw [fmSz_two, Nat.pow_succ]; omega
  | @q n g k s a _ hs _ h1 =>
    have hs' : tySz s ≤ 3 := (hs.up (by split <;> omega)).sz1
    have := h1 (by
      intro y hy
      rcases List.mem_append.1 hy with hy | hy
      · exact hg y hy
      · simp at hy; subst hy; exact hs')
    rw [fmSz_q, Nat.pow_succ]; omega
theorem zeroF_W : FmW zeroF := .mk _ _ _ _ tZero_W (by simp) (by simp) (by simp) (by simp)
end GoAbs
