/-
 The abstract layer: plain laws, further ones.
-/
import Derived.Test.YtpnjamplciaopaaGreatDoorAbsDb
import Derived.Test.YtpnjamplciaopaaGreatDoorAbsD
import Derived.Test.YtpnjamplciaopaaGreatDoorAbsC
set_option linter.unusedSimpArgs false
set_option linter.unusedVariables false
set_option linter.unusedSectionVars false
namespace GoAbs
open Go
theorem normN_some {steps : Int} : ∀ (k : Nat) (n : Int) (t : Tm), n ≤ steps → steps < n + k → ∃ r, normN steps k n t = some r
 | 0, n, t, h1, h2 => by omega
 | k + 1, n, t, h1, h2 => by
  rw [normN]
  split
  ·exact ⟨_, rfl⟩
  ·split
   ·exact ⟨_, rfl⟩
   ·rename_i hc
    split
    ·exact ⟨_, rfl⟩
    ·refine normN_some k (n + 1) _ ?_ (by omega)
     have : n ≠ steps := by intro e; subst e; simp at hc
     omega
/-- Normalization with at most 1000 steps. -/
def norm (t : Tm) : Tm × Int × Int := (normN 1000 1001 0 t).getD (zeroT, 0, 0)
theorem norm_eq (t : Tm) : normN 1000 1001 0 t = some (norm t) := by
 obtain ⟨r, hr⟩ := normN_some (steps := 1000) 1001 0 t (by omega) (by omega)
 unfold norm; rw [hr]; rfl
/-- What Match answers for well made terms; me: the error that they do not match. -/
def matchN (me : Int) (a b : Tm) : Int :=
 if Tm.same a b then 0 else if (norm a).2.2 != 0 then (norm a).2.2 else if (norm b).2.2 != 0 then (norm b).2.2
 else if !Tm.same (norm a).1 (norm b).1 then me else 0
end GoAbs
namespace GoAbs
open Go
theorem ta_W {t : Tm} (h : TmW t) (i : Nat) : TmW (ta t i) := by
 unfold ta
 cases hh : t.args[i]? with
 | none => rw [List.getD_eq_getElem?_getD, hh]; exact zeroT_W
 | some x => rw [List.getD_eq_getElem?_getD, hh]; exact h.arg (List.mem_of_getElem? hh)
theorem tm_upW {b : Int} : ∀ (t : Tm) (fr : Int), TmW t → TmW (t.up b fr) := by
 intro t
 induction t using Tm.ind with | h t ih => ?_
 intro fr ht
 rw [Tm.up_eq]
 refine .mk _ _ _ _ ht.ty (by rw [List.length_map]; exact ht.len) ?_
 intro x hx
 obtain ⟨y, hy, rfl⟩ := List.mem_map.1 hx
 exact ih y hy _ (ht.arg hy)
theorem tm_innW {s : Tm} (hs : TmW s) {a : Int} : ∀ (t : Tm) (d : Int), TmW t → TmW (tmInn s a t d) := by
 intro t
 induction t using Tm.ind with | h t ih => ?_
 intro d ht
 rw [tmInn_eq]
 repeat' split
 ·exact tm_upW _ _ hs
 ·exact tmVar_W _
 ·exact ht
 ·refine .mk _ _ _ _ ht.ty (by rw [List.length_map]; exact ht.len) ?_
  intro x hx
  obtain ⟨y, hy, rfl⟩ := List.mem_map.1 hx
  exact ih y hy _ (ht.arg hy)
theorem red_W {t : Tm} (h : TmW t) : TmW t.red := by
 have w0 := ta_W h 0
 have w1 := ta_W h 1
 have w2 := ta_W h 2
 unfold Tm.red
 repeat' split
 ·exact tm_innW w1 _ _ (ta_W w0 0)
 ·exact w0
 ·exact tm0_W2 (tm0_W2 w1 (ta_W w2 0)) (tmT_W3 h.ty w0 w1 (ta_W w2 0))
 ·exact w0
 ·exact tm0_W2 (tm0_W2 (tm0_W2 w1 (ta_W w2 0)) (ta_W w2 1)) (tmT_W3 h.ty w0 w1 (ta_W w2 1))
 ·exact ta_W w0 0
 ·exact ta_W w0 1
mutual
theorem nx_W {gr : Tm → Int} {room : Int} : ∀ t : Tm, TmW t → TmW (t.nx gr room).1
 | .mk k i ty l, h => by
  rw [Tm.nx]
  split
  ·split
   ·exact zeroT_W
   ·exact red_W h
  ·cases hl : Tm.nxL gr room l with
   | none => exact h
   | some p =>
    obtain ⟨h1, h2⟩ := nxL_W l (fun x hx => h.arg hx) p hl
    exact .mk _ _ _ _ h.ty (by rw [h1]; exact h.len) h2
theorem nxL_W {gr : Tm → Int} {room : Int} : ∀ l : List Tm, (∀ x ∈ l, TmW x) → ∀ p, Tm.nxL gr room l = some p → p.1.length = l.length ∧ ∀ x ∈ p.1, TmW x
 | [], _, p, h => by rw [Tm.nxL] at h; cases h
 | a :: l, hw, p, h => by
  rw [Tm.nxL] at h
  split at h
  ·cases h
   refine ⟨by simp, fun x hx => ?_⟩
   rcases List.mem_cons.1 hx with rfl | hx
   ·exact nx_W a (hw a (by simp))
   ·exact hw x (by simp [hx])
  ·cases hl : Tm.nxL gr room l with
   | none => rw [hl] at h; cases h
   | some q =>
    rw [hl] at h
    cases h
    obtain ⟨h1, h2⟩ := nxL_W l (fun x hx => hw x (by simp [hx])) q hl
    refine ⟨by simp [h1], fun x hx => ?_⟩
    rcases List.mem_cons.1 hx with rfl | hx
    ·exact hw _ (by simp)
    ·exact h2 x hx
end
/-- The search for a redex has come to a place. -/
def nxAt (gr : Tm → Int) (room : Int) (l : List Tm) (i : Nat) : Prop :=
 Tm.nxL gr room l = match Tm.nxL gr room (l.drop i) with | some p => some (l.take i ++ p.1, p.2) | none => none
theorem nxAt_0 {gr : Tm → Int} {room : Int} {l : List Tm} : nxAt gr room l 0 := by
 unfold nxAt
 cases h : Tm.nxL gr room l <;> simp [h]
theorem nxAt_next {gr : Tm → Int} {room : Int} {l : List Tm} {i : Nat} {x : Tm} (h : nxAt gr room l i) (hx : l[i]? = some x) (hn : (x.nx gr room).2.1 = false) : nxAt gr room l (i + 1) := by
 unfold nxAt at h ⊢
 rw [drop_get hx, Tm.nxL, hn] at h
 simp only [Bool.false_eq_true, if_false] at h
 rw [h]
 cases hl : Tm.nxL gr room (l.drop (i + 1)) with
 | none => rfl
 | some p => simp only [List.take_add_one, hx, Option.toList_some, List.append_assoc, List.singleton_append]
theorem nxAt_found {gr : Tm → Int} {room : Int} {l : List Tm} {i : Nat} {x : Tm} (h : nxAt gr room l i) (hx : l[i]? = some x) (hn : (x.nx gr room).2.1 = true) :
  Tm.nxL gr room l = some (l.set i (x.nx gr room).1, (x.nx gr room).2.2) := by
 unfold nxAt at h
 rw [drop_get hx, Tm.nxL, hn] at h
 simp only [if_true] at h
 rw [h, List.set_eq_take_append_cons_drop, if_pos (List.getElem?_eq_some_iff.1 hx).1]
theorem nxAt_end {gr : Tm → Int} {room : Int} {l : List Tm} (h : nxAt gr room l l.length) : Tm.nxL gr room l = none := by
 unfold nxAt at h
 rw [List.drop_length] at h
 rw [h, Tm.nxL]
theorem nx_mk {gr : Tm → Int} {room : Int} {t : Tm} (hr : t.root = false) :
  t.nx gr room = match Tm.nxL gr room t.args with | some p => (.mk t.kind t.index t.type p.1, true, p.2) | none => (t, false, true) := by
 obtain ⟨k, i, ty, l⟩ := t
 rw [Tm.nx, hr]; rfl
theorem HasTy.args {Q : Ty → Prop} {g : List Ty} {t : Tm} {s : Ty} (h : HasTy Q g t s) : ∀ x ∈ t.args, ∃ g' s', HasTy Q g' x s' := by
 cases h with
 | var => intro x hx; simp [tmVar, Tm.args] at hx
 | lam _ h1 => intro x hx; simp [tmT, Tm.args] at hx; subst hx; exact ⟨_, _, h1⟩
 | n0 => intro x hx; simp [tmT, Tm.args] at hx
 | n1 _ h1 => intro x hx; simp [tmT, Tm.args] at hx; subst hx; exact ⟨_, _, h1⟩
 | n2 _ h1 h2 => intro x hx; simp [tmT, Tm.args] at hx; rcases hx with rfl | rfl; exact ⟨_, _, h1⟩; exact ⟨_, _, h2⟩
 | n3 _ h1 h2 h3 => intro x hx; simp [tmT, Tm.args] at hx; rcases hx with rfl | rfl | rfl; exact ⟨_, _, h1⟩; exact ⟨_, _, h2⟩; exact ⟨_, _, h3⟩
theorem flat5 (l : List Tm) : (l.map Tm.cells).flatten.length = l.length * 5 := by
 induction l with
 | nil => rfl
 | cons a l ih => simp only [List.map_cons, List.flatten_cons, List.length_append, Tm.cells_len, ih, List.length_cons]; omega
/-- The row after the store. -/
theorem take_splice {l : List Tm} {i : Nat} {x : Tm} {z : List V} (hi : i < l.length) :
  (splice ((l.map Tm.cells).flatten ++ z) (i * 5) x.cells).take (l.length * 5) = ((l.set i x).map Tm.cells).flatten := by
 have hf := flat5 l
 have hx := Tm.cells_len x
 have e1 : ((l.map Tm.cells).flatten ++ z).length = l.length * 5 + z.length := by rw [List.length_append, hf]
 rw [splice_eq x.cells (i * 5) _ (by rw [e1, hx]; omega), hx]
 have ht : ((l.take i).map Tm.cells).flatten.length = i * 5 := by rw [flat5, List.length_take, Nat.min_eq_left (by omega)]
 have hd : (l.map Tm.cells).flatten = ((l.take i).map Tm.cells).flatten ++ (l[i].cells ++ ((l.drop (i + 1)).map Tm.cells).flatten) := by
  conv => lhs; rw [← List.take_append_drop i l]
  rw [List.map_append, List.flatten_append, List.drop_eq_getElem_cons hi, List.map_cons, List.flatten_cons]
 have hl := Tm.cells_len l[i]
 rw [List.set_eq_take_append_cons_drop, if_pos hi, List.map_append, List.flatten_append, List.map_cons, List.flatten_cons]
 have hdl : ((l.drop (i + 1)).map Tm.cells).flatten.length = (l.length - (i + 1)) * 5 := by rw [flat5, List.length_drop]
 have a1 : ((l.map Tm.cells).flatten ++ z).take (i * 5) = ((l.take i).map Tm.cells).flatten := by
  rw [hd, List.append_assoc, ← ht, List.take_left]
 have a2 : ((l.map Tm.cells).flatten ++ z).drop (i * 5 + 5) = ((l.drop (i + 1)).map Tm.cells).flatten ++ z := by
  rw [hd, List.append_assoc, List.append_assoc, ← List.append_assoc]
  have : (((l.take i).map Tm.cells).flatten ++ l[i].cells).length = i * 5 + 5 := by rw [List.length_append, ht, hl]
  rw [← this, List.drop_left]
 rw [a1, a2]
 have b : (((l.take i).map Tm.cells).flatten ++ x.cells ++ ((l.drop (i + 1)).map Tm.cells).flatten).length = l.length * 5 := by
  rw [List.length_append, List.length_append, ht, hx, hdl]
  have : l.length = i + 1 + (l.length - (i + 1)) := by omega
  generalize l.length - (i + 1) = m at *
  omega
 rw [← List.append_assoc, ← b, List.take_left, List.append_assoc]
end GoAbs
namespace GoAbs
def nxR (t : Tm) : Option (List Tm × Bool) → Tm × Bool × Bool
 | some p => (.mk t.kind t.index t.type p.1, true, p.2)
 | none => (t, false, true)
theorem nx_nxR {gr : Tm → Int} {room : Int} {t : Tm} (hr : t.root = false) : t.nx gr room = nxR t (Tm.nxL gr room t.args) := by
 rw [nx_mk hr]; cases Tm.nxL gr room t.args <;> rfl
end GoAbs
namespace GoAbs
open Go
theorem TmG.re {k : Int} {t : Ty} {l l' : List Tm} (h : TmG (tmT k t l)) (hl : l'.length = l.length) (ha : ∀ x ∈ l', TmG x) : TmG (tmT k t l') := by
 generalize e : tmT k t l = u at h
 cases h with
 | plain hA hB hC _ =>
  simp only [tmT, tm0, Tm.mk.injEq] at e
  obtain ⟨rfl, _, rfl, rfl⟩ := e
  exact .plain hA (by rw [hl]; exact hB) hC ha
 | var hi =>
  simp only [tmT, tmVar, Tm.mk.injEq] at e
  obtain ⟨rfl, rfl, rfl, rfl⟩ := e
  have : l' = [] := by cases l' with
   | nil => rfl
   | cons _ _ => simp at hl
  subst this
  exact .var (by omega)
 | typd hA hB hC hg _ =>
  simp only [tmT, Tm.mk.injEq] at e
  obtain ⟨rfl, _, rfl, rfl⟩ := e
  exact .typd hA (by rw [hl]; exact hB) hC hg ha
theorem TmG.subs {k : Int} {t : Ty} {l : List Tm} (h : TmG (tmT k t l)) : ∀ x ∈ l, TmG x := fun x hx => h.arg (by simpa [tmT, Tm.args] using hx)
theorem pUp_G {b : Int} (hb : 0 ≤ b) {t : Tm} (h : TmG t) : ∀ c : Int, 0 ≤ c → TmG (pUp b t c) := by
 refine TmG.nd (P := fun t _ => ∀ c : Int, 0 ≤ c → TmG (pUp b t c)) ?_ ?_ h
 ·intro i hi c hc
  rw [pUp_var]
  split
  ·exact .var (by omega)
  ·exact .var hi
 ·intro k t l hk hl ht ih c hc
  rw [pUp_node hk]
  have := below_nn k
  refine ht.re (by simp) fun x hx => ?_
  obtain ⟨y, hy, rfl⟩ := List.mem_map.1 hx
  exact ih y hy _ (by omega)
theorem pIn_G {s : Tm} (hs : TmG s) {t : Tm} (h : TmG t) : ∀ e : Int, 0 ≤ e → TmG (pIn s t e) := by
 refine TmG.nd (P := fun t _ => ∀ e : Int, 0 ≤ e → TmG (pIn s t e)) ?_ ?_ h
 ·intro i hi e he
  rw [pIn_var]
  split
  ·exact pUp_G he hs 0 (by omega)
  ·split
   ·exact .var (by omega)
   ·exact .var hi
 ·intro k t l hk hl ht ih e he
  rw [pIn_node hk]
  have := below_nn k
  refine ht.re (by simp) fun x hx => ?_
  obtain ⟨y, hy, rfl⟩ := List.mem_map.1 hx
  exact ih y hy _ (by omega)
theorem pUp_swap {a b : Int} (ha : 0 ≤ a) (hb : 0 ≤ b) {t : Tm} (h : TmG t) : ∀ d c : Int, 0 ≤ d → d ≤ c → pUp b (pUp a t d) (c + a) = pUp a (pUp b t c) d := by
 refine TmG.nd (P := fun t _ => ∀ d c : Int, 0 ≤ d → d ≤ c → pUp b (pUp a t d) (c + a) = pUp a (pUp b t c) d) ?_ ?_ h
 ·intro i hi d c hd hc
  rw [pUp_var, pUp_var, pUp_var, pUp_var]
  congr 1
  repeat' split
  all_goals omega
 ·intro k t l hk hl ht ih d c hd hc
  rw [pUp_node hk, pUp_node hk, pUp_node hk, pUp_node hk, List.map_map, List.map_map]
  congr 1
  refine List.map_congr_left fun x hx => ?_
  have := below_nn k
  simp only [Function.comp]
  have e : c + a + tmBelow k = c + tmBelow k + a := by omega
  rw [e]
  exact ih x hx _ _ (by omega) (by omega)
theorem pUp_inU {b : Int} (hb : 0 ≤ b) {s : Tm} (hs : TmG s) {t : Tm} (h : TmG t) : ∀ c e : Int, 0 ≤ e → e ≤ c → pUp b (pIn s t e) c = pIn (pUp b s (c - e)) (pUp b t (c + 1)) e := by
 refine TmG.nd (P := fun t _ => ∀ c e : Int, 0 ≤ e → e ≤ c → pUp b (pIn s t e) c = pIn (pUp b s (c - e)) (pUp b t (c + 1)) e) ?_ ?_ h
 ·intro i hi c e he hc
  rw [pIn_var, pUp_var, pIn_var]
  by_cases h1 : i = e
  ·subst h1
   rw [if_pos rfl, if_neg (show ¬ i ≥ c + 1 by omega), if_pos rfl]
   have := pUp_swap (a := i) (b := b) he hb hs 0 (c - i) (by omega) (by omega)
   rw [show c - i + i = c by omega] at this
   exact this
  ·rw [if_neg h1]
   by_cases h2 : i > e
   ·rw [if_pos h2, pUp_var]
    by_cases h3 : i ≥ c + 1
    ·rw [if_pos h3, if_pos (by omega), if_neg (by omega), if_pos (by omega)]
     congr 1; omega
    ·rw [if_neg h3, if_neg (by omega), if_neg h1, if_pos h2]
   ·rw [if_neg h2, pUp_var, if_neg (show ¬ i ≥ c by omega), if_neg (show ¬ i ≥ c + 1 by omega), if_neg h1, if_neg h2]
 ·intro k t l hk hl ht ih c e he hc
  rw [pIn_node hk, pUp_node hk, pUp_node hk, pIn_node hk, List.map_map, List.map_map]
  congr 1
  refine List.map_congr_left fun x hx => ?_
  have := below_nn k
  simp only [Function.comp]
  have := ih x hx (c + tmBelow k) (e + tmBelow k) (by omega) (by omega)
  rw [show c + tmBelow k - (e + tmBelow k) = c - e by omega] at this
  rw [this]
  congr 2; omega
/-- What a redex becomes. -/
inductive Rdx : Int → Ty → List Tm → Tm → Prop
 | beta {ty ty' : Ty} {b a : Tm} : Rdx 3 ty [tmT 2 ty' [b], a] (pIn a b 0)
 | rec0 {ty ty' : Ty} {z f : Tm} : Rdx 6 ty [z, f, tmT 4 ty' []] z
 | recS {ty ty' : Ty} {z f n : Tm} : Rdx 6 ty [z, f, tmT 5 ty' [n]] (tm0 3 [tm0 3 [f, n], tmT 6 ty [z, f, n]])
 | fold0 {ty ty' : Ty} {z f : Tm} : Rdx 9 ty [z, f, tmT 7 ty' []] z
 | foldS {ty ty' : Ty} {z f h l : Tm} : Rdx 9 ty [z, f, tmT 8 ty' [h, l]] (tm0 3 [tm0 3 [tm0 3 [f, h], l], tmT 9 ty [z, f, l]])
 | fst {ty ty' : Ty} {x y : Tm} : Rdx 11 ty [tmT 10 ty' [x, y]] x
 | snd {ty ty' : Ty} {x y : Tm} : Rdx 12 ty [tmT 10 ty' [x, y]] y
/-- Redexes that stand side by side are reduced at once. -/
inductive Par : Tm → Tm → Prop
 | var (i : Int) : Par (tmVar i) (tmVar i)
 | cong {k : Int} {ty : Ty} {l l' : List Tm} (hk : k ≠ 1) (hl : l.length = l'.length) (h : ∀ (i : Nat) x x', l[i]? = some x → l'[i]? = some x' → Par x x') : Par (tmT k ty l) (tmT k ty l')
 | red {k : Int} {ty : Ty} {l l' : List Tm} {r r' : Tm} (hl : l.length = l'.length) (h : ∀ (i : Nat) x x', l[i]? = some x → l'[i]? = some x' → Par x x')
   (hr : Rdx k ty l r) (hr' : Rdx k ty l' r') : Par (tmT k ty l) r'
theorem Par.refl {t : Tm} (h : TmG t) : Par t t := by
 refine TmG.nd (P := fun t _ => Par t t) ?_ ?_ h
 ·intro i hi; exact .var i
 ·intro k t l hk hl ht ih
  refine .cong hk rfl fun i x x' h1 h2 => ?_
  rw [h1] at h2; cases h2
  exact ih x (List.mem_of_getElem? h1)
theorem Rdx.kind {k : Int} {ty : Ty} {l : List Tm} {r : Tm} (h : Rdx k ty l r) : k = 3 ∨ k = 6 ∨ k = 9 ∨ k = 11 ∨ k = 12 := by cases h <;> simp
theorem Rdx.below {k : Int} {ty : Ty} {l : List Tm} {r : Tm} (h : Rdx k ty l r) : tmBelow k = 0 := by cases h <;> rfl
theorem Rdx.ne {k : Int} {ty : Ty} {l : List Tm} {r : Tm} (h : Rdx k ty l r) : k ≠ 1 := by cases h <;> decide
/-- A node that is no redex is reduced in its parts. -/
theorem Par.hd {k : Int} {ty : Ty} {l : List Tm} {u : Tm} (hk : k = 2 ∨ k = 4 ∨ k = 5 ∨ k = 7 ∨ k = 8 ∨ k = 10) (h : Par (tmT k ty l) u) :
  ∃ l', u = tmT k ty l' ∧ l.length = l'.length ∧ ∀ (i : Nat) x x', l[i]? = some x → l'[i]? = some x' → Par x x' := by
 generalize e : tmT k ty l = t at h
 cases h with
 | var i => simp only [tmT, tmVar, Tm.mk.injEq] at e; omega
 | cong hk' hl hp =>
  simp only [tmT, Tm.mk.injEq] at e
  obtain ⟨rfl, _, rfl, rfl⟩ := e
  exact ⟨_, rfl, hl, hp⟩
 | red hl hp hr hr' =>
  simp only [tmT, Tm.mk.injEq] at e
  obtain ⟨rfl, _, rfl, rfl⟩ := e
  have := hr.kind; omega
theorem ln0 {l : List Tm} (h : ([] : List Tm).length = l.length) : l = [] := by cases l <;> simp_all
theorem ln1 {a : Tm} {l : List Tm} (h : [a].length = l.length) : ∃ x, l = [x] := by
 match l, h with
 | [x], _ => exact ⟨x, rfl⟩
theorem ln2 {a b : Tm} {l : List Tm} (h : [a, b].length = l.length) : ∃ x y, l = [x, y] := by
 match l, h with
 | [x, y], _ => exact ⟨x, y, rfl⟩
theorem ln3 {a b c : Tm} {l : List Tm} (h : [a, b, c].length = l.length) : ∃ x y z, l = [x, y, z] := by
 match l, h with
 | [x, y, z], _ => exact ⟨x, y, z, rfl⟩
/-- A redex stays one when its parts are reduced. -/
theorem Rdx.par {k : Int} {ty : Ty} {l l' : List Tm} {r : Tm} (h : Rdx k ty l r) (hl : l.length = l'.length) (hp : ∀ (i : Nat) x x', l[i]? = some x → l'[i]? = some x' → Par x x') : ∃ r', Rdx k ty l' r' := by
 cases h with
 | beta =>
  obtain ⟨x, y, rfl⟩ := ln2 hl
  obtain ⟨m, rfl, hm, _⟩ := (hp 0 _ _ rfl rfl).hd (by omega)
  obtain ⟨b', rfl⟩ := ln1 hm
  exact ⟨_, .beta⟩
 | rec0 =>
  obtain ⟨x, y, z, rfl⟩ := ln3 hl
  obtain ⟨m, rfl, hm, _⟩ := (hp 2 _ _ rfl rfl).hd (by omega)
  obtain rfl := ln0 hm
  exact ⟨_, .rec0⟩
 | recS =>
  obtain ⟨x, y, z, rfl⟩ := ln3 hl
  obtain ⟨m, rfl, hm, _⟩ := (hp 2 _ _ rfl rfl).hd (by omega)
  obtain ⟨b', rfl⟩ := ln1 hm
  exact ⟨_, .recS⟩
 | fold0 =>
  obtain ⟨x, y, z, rfl⟩ := ln3 hl
  obtain ⟨m, rfl, hm, _⟩ := (hp 2 _ _ rfl rfl).hd (by omega)
  obtain rfl := ln0 hm
  exact ⟨_, .fold0⟩
 | foldS =>
  obtain ⟨x, y, z, rfl⟩ := ln3 hl
  obtain ⟨m, rfl, hm, _⟩ := (hp 2 _ _ rfl rfl).hd (by omega)
  obtain ⟨b', c', rfl⟩ := ln2 hm
  exact ⟨_, .foldS⟩
 | fst =>
  obtain ⟨x, rfl⟩ := ln1 hl
  obtain ⟨m, rfl, hm, _⟩ := (hp 0 _ _ rfl rfl).hd (by omega)
  obtain ⟨b', c', rfl⟩ := ln2 hm
  exact ⟨_, .fst⟩
 | snd =>
  obtain ⟨x, rfl⟩ := ln1 hl
  obtain ⟨m, rfl, hm, _⟩ := (hp 0 _ _ rfl rfl).hd (by omega)
  obtain ⟨b', c', rfl⟩ := ln2 hm
  exact ⟨_, .snd⟩
theorem G2 {f a : Tm} (hf : TmG f) (ha : TmG a) : TmG (tm0 3 [f, a]) := .plain (a := 2) rfl rfl rfl (by simp [hf, ha])
theorem Rdx.G {k : Int} {ty : Ty} {l : List Tm} {r : Tm} (h : Rdx k ty l r) (hG : TmG (tmT k ty l)) : TmG r := by
 have hs := hG.subs
 cases h with
 | @beta _ ty' b a =>
  simp only [List.mem_cons, List.not_mem_nil, or_false, forall_eq_or_imp, forall_eq] at hs
  exact pIn_G hs.2 (hs.1.subs b (by simp)) 0 (by omega)
 | rec0 => exact hs _ (by simp)
 | @recS _ ty' z f n =>
  simp only [List.mem_cons, List.not_mem_nil, or_false, forall_eq_or_imp, forall_eq] at hs
  have hn := hs.2.2.subs n (by simp)
  exact G2 (G2 hs.2.1 hn) (hG.re rfl (by simp [hs.1, hs.2.1, hn]))
 | fold0 => exact hs _ (by simp)
 | foldS =>
  simp only [List.mem_cons, List.not_mem_nil, or_false, forall_eq_or_imp, forall_eq] at hs
  have hh := hs.2.2.subs
  simp only [List.mem_cons, List.not_mem_nil, or_false, forall_eq_or_imp, forall_eq] at hh
  exact G2 (G2 (G2 hs.2.1 hh.1) hh.2) (hG.re rfl (by simp [hs.1, hs.2.1, hh.2]))
 | @fst _ ty' x y => exact (hs (tmT 10 ty' [r, y]) (by simp)).subs r (by simp)
 | @snd _ ty' x y => exact (hs (tmT 10 ty' [x, r]) (by simp)).subs r (by simp)
theorem Par.G {t u : Tm} (h : Par t u) : TmG t → TmG u := by
 have key : ∀ {l l' : List Tm}, l.length = l'.length → (∀ (i : Nat) x x', l[i]? = some x → l'[i]? = some x' → TmG x → TmG x') → (∀ x ∈ l, TmG x) → ∀ x ∈ l', TmG x := by
  intro l l' hl hp hx y hy
  obtain ⟨i, hi, e⟩ := List.mem_iff_getElem.1 hy
  have h1 : l'[i]? = some y := by rw [List.getElem?_eq_getElem hi, e]
  have h2 : l[i]? = some l[i] := List.getElem?_eq_getElem (by omega)
  exact hp i _ _ h2 h1 (hx _ (List.getElem_mem _))
 induction h with
 | var i => exact id
 | cong hk hl hp ih => exact fun hG => hG.re hl.symm (key hl ih hG.subs)
 | red hl hp hr hr' ih => exact fun hG => hr'.G (hG.re hl.symm (key hl ih hG.subs))
theorem map_pt {f g : Tm → Tm} {R : Tm → Tm → Prop} {l l' : List Tm} (hl : l.length = l'.length) (hp : ∀ (i : Nat) x x', l[i]? = some x → l'[i]? = some x' → R (f x) (g x')) :
  (l.map f).length = (l'.map g).length ∧ ∀ (i : Nat) x x', (l.map f)[i]? = some x → (l'.map g)[i]? = some x' → R x x' := by
 refine ⟨by simp [hl], fun i x x' h1 h2 => ?_⟩
 rw [List.getElem?_map] at h1 h2
 cases a1 : l[i]? with
 | none => rw [a1] at h1; cases h1
 | some y =>
  cases a2 : l'[i]? with
  | none => rw [a2] at h2; cases h2
  | some z =>
   rw [a1] at h1; rw [a2] at h2
   cases h1; cases h2
   exact hp i y z a1 a2
theorem pUp_tm0 {b k c : Int} {l : List Tm} (hk : k ≠ 1) : pUp b (tm0 k l) c = tm0 k (l.map fun x => pUp b x (c + tmBelow k)) := pUp_node hk
theorem pIn_tm0 {s : Tm} {k e : Int} {l : List Tm} (hk : k ≠ 1) : pIn s (tm0 k l) e = tm0 k (l.map fun x => pIn s x (e + tmBelow k)) := pIn_node hk
theorem bel2 : tmBelow 2 = 1 := rfl
theorem Rdx.up {b : Int} (hb : 0 ≤ b) {k : Int} {ty : Ty} {l : List Tm} {r : Tm} (h : Rdx k ty l r) (hG : TmG (tmT k ty l)) {c : Int} (hc : 0 ≤ c) : Rdx k ty (l.map fun x => pUp b x c) (pUp b r c) := by
 have hs := hG.subs
 cases h with
 | @beta _ ty' b0 a =>
  simp only [List.mem_cons, List.not_mem_nil, or_false, forall_eq_or_imp, forall_eq] at hs
  rw [pUp_inU hb hs.2 (hs.1.subs b0 (by simp)) c 0 (by omega) hc]
  simp only [List.map_cons, List.map_nil]
  rw [pUp_node (by decide), bel2, Int.sub_zero]
  exact .beta
 | rec0 => simp only [List.map_cons, List.map_nil]; rw [pUp_node (k := 4) (by decide)]; exact .rec0
 | recS =>
  simp only [List.map_cons, List.map_nil]
  rw [pUp_node (k := 5) (by decide), pUp_tm0 (by decide)]
  simp only [List.map_cons, List.map_nil]
  rw [pUp_tm0 (by decide), pUp_node (k := 6) (by decide)]
  simp only [List.map_cons, List.map_nil]
  have e3 : tmBelow 3 = 0 := rfl
  have e5 : tmBelow 5 = 0 := rfl
  have e6 : tmBelow 6 = 0 := rfl
  simp only [e3, e5, e6, Int.add_zero]
  exact .recS
 | fold0 => simp only [List.map_cons, List.map_nil]; rw [pUp_node (k := 7) (by decide)]; exact .fold0
 | foldS =>
  simp only [List.map_cons, List.map_nil]
  rw [pUp_node (k := 8) (by decide), pUp_tm0 (by decide)]
  simp only [List.map_cons, List.map_nil]
  rw [pUp_tm0 (by decide), pUp_node (k := 9) (by decide)]
  simp only [List.map_cons, List.map_nil]
  rw [pUp_tm0 (by decide)]
  simp only [List.map_cons, List.map_nil]
  have e3 : tmBelow 3 = 0 := rfl
  have e5 : tmBelow 8 = 0 := rfl
  have e6 : tmBelow 9 = 0 := rfl
  simp only [e3, e5, e6, Int.add_zero]
  exact .foldS
 | fst =>
  simp only [List.map_cons, List.map_nil]
  rw [pUp_node (k := 10) (by decide)]
  simp only [List.map_cons, List.map_nil, (show tmBelow 10 = 0 from rfl), Int.add_zero]
  exact .fst
 | snd =>
  simp only [List.map_cons, List.map_nil]
  rw [pUp_node (k := 10) (by decide)]
  simp only [List.map_cons, List.map_nil, (show tmBelow 10 = 0 from rfl), Int.add_zero]
  exact .snd
theorem Rdx.inn {s : Tm} (hsG : TmG s) {k : Int} {ty : Ty} {l : List Tm} {r : Tm} (h : Rdx k ty l r) (hG : TmG (tmT k ty l)) {e : Int} (he : 0 ≤ e) : Rdx k ty (l.map fun x => pIn s x e) (pIn s r e) := by
 have hs := hG.subs
 cases h with
 | @beta _ ty' b a =>
  simp only [List.mem_cons, List.not_mem_nil, or_false, forall_eq_or_imp, forall_eq] at hs
  have := pIn_inD he hsG hs.2 (hs.1.subs b (by simp)) 0 (by omega)
  simp only [Int.zero_add] at this
  rw [this]
  simp only [List.map_cons, List.map_nil]
  rw [pIn_node (by decide), bel2]
  exact .beta
 | rec0 => simp only [List.map_cons, List.map_nil]; rw [pIn_node (k := 4) (by decide)]; exact .rec0
 | recS =>
  simp only [List.map_cons, List.map_nil]
  rw [pIn_node (k := 5) (by decide), pIn_tm0 (by decide)]
  simp only [List.map_cons, List.map_nil]
  rw [pIn_tm0 (by decide), pIn_node (k := 6) (by decide)]
  simp only [List.map_cons, List.map_nil]
  have e3 : tmBelow 3 = 0 := rfl
  have e5 : tmBelow 5 = 0 := rfl
  have e6 : tmBelow 6 = 0 := rfl
  simp only [e3, e5, e6, Int.add_zero]
  exact .recS
 | fold0 => simp only [List.map_cons, List.map_nil]; rw [pIn_node (k := 7) (by decide)]; exact .fold0
 | foldS =>
  simp only [List.map_cons, List.map_nil]
  rw [pIn_node (k := 8) (by decide), pIn_tm0 (by decide)]
  simp only [List.map_cons, List.map_nil]
  rw [pIn_tm0 (by decide), pIn_node (k := 9) (by decide)]
  simp only [List.map_cons, List.map_nil]
  rw [pIn_tm0 (by decide)]
  simp only [List.map_cons, List.map_nil]
  have e3 : tmBelow 3 = 0 := rfl
  have e5 : tmBelow 8 = 0 := rfl
  have e6 : tmBelow 9 = 0 := rfl
  simp only [e3, e5, e6, Int.add_zero]
  exact .foldS
 | fst =>
  simp only [List.map_cons, List.map_nil]
  rw [pIn_node (k := 10) (by decide)]
  simp only [List.map_cons, List.map_nil, (show tmBelow 10 = 0 from rfl), Int.add_zero]
  exact .fst
 | snd =>
  simp only [List.map_cons, List.map_nil]
  rw [pIn_node (k := 10) (by decide)]
  simp only [List.map_cons, List.map_nil, (show tmBelow 10 = 0 from rfl), Int.add_zero]
  exact .snd
theorem Par.up {b : Int} (hb : 0 ≤ b) {t u : Tm} (h : Par t u) : TmG t → ∀ c : Int, 0 ≤ c → Par (pUp b t c) (pUp b u c) := by
 induction h with
 | var i => intro _ c hc; rw [pUp_var]; exact .var _
 | @cong k ty l l' hk hl hp ih =>
  intro hG c hc
  rw [pUp_node hk, pUp_node hk]
  have := below_nn k
  obtain ⟨h1, h2⟩ := map_pt (f := fun x => pUp b x (c + tmBelow k)) (g := fun x => pUp b x (c + tmBelow k)) (R := Par) hl (fun i x x' a1 a2 => ih i x x' a1 a2 (hG.subs _ (List.mem_of_getElem? a1)) _ (by omega))
  exact .cong hk h1 h2
 | @red k ty l l' r r' hl hp hr hr' ih =>
  intro hG c hc
  rw [pUp_node hr.ne, hr.below, Int.add_zero]
  obtain ⟨h1, h2⟩ := map_pt (f := fun x => pUp b x c) (g := fun x => pUp b x c) (R := Par) hl (fun i x x' a1 a2 => ih i x x' a1 a2 (hG.subs _ (List.mem_of_getElem? a1)) _ hc)
  exact .red h1 h2 (hr.up hb hG hc) (hr'.up hb ((Par.cong hr.ne hl hp).G hG) hc)
theorem Par.inn {s s' : Tm} (hs : Par s s') (hsG : TmG s) {t u : Tm} (h : Par t u) : TmG t → ∀ e : Int, 0 ≤ e → Par (pIn s t e) (pIn s' u e) := by
 induction h with
 | var i =>
  intro hG e he
  rw [pIn_var, pIn_var]
  repeat' split
  ·exact hs.up he hsG 0 (by omega)
  ·exact .var _
  ·exact .var _
 | @cong k ty l l' hk hl hp ih =>
  intro hG e he
  rw [pIn_node hk, pIn_node hk]
  have := below_nn k
  obtain ⟨h1, h2⟩ := map_pt (f := fun x => pIn s x (e + tmBelow k)) (g := fun x => pIn s' x (e + tmBelow k)) (R := Par) hl (fun i x x' a1 a2 => ih i x x' a1 a2 (hG.subs _ (List.mem_of_getElem? a1)) _ (by omega))
  exact .cong hk h1 h2
 | @red k ty l l' r r' hl hp hr hr' ih =>
  intro hG e he
  rw [pIn_node hr.ne, hr.below, Int.add_zero]
  obtain ⟨h1, h2⟩ := map_pt (f := fun x => pIn s x e) (g := fun x => pIn s' x e) (R := Par) hl (fun i x x' a1 a2 => ih i x x' a1 a2 (hG.subs _ (List.mem_of_getElem? a1)) _ he)
  exact .red h1 h2 (hr.inn hsG hG he) (hr'.inn (hs.G hsG) ((Par.cong hr.ne hl hp).G hG) he)
theorem par2 {k : Int} {ty : Ty} {a a' b b' : Tm} (hk : k ≠ 1) (h1 : Par a a') (h2 : Par b b') : Par (tmT k ty [a, b]) (tmT k ty [a', b']) :=
 .cong hk rfl fun i x x' e1 e2 => by
  match i with
  | 0 => simp at e1 e2; subst e1; subst e2; exact h1
  | 1 => simp at e1 e2; subst e1; subst e2; exact h2
  | i + 2 => simp at e1
theorem par1 {k : Int} {ty : Ty} {a a' : Tm} (hk : k ≠ 1) (h1 : Par a a') : Par (tmT k ty [a]) (tmT k ty [a']) :=
 .cong hk rfl fun i x x' e1 e2 => by
  match i with
  | 0 => simp at e1 e2; subst e1; subst e2; exact h1
  | i + 1 => simp at e1
theorem par3 {k : Int} {ty : Ty} {a a' b b' c c' : Tm} (hk : k ≠ 1) (h1 : Par a a') (h2 : Par b b') (h3 : Par c c') : Par (tmT k ty [a, b, c]) (tmT k ty [a', b', c']) :=
 .cong hk rfl fun i x x' e1 e2 => by
  match i with
  | 0 => simp at e1 e2; subst e1; subst e2; exact h1
  | 1 => simp at e1 e2; subst e1; subst e2; exact h2
  | 2 => simp at e1 e2; subst e1; subst e2; exact h3
  | i + 3 => simp at e1
/-- The parts of a redex are reduced, and so is what it becomes. -/
theorem Rdx.par2 {k : Int} {ty : Ty} {l l' : List Tm} {r r' : Tm} (h : Rdx k ty l r) (h' : Rdx k ty l' r') (hl : l.length = l'.length) (hp : ∀ (i : Nat) x x', l[i]? = some x → l'[i]? = some x' → Par x x')
  (hG : TmG (tmT k ty l)) : Par r r' := by
 have hs := hG.subs
 cases h with
 | @beta _ ty' b a =>
  obtain ⟨x, y, rfl⟩ := ln2 hl
  obtain ⟨m, rfl, hm, hb⟩ := (hp 0 _ _ rfl rfl).hd (by omega)
  obtain ⟨b', rfl⟩ := ln1 hm
  cases h'
  simp only [List.mem_cons, List.not_mem_nil, or_false, forall_eq_or_imp, forall_eq] at hs
  exact Par.inn (hp 1 _ _ rfl rfl) hs.2 (hb 0 _ _ rfl rfl) (hs.1.subs b (by simp)) 0 (by omega)
 | rec0 =>
  obtain ⟨x, y, z, rfl⟩ := ln3 hl
  obtain ⟨m, rfl, hm, hb⟩ := (hp 2 _ _ rfl rfl).hd (by omega)
  obtain rfl := ln0 hm
  generalize e : tmT 4 _ [] = q at h'
  cases h' with
  | rec0 => exact hp 0 _ _ rfl rfl
  | recS => simp only [tmT, Tm.mk.injEq] at e; omega
 | recS =>
  obtain ⟨x, y, z, rfl⟩ := ln3 hl
  obtain ⟨m, rfl, hm, hb⟩ := (hp 2 _ _ rfl rfl).hd (by omega)
  obtain ⟨b', rfl⟩ := ln1 hm
  generalize e : tmT 5 _ [b'] = q at h'
  cases h' with
  | rec0 => simp only [tmT, Tm.mk.injEq] at e; omega
  | recS =>
   simp only [tmT, Tm.mk.injEq, List.cons.injEq, and_true, true_and] at e
   obtain ⟨_, rfl⟩ := e
   have p0 := hp 0 _ _ rfl rfl
   have p1 := hp 1 _ _ rfl rfl
   have pn := hb 0 _ _ rfl rfl
   exact GoAbs.par2 (by decide) (GoAbs.par2 (by decide) p1 pn) (par3 (by decide) p0 p1 pn)
 | fold0 =>
  obtain ⟨x, y, z, rfl⟩ := ln3 hl
  obtain ⟨m, rfl, hm, hb⟩ := (hp 2 _ _ rfl rfl).hd (by omega)
  obtain rfl := ln0 hm
  generalize e : tmT 7 _ [] = q at h'
  cases h' with
  | fold0 => exact hp 0 _ _ rfl rfl
  | foldS => simp only [tmT, Tm.mk.injEq] at e; omega
 | foldS =>
  obtain ⟨x, y, z, rfl⟩ := ln3 hl
  obtain ⟨m, rfl, hm, hb⟩ := (hp 2 _ _ rfl rfl).hd (by omega)
  obtain ⟨b', c', rfl⟩ := ln2 hm
  generalize e : tmT 8 _ [b', c'] = q at h'
  cases h' with
  | fold0 => simp only [tmT, Tm.mk.injEq] at e; omega
  | foldS =>
   simp only [tmT, Tm.mk.injEq, List.cons.injEq, and_true, true_and] at e
   obtain ⟨_, rfl, rfl⟩ := e
   have p0 := hp 0 _ _ rfl rfl
   have p1 := hp 1 _ _ rfl rfl
   have ph := hb 0 _ _ rfl rfl
   have pl := hb 1 _ _ rfl rfl
   exact GoAbs.par2 (by decide) (GoAbs.par2 (by decide) (GoAbs.par2 (by decide) p1 ph) pl) (par3 (by decide) p0 p1 pl)
 | fst =>
  obtain ⟨x, rfl⟩ := ln1 hl
  obtain ⟨m, rfl, hm, hb⟩ := (hp 0 _ _ rfl rfl).hd (by omega)
  obtain ⟨b', c', rfl⟩ := ln2 hm
  cases h'
  exact hb 0 _ _ rfl rfl
 | snd =>
  obtain ⟨x, rfl⟩ := ln1 hl
  obtain ⟨m, rfl, hm, hb⟩ := (hp 0 _ _ rfl rfl).hd (by omega)
  obtain ⟨b', c', rfl⟩ := ln2 hm
  cases h'
  exact hb 1 _ _ rfl rfl
/-- There is a term to which all that a term becomes in one step can be reduced in one step. -/
theorem triangle {t : Tm} (h : TmG t) : ∃ m, ∀ u, Par t u → Par u m := by
 refine TmG.nd (P := fun t _ => ∃ m, ∀ u, Par t u → Par u m) ?_ ?_ h
 ·intro i hi
  refine ⟨tmVar i, fun u hu => ?_⟩
  generalize e : tmVar i = t at hu
  cases hu with
  | var j => simp only [tmVar, Tm.mk.injEq] at e; rw [← e.2.1]; exact .var _
  | cong hk _ _ => simp only [tmVar, tmT, Tm.mk.injEq] at e; exact absurd e.1.symm hk
  | red _ _ hr _ => simp only [tmVar, tmT, Tm.mk.injEq] at e; exact absurd e.1.symm hr.ne
 ·intro k ty l hk hl hG ih
  obtain ⟨ml, hlen, hml⟩ : ∃ ml : List Tm, l.length = ml.length ∧ ∀ (i : Nat) x m, l[i]? = some x → ml[i]? = some m → ∀ u, Par x u → Par u m := by
   clear hG
   induction l with
   | nil => exact ⟨[], rfl, fun i x m h => by simp at h⟩
   | cons a l ihl =>
    obtain ⟨ml, h1, h2⟩ := ihl (fun x hx => hl x (by simp [hx])) (fun x hx => ih x (by simp [hx]))
    obtain ⟨m, hm⟩ := ih a (by simp)
    refine ⟨m :: ml, by simp [h1], fun i x y e1 e2 => ?_⟩
    match i with
    | 0 => simp at e1 e2; subst e1; subst e2; exact hm
    | i + 1 => exact h2 i x y (by simpa using e1) (by simpa using e2)
  have hpm : ∀ (i : Nat) x m, l[i]? = some x → ml[i]? = some m → Par x m := fun i x m e1 e2 => hml i x m e1 e2 x (Par.refl (hl x (List.mem_of_getElem? e1)))
  have conn : ∀ {l' : List Tm}, l.length = l'.length → (∀ (i : Nat) x x', l[i]? = some x → l'[i]? = some x' → Par x x') → l'.length = ml.length ∧ ∀ (i : Nat) x m, l'[i]? = some x → ml[i]? = some m → Par x m := by
   intro l' h1 h2
   refine ⟨by omega, fun i x m e1 e2 => ?_⟩
   have hi : i < l.length := by have := (List.getElem?_eq_some_iff.1 e1).1; omega
   exact hml i _ m (List.getElem?_eq_getElem hi) e2 x (h2 i _ x (List.getElem?_eq_getElem hi) e1)
  by_cases hR : ∃ r, Rdx k ty l r
  ·obtain ⟨r, hr⟩ := hR
   obtain ⟨rm, hrm⟩ := hr.par hlen hpm
   refine ⟨rm, fun u hu => ?_⟩
   generalize e : tmT k ty l = t at hu
   cases hu with
   | var i => simp only [tmVar, tmT, Tm.mk.injEq] at e; exact absurd e.1 hk
   | cong hk' h1 h2 =>
    simp only [tmT, Tm.mk.injEq] at e
    obtain ⟨rfl, _, rfl, rfl⟩ := e
    obtain ⟨c1, c2⟩ := conn h1 h2
    obtain ⟨r', hr'⟩ := hr.par h1 h2
    exact .red c1 c2 hr' hrm
   | red h1 h2 hq hq' =>
    simp only [tmT, Tm.mk.injEq] at e
    obtain ⟨rfl, _, rfl, rfl⟩ := e
    obtain ⟨c1, c2⟩ := conn h1 h2
    exact hq'.par2 hrm c1 c2 ((Par.cong hk h1 h2).G hG)
  ·refine ⟨tmT k ty ml, fun u hu => ?_⟩
   generalize e : tmT k ty l = t at hu
   cases hu with
   | var i => simp only [tmVar, tmT, Tm.mk.injEq] at e; exact absurd e.1 hk
   | cong hk' h1 h2 =>
    simp only [tmT, Tm.mk.injEq] at e
    obtain ⟨rfl, _, rfl, rfl⟩ := e
    obtain ⟨c1, c2⟩ := conn h1 h2
    exact .cong hk c1 c2
   | red h1 h2 hq hq' =>
    simp only [tmT, Tm.mk.injEq] at e
    obtain ⟨rfl, _, rfl, rfl⟩ := e
    exact absurd ⟨_, hq⟩ hR
inductive Star : Tm → Tm → Prop
 | refl (t : Tm) : Star t t
 | step {t u v : Tm} : Par t u → Star u v → Star t v
theorem Star.one {t u : Tm} (h : Par t u) : Star t u := .step h (.refl _)
theorem Star.trans {t u v : Tm} (h : Star t u) : Star u v → Star t v := by
 induction h with
 | refl => exact id
 | step hp _ ih => exact fun h => .step hp (ih h)
theorem Star.G {t u : Tm} (h : Star t u) : TmG t → TmG u := by
 induction h with
 | refl => exact id
 | step hp _ ih => exact fun hG => ih (hp.G hG)
theorem strip {t v : Tm} (h : Star t v) : TmG t → ∀ u, Par t u → ∃ w, Star u w ∧ Par v w := by
 induction h with
 | refl t => exact fun hG u hu => ⟨u, .refl _, hu⟩
 | @step t t1 v hp _ ih =>
  intro hG u hu
  obtain ⟨m, hm⟩ := triangle hG
  obtain ⟨w, h1, h2⟩ := ih (hp.G hG) m (hm t1 hp)
  exact ⟨w, .step (hm u hu) h1, h2⟩
theorem confl {t u : Tm} (h : Star t u) : TmG t → ∀ v, Star t v → ∃ w, Star u w ∧ Star v w := by
 induction h with
 | refl t => exact fun _ v hv => ⟨v, hv, .refl _⟩
 | @step t t1 u hp _ ih =>
  intro hG v hv
  obtain ⟨w, h1, h2⟩ := strip hv hG t1 hp
  obtain ⟨w', h3, h4⟩ := ih (hp.G hG) w h1
  exact ⟨w', h3, .step h2 h4⟩
/-- Terms that can be reduced to the same term. -/
def Jn (a b : Tm) : Prop := ∃ z, Star a z ∧ Star b z
theorem Rdx.root {k : Int} {ty : Ty} {l : List Tm} {r : Tm} (h : Rdx k ty l r) : (tmT k ty l).root = true := by cases h <;> rfl
theorem nrm_par {t u : Tm} (h : Par t u) : t.nrm = true → u = t := by
 induction h with
 | var i => exact fun _ => rfl
 | @cong k ty l l' hk hl hp ih =>
  intro hn
  rw [tmT, Tm.nrm, Bool.and_eq_true] at hn
  have : l' = l := by
   apply List.ext_getElem?
   intro i
   by_cases hi : i < l.length
   ·have e1 : l[i]? = some l[i] := List.getElem?_eq_getElem hi
    have e2 : l'[i]? = some (l'[i]'(by omega)) := List.getElem?_eq_getElem _
    rw [e1, e2, ih i _ _ e1 e2 (nrm_mem hn.2 _ (List.getElem_mem hi))]
   ·rw [List.getElem?_eq_none (by omega), List.getElem?_eq_none (by omega)]
  rw [this]
 | @red k ty l l' r r' hl hp hr hr' ih =>
  intro hn
  rw [tmT, Tm.nrm, Bool.and_eq_true] at hn
  have := hr.root
  rw [tmT] at this
  rw [this] at hn
  simp at hn
theorem nrm_star {t u : Tm} (h : Star t u) : t.nrm = true → u = t := by
 induction h with
 | refl => exact fun _ => rfl
 | step hp _ ih => intro hn; have := nrm_par hp hn; subst this; exact ih hn
/-- Normal forms of terms that have a reduct in common are equal. -/
theorem jn_nrm {a b u v : Tm} (ha : TmG a) (hb : TmG b) (h : Jn a b) (h1 : Star a u) (h2 : Star b v) (n1 : u.nrm = true) (n2 : v.nrm = true) : u = v := by
 obtain ⟨z, j1, j2⟩ := h
 obtain ⟨w, c1, c2⟩ := confl j1 ha u h1
 obtain ⟨w', c3, c4⟩ := confl j2 hb v h2
 have e1 := nrm_star c2 n1
 have e2 := nrm_star c4 n2
 subst e1; subst e2
 obtain ⟨x, d1, d2⟩ := confl c1 (j1.G ha) _ c3
 rw [← nrm_star d1 n1, ← nrm_star d2 n2]
end GoAbs
namespace GoAbs
open Go
theorem TmG.form {t : Tm} (h : TmG t) (hk : t.kind ≠ 1) : t = tmT t.kind t.type t.args ∧ arity t.kind = some (t.args.length : Int) := by
 cases h with
 | plain hA hB hC _ => exact ⟨rfl, by subst hB; exact hA⟩
 | var hi => exact absurd rfl hk
 | typd hA hB hC hg _ => exact ⟨rfl, by subst hB; exact hA⟩
theorem TmG.form0 {t : Tm} (h : TmG t) {k : Int} (e : t.kind = k) (hk : k ≠ 1) (ha : arity k = some 0) : t = tmT k t.type [] := by
 subst e
 obtain ⟨h1, h2⟩ := h.form hk
 rw [ha] at h2
 have : t.args = [] := List.length_eq_zero_iff.1 (by have := Option.some.inj h2; omega)
 rw [this] at h1; exact h1
theorem TmG.form1 {t : Tm} (h : TmG t) {k : Int} (e : t.kind = k) (hk : k ≠ 1) (ha : arity k = some 1) : ∃ x, t = tmT k t.type [x] := by
 subst e
 obtain ⟨h1, h2⟩ := h.form hk
 rw [ha] at h2
 have hl : t.args.length = 1 := by have := Option.some.inj h2; omega
 obtain ⟨x, hx⟩ := List.length_eq_one_iff.1 hl
 rw [hx] at h1; exact ⟨x, h1⟩
theorem TmG.form2 {t : Tm} (h : TmG t) {k : Int} (e : t.kind = k) (hk : k ≠ 1) (ha : arity k = some 2) : ∃ x y, t = tmT k t.type [x, y] := by
 subst e
 obtain ⟨h1, h2⟩ := h.form hk
 rw [ha] at h2
 have hl : t.args.length = 2 := by have := Option.some.inj h2; omega
 obtain ⟨x, y, hx⟩ : ∃ x y, t.args = [x, y] := by
  match t.args, hl with
  | [x, y], _ => exact ⟨x, y, rfl⟩
 rw [hx] at h1; exact ⟨x, y, h1⟩
theorem TmG.form3 {t : Tm} (h : TmG t) {k : Int} (e : t.kind = k) (hk : k ≠ 1) (ha : arity k = some 3) : ∃ x y z, t = tmT k t.type [x, y, z] := by
 subst e
 obtain ⟨h1, h2⟩ := h.form hk
 rw [ha] at h2
 have hl : t.args.length = 3 := by have := Option.some.inj h2; omega
 obtain ⟨x, y, z, hx⟩ : ∃ x y z, t.args = [x, y, z] := by
  match t.args, hl with
  | [x, y, z], _ => exact ⟨x, y, z, rfl⟩
 rw [hx] at h1; exact ⟨x, y, z, h1⟩
theorem tmSzL_mem1 : ∀ {l : List Tm} {x : Tm}, x ∈ l → tmSz x ≤ tmSzL l
 | a :: l, x, h => by
  rw [tmSzL]
  rcases List.mem_cons.1 h with rfl | h
  ·omega
  ·have := tmSzL_mem1 h; omega
theorem tmSz_arg1 {t x : Tm} (h : x ∈ t.args) : tmSz x ≤ tmSz t := by
 obtain ⟨k, i, ty, l⟩ := t
 rw [tmSz]
 have := tmSzL_mem1 (l := l) h
 omega
/-- A root that is a redex. -/
theorem root_rdx {t : Tm} (hG : TmG t) (hl : t.least 1000000000 = true) (hz : tmSz t ≤ 1000000) (hr : t.root = true) : ∃ k ty l, t = tmT k ty l ∧ Rdx k ty l t.red := by
 by_cases k3 : t.kind = 3
 ·obtain ⟨p, q, e⟩ := hG.form2 k3 (by decide) rfl
  generalize t.type = ty at e
  subst e
  have hp : p.kind = 2 := by simpa [Tm.root, tmT, Tm.kind, ta, Tm.args] using hr
  have gp := hG.subs p (by simp)
  have gq := hG.subs q (by simp)
  obtain ⟨b, e2⟩ := gp.form1 hp (by decide) rfl
  generalize p.type = ty' at e2
  subst e2
  refine ⟨3, ty, _, rfl, ?_⟩
  have e : (tmT 3 ty [tmT 2 ty' [b], q]).red = tmInn q 0 b 0 := rfl
  have gb := gp.subs b (by simp)
  have lq : q.least 1000000000 = true := least_arg (x := q) hl (by simp [tmT, Tm.args])
  have lb : b.least 1000000000 = true := least_arg (x := b) (least_arg (x := tmT 2 ty' [b]) hl (by simp [tmT, Tm.args])) (by simp [tmT, Tm.args])
  rw [tmSz_T2, tmSz_T1] at hz
  rw [e, inn_p gq lq (by omega) gb 0 lb (by omega) (by omega)]
  exact .beta
 by_cases k6 : t.kind = 6
 ·obtain ⟨z, f, n, e⟩ := hG.form3 k6 (by decide) rfl
  generalize t.type = ty at e
  subst e
  have gn := hG.subs n (by simp)
  have hn : n.kind = 4 ∨ n.kind = 5 := by simpa [Tm.root, tmT, Tm.kind, ta, Tm.args] using hr
  rcases hn with hn | hn
  ·have e2 := gn.form0 hn (by decide) rfl
   generalize n.type = ty' at e2
   subst e2
   exact ⟨6, ty, _, rfl, .rec0⟩
  ·obtain ⟨m, e2⟩ := gn.form1 hn (by decide) rfl
   generalize n.type = ty' at e2
   subst e2
   exact ⟨6, ty, _, rfl, .recS⟩
 by_cases k9 : t.kind = 9
 ·obtain ⟨z, f, n, e⟩ := hG.form3 k9 (by decide) rfl
  generalize t.type = ty at e
  subst e
  have gn := hG.subs n (by simp)
  have hn : n.kind = 7 ∨ n.kind = 8 := by simpa [Tm.root, tmT, Tm.kind, ta, Tm.args] using hr
  rcases hn with hn | hn
  ·have e2 := gn.form0 hn (by decide) rfl
   generalize n.type = ty' at e2
   subst e2
   exact ⟨9, ty, _, rfl, .fold0⟩
  ·obtain ⟨m, m', e2⟩ := gn.form2 hn (by decide) rfl
   generalize n.type = ty' at e2
   subst e2
   exact ⟨9, ty, _, rfl, .foldS⟩
 by_cases k11 : t.kind = 11
 ·obtain ⟨p, e⟩ := hG.form1 k11 (by decide) rfl
  generalize t.type = ty at e
  subst e
  have gp := hG.subs p (by simp)
  have hp : p.kind = 10 := by simpa [Tm.root, tmT, Tm.kind, ta, Tm.args] using hr
  obtain ⟨x, y, e2⟩ := gp.form2 hp (by decide) rfl
  generalize p.type = ty' at e2
  subst e2
  exact ⟨11, ty, _, rfl, .fst⟩
 by_cases k12 : t.kind = 12
 ·obtain ⟨p, e⟩ := hG.form1 k12 (by decide) rfl
  generalize t.type = ty at e
  subst e
  have gp := hG.subs p (by simp)
  have hp : p.kind = 10 := by simpa [Tm.root, tmT, Tm.kind, ta, Tm.args] using hr
  obtain ⟨x, y, e2⟩ := gp.form2 hp (by decide) rfl
  generalize p.type = ty' at e2
  subst e2
  exact ⟨12, ty, _, rfl, .snd⟩
 ·exfalso
  have : t.root = false := by unfold Tm.root; simp [k3, k6, k9, k11, k12]
  rw [this] at hr; cases hr
theorem red_par {t : Tm} (hG : TmG t) (hl : t.least 1000000000 = true) (hz : tmSz t ≤ 1000000) (hr : t.root = true) : Par t t.red := by
 obtain ⟨k, ty, l, e, hR⟩ := root_rdx hG hl hz hr
 have hs : ∀ x ∈ l, TmG x := by rw [e] at hG; exact hG.subs
 have : Par (tmT k ty l) t.red := .red rfl (fun i x x' h1 h2 => by rw [h1] at h2; cases h2; exact Par.refl (hs x (List.mem_of_getElem? h1))) hR hR
 rw [← e] at this; exact this
mutual
theorem nx_par {gr : Tm → Int} {room : Int} : ∀ t : Tm, TmG t → t.least 1000000000 = true → tmSz t ≤ 1000000 → (t.nx gr room).2 = (true, true) → Par t (t.nx gr room).1
 | .mk k i ty l, hG, hl, hz, h => by
  cases hr : (Tm.mk k i ty l).root with
  | true =>
   rw [nx_root hr] at h ⊢
   split at h
   ·cases h
   ·rename_i hq
    rw [if_neg hq]
    exact red_par hG hl hz hr
  | false =>
   rw [nx_nxR hr] at h ⊢
   simp only [Tm.args] at h ⊢
   have hk : k ≠ 1 := by
    intro e; subst e
    cases hG with
    | plain hA hB hC _ => simp [arity, arities] at hA; subst hA; have : l = [] := List.length_eq_zero_iff.1 (by omega); subst this; rw [Tm.nxL] at h; cases h
    | var hi => rw [Tm.nxL] at h; cases h
    | typd hA hB hC hg _ => simp [typed] at hC
   have hform := (hG.form hk).1
   simp only [Tm.kind, Tm.type, Tm.args] at hform
   cases hL : Tm.nxL gr room l with
   | none => rw [hL] at h; cases h
   | some p =>
    rw [hL] at h
    simp only [nxR] at h ⊢
    simp only [Tm.kind, Tm.type, Tm.index] at h ⊢
    have hp2 : p.2 = true := by simpa using h
    have hi : i = 0 := by simp only [tmT, Tm.mk.injEq] at hform; exact hform.2.1
    subst hi
    have hsub : ∀ x ∈ l, TmG x := fun x hx => hG.arg (by simpa [Tm.args] using hx)
    have hle : ∀ x ∈ l, x.least 1000000000 = true := fun x hx => least_arg (x := x) hl (by simpa [Tm.args] using hx)
    have hsz : ∀ x ∈ l, tmSz x ≤ 1000000 := fun x hx => by have := tmSz_arg1 (t := .mk k 0 ty l) (x := x) (by simpa [Tm.args] using hx); omega
    obtain ⟨h1, h2⟩ := nxL_par l hsub hle hsz p hL hp2
    exact .cong hk h1 h2
theorem nxL_par {gr : Tm → Int} {room : Int} : ∀ l : List Tm, (∀ x ∈ l, TmG x) → (∀ x ∈ l, x.least 1000000000 = true) → (∀ x ∈ l, tmSz x ≤ 1000000) → ∀ p, Tm.nxL gr room l = some p → p.2 = true →
  l.length = p.1.length ∧ ∀ (i : Nat) x x', l[i]? = some x → p.1[i]? = some x' → Par x x'
 | [], _, _, _, p, h, _ => by rw [Tm.nxL] at h; cases h
 | a :: l, hG, hl, hz, p, h, h2 => by
  have same : ∀ {x x' : Tm} {i : Nat}, l[i]? = some x → l[i]? = some x' → Par x x' := fun e1 e2 => by
   rw [e1] at e2; cases e2; exact Par.refl (hG _ (by simp [List.mem_of_getElem? e1]))
  rw [Tm.nxL] at h
  split at h
  ·rename_i hf
   cases h
   refine ⟨by simp, fun i x x' e1 e2 => ?_⟩
   match i with
   | 0 =>
    simp at e1 e2; subst e1; subst e2
    refine nx_par a (hG a (by simp)) (hl a (by simp)) (hz a (by simp)) ?_
    rw [Prod.ext_iff]; exact ⟨hf, h2⟩
   | i + 1 => exact same (by simpa using e1) (by simpa using e2)
  ·cases hL : Tm.nxL gr room l with
   | none => rw [hL] at h; cases h
   | some q =>
    rw [hL] at h
    cases h
    obtain ⟨h3, h4⟩ := nxL_par l (fun x hx => hG x (by simp [hx])) (fun x hx => hl x (by simp [hx])) (fun x hx => hz x (by simp [hx])) q hL h2
    refine ⟨by simp [h3], fun i x x' e1 e2 => ?_⟩
    match i with
    | 0 => simp at e1 e2; subst e1; subst e2; exact Par.refl (hG _ (by simp))
    | i + 1 => exact h4 i x x' (by simpa using e1) (by simpa using e2)
end
/-- What normalization gives, if it ends. -/
theorem normN_star {steps : Int} {g : List Ty} {s : Ty} (hg : g.length ≤ 5000) : ∀ (k : Nat) (n : Int) (t : Tm), HasTy TyG g t s → TmG t → tmSz t ≤ 4096 → ∀ r, normN steps k n t = some r →
  (r.2.2 = 0 ∧ r.1.nrm = true ∧ HasTy TyG g r.1 s ∧ TmG r.1 ∧ tmSz r.1 ≤ 4096 ∧ Star t r.1) ∨ r.2.2 = 5 ∨ r.2.2 = 4
 | 0, n, t, _, _, _, r, h => by simp [normN] at h
 | k + 1, n, t, hT, hG, hz, r, h => by
  rw [normN] at h
  cases h1 : (t.nx Tm.grow (4096 - (tmSz t : Int))).2.1 with
  | false =>
   rw [h1] at h
   simp only [Bool.not_false, if_true, Option.some.injEq] at h
   subst h
   exact .inl ⟨rfl, (nx_none t h1).1, hT, hG, hz, .refl _⟩
  | true =>
   rw [h1] at h
   simp only [Bool.not_true, Bool.false_eq_true, if_false] at h
   split at h
   ·cases h; exact .inr (.inl rfl)
   ·cases h2 : (t.nx Tm.grow (4096 - (tmSz t : Int))).2.2 with
    | false =>
     rw [h2] at h
     simp only [Bool.not_false, if_true, Option.some.injEq] at h
     subst h
     exact .inr (.inr rfl)
    | true =>
     rw [h2] at h
     simp only [Bool.not_true, Bool.false_eq_true, if_false] at h
     have h3 : (t.nx Tm.grow (4096 - (tmSz t : Int))).2 = (true, true) := by rw [Prod.ext_iff]; exact ⟨h1, h2⟩
     have a1 := nx_ty (gr := Tm.grow) (room := 4096 - (tmSz t : Int)) hT (by omega) h3
     have a2 := nx_good (room := 4096 - (tmSz t : Int)) hT hG (by omega) h3
     have a3 := nx_par (gr := Tm.grow) (room := 4096 - (tmSz t : Int)) t hG (hT.least _ (by omega) (by omega)) (by omega) h3
     rcases normN_star hg k (n + 1) _ a1 a2.1 (by have := a2.2; omega) r h with ⟨b1, b2, b3, b4, b5, b6⟩ | b
     ·exact .inl ⟨b1, b2, b3, b4, b5, .step a3 b6⟩
     ·exact .inr b
theorem norm_star {g : List Ty} {t : Tm} {s : Ty} (hg : g.length ≤ 5000) (h : HasTy TyG g t s) (hG : TmG t) (hz : tmSz t ≤ 4096) :
  ((norm t).2.2 = 0 ∧ (norm t).1.nrm = true ∧ HasTy TyG g (norm t).1 s ∧ TmG (norm t).1 ∧ tmSz (norm t).1 ≤ 4096 ∧ Star t (norm t).1) ∨ (norm t).2.2 = 5 ∨ (norm t).2.2 = 4 :=
 normN_star hg 1001 0 t h hG hz _ (norm_eq t)
/-- Terms that have a reduct in common match, if normalization ends. -/
theorem match_jn {me : Int} {g : List Ty} {a b : Tm} {s s' : Ty} (hg : g.length ≤ 5000) (ha : HasTy TyG g a s) (hb : HasTy TyG g b s') (ga : TmG a) (gb : TmG b) (za : tmSz a ≤ 4096) (zb : tmSz b ≤ 4096) (h : Jn a b) :
  matchN me a b = 0 ∨ matchN me a b = 5 ∨ matchN me a b = 4 := by
 unfold matchN
 cases hs : Tm.same a b with
 | true => exact .inl rfl
 | false =>
  simp only [Bool.false_eq_true, if_false]
  rcases norm_star hg ha ga za with ⟨e1, n1, _, _, _, s1⟩ | e1 | e1
  ·rw [e1]
   have n0 : ((0 : Int) != 0) = false := rfl
   rw [n0]
   simp only [Bool.false_eq_true, if_false]
   rcases norm_star hg hb gb zb with ⟨e2, n2, _, _, _, s2⟩ | e2 | e2
   ·rw [e2, n0]
    simp only [Bool.false_eq_true, if_false]
    rw [jn_nrm ga gb h s1 s2 n1 n2, Tm.same_refl]
    exact .inl rfl
   ·rw [e2]; exact .inr (.inl rfl)
   ·rw [e2]; exact .inr (.inr rfl)
  ·rw [e1]; exact .inr (.inl rfl)
  ·rw [e1]; exact .inr (.inr rfl)
end GoAbs
namespace GoAbs
open Go
end GoAbs
namespace GoAbs
open Go
theorem fmPut_okU {u : Bool} {f : Fm} {s : Tm} (hf : FmG u f) (hs : TmG s) (zf : fmSz f ≤ 20000) (zs : tmSz s ≤ 20000) (h : (fmPut f 0 s).2 = 0) : fmPut f 0 s = (fmInn s 0 f 0, 0) ∧ fmSz (fmInn s 0 f 0) ≤ 4096 := by
 unfold fmPut at h ⊢
 have p := tmSz_pos s
 split at h
 ·rename_i h1; simp only at h; rw [h] at h1; simp at h1
 ·rename_i h1
  rw [if_neg h1]
  split at h
  ·cases h
  ·rename_i h2
   rw [if_neg h2]
   split at h
   ·rename_i h3; simp only at h; rw [h] at h3; simp at h3
   ·rename_i h3
    rw [if_neg h3]
    split at h
    ·cases h
    ·rename_i h4
     rw [if_neg h4]
     split at h
     ·cases h
     ·rename_i h5
      rw [if_neg h5]
      refine ⟨rfl, ?_⟩
      have o := fmOcc_le f 0
      rw [hf.times_occ 0 (by omega) (by omega), f.szW_nodes _ (hf.nodes_val (by omega)), s.szW_nodes _ (hs.nodes_val (by omega)), subW_eq (by omega) (by omega) (by omega) (by omega), mulW_eq (by omega) (by omega) (by omega) (by omega)] at h5
      have hm : (fmOcc f 0 : Int) * ((tmSz s : Int) - 1) = ((fmOcc f 0 * (tmSz s - 1) : Nat) : Int) := by
       rw [Int.natCast_mul]; congr 1; omega
      have hb : fmOcc f 0 * (tmSz s - 1) ≤ 20000 * 20000 := Nat.mul_le_mul (by omega) (by omega)
      rw [hm, addW_eq (by omega) (by omega) (by omega) (by omega)] at h5
      rw [hf.inn_sz 0 (by omega) (by omega)]
      have := of_decide_eq_false (Bool.eq_false_iff.2 h5)
      omega
end GoAbs
namespace GoAbs
open Go
theorem Star.up {b : Int} (hb : 0 ≤ b) {t u : Tm} (h : Star t u) : TmG t → ∀ c : Int, 0 ≤ c → Star (pUp b t c) (pUp b u c) := by
 induction h with
 | refl t => exact fun _ c _ => .refl _
 | step hp _ ih => exact fun hG c hc => .step (hp.up hb hG c hc) (ih (hp.G hG) c hc)
theorem Star.inn1 {s : Tm} (hs : TmG s) {t u : Tm} (h : Star t u) : TmG t → ∀ e : Int, 0 ≤ e → Star (pIn s t e) (pIn s u e) := by
 induction h with
 | refl t => exact fun _ e _ => .refl _
 | step hp _ ih => exact fun hG e he => .step (Par.inn (Par.refl hs) hs hp hG e he) (ih (hp.G hG) e he)
theorem Star.inn2 {s s' : Tm} (h : Star s s') {t : Tm} (ht : TmG t) : TmG s → ∀ e : Int, 0 ≤ e → Star (pIn s t e) (pIn s' t e) := by
 induction h with
 | refl s => exact fun _ e _ => .refl _
 | step hp _ ih => exact fun hG e he => .step (Par.inn hp hG (Par.refl ht) ht e he) (ih (hp.G hG) e he)
theorem Star.inn {s s' t u : Tm} (hs : Star s s') (gs : TmG s) (h : Star t u) (gt : TmG t) {e : Int} (he : 0 ≤ e) : Star (pIn s t e) (pIn s' u e) :=
 (h.inn1 gs gt e he).trans (hs.inn2 (h.G gt) gs e he)
theorem Star.t1 {k : Int} {ty : Ty} (hk : k ≠ 1) {x x' : Tm} (h : Star x x') : Star (tmT k ty [x]) (tmT k ty [x']) := by
 induction h with
 | refl => exact .refl _
 | step hp _ ih => exact .step (par1 hk hp) ih
theorem Star.t2 {k : Int} {ty : Ty} (hk : k ≠ 1) {x x' y : Tm} (hy : TmG y) (h : Star x x') : Star (tmT k ty [x, y]) (tmT k ty [x', y]) := by
 induction h with
 | refl => exact .refl _
 | step hp _ ih => exact .step (par2 hk hp (Par.refl hy)) ih
/-- Formulas whose terms are reduced. -/
inductive FmR : Fm → Fm → Prop
 | eq {x y x' y' : Tm} : Star x x' → Star y y' → FmR (fmEq x y) (fmEq x' y')
 | two {k : Int} {a b a' b' : Fm} (hk : k = 2 ∨ k = 3) : FmR a a' → FmR b b' → FmR (fmTwo k a b) (fmTwo k a' b')
 | q {k : Int} {s : Ty} {a a' : Fm} (hk : k = 4 ∨ k = 5 ∨ k = 6 ∨ k = 7) : FmR a a' → FmR (fmQ k s a) (fmQ k s a')
theorem FmR.refl {u : Bool} {f : Fm} (h : FmG u f) : FmR f f := by
 induction h with
 | eq _ _ => exact .eq (.refl _) (.refl _)
 | two hk _ _ h1 h2 => exact .two hk h1 h2
 | q hk _ _ h1 => exact .q (FmG.qk hk) h1
theorem FmR.inv {f f' : Fm} (h : FmR f f') : f.fl.c = f'.fl.c ∧ f.ct = f'.ct ∧ fdp f = fdp f' := by
 induction h with
 | eq _ _ => exact ⟨by rw [Fm.fl_eqn, Fm.fl_eqn], by rw [ct_eqn, ct_eqn], by rw [fdp_eqn, fdp_eqn]⟩
 | two hk _ _ h1 h2 => exact ⟨by rw [fl_c_two hk, fl_c_two hk, h1.1, h2.1], by rw [ct_two, ct_two, h1.1, h1.2.1, h2.1, h2.2.1], by rw [fdp_two, fdp_two, h1.2.2, h2.2.2]⟩
 | q hk _ h1 => exact ⟨by rw [fl_c_q (by omega), fl_c_q (by omega), h1.1], by rw [ct_q, ct_q, h1.1, h1.2.1], by rw [fdp_q, fdp_q, h1.2.2]⟩
theorem FmG.inv_eq {u : Bool} {x y : Tm} (h : FmG u (fmEq x y)) : TmG x ∧ TmG y := by
 generalize e : fmEq x y = f at h
 cases h with
 | eq h1 h2 => simp only [fmEq, Fm.mk.injEq, List.cons.injEq, and_true, true_and] at e; obtain ⟨rfl, rfl⟩ := e; exact ⟨h1, h2⟩
 | two hk _ _ => simp [fmEq, fmTwo] at e
 | q hk _ _ => simp [fmEq, fmQ] at e
theorem FmG.inv_two {u : Bool} {k : Int} {a b : Fm} (h : FmG u (fmTwo k a b)) : (k = 2 ∨ k = 3) ∧ FmG u a ∧ FmG u b := by
 generalize e : fmTwo k a b = f at h
 cases h with
 | eq h1 h2 => simp [fmEq, fmTwo] at e
 | two hk h1 h2 => simp only [fmTwo, Fm.mk.injEq, List.cons.injEq, and_true, true_and] at e; obtain ⟨rfl, rfl, rfl⟩ := e; exact ⟨hk, h1, h2⟩
 | q hk _ _ => simp [fmTwo, fmQ] at e
theorem FmG.inv_q {u : Bool} {k : Int} {s : Ty} {a : Fm} (h : FmG u (fmQ k s a)) : TyG s ∧ FmG u a := by
 generalize e : fmQ k s a = f at h
 cases h with
 | eq h1 h2 => simp [fmEq, fmQ] at e
 | two hk _ _ => simp [fmTwo, fmQ] at e
 | q hk hs h1 => simp only [fmQ, Fm.mk.injEq, List.cons.injEq, and_true, true_and] at e; obtain ⟨rfl, rfl, rfl⟩ := e; exact ⟨hs, h1⟩
theorem FmR.up {f f' : Fm} (h : FmR f f') : FmG true f → FmG true f' → f.least 536870912 = true → f'.least 536870912 = true → ∀ d : Int, 0 ≤ d → d + fmSz f ≤ 100000 → d + fmSz f' ≤ 100000 → FmR (f.up 1 d) (f'.up 1 d) := by
 have one : ∀ {x x' : Tm}, Star x x' → TmG x → TmG x' → x.least 536870912 = true → x'.least 536870912 = true → ∀ d : Int, 0 ≤ d → d + tmSz x ≤ 100000 → d + tmSz x' ≤ 100000 → Star (x.up 1 d) (x'.up 1 d) := by
  intro x x' hs gx gx' lx lx' d hd z z'
  rw [up_p (by omega) (by omega) gx d (least_mono (by omega) _ lx) hd (by omega), up_p (by omega) (by omega) gx' d (least_mono (by omega) _ lx') hd (by omega)]
  exact hs.up (by omega) gx d hd
 induction h with
 | eq h1 h2 =>
  intro g g' l l' d hd z z'
  obtain ⟨g1, g2⟩ := g.inv_eq
  obtain ⟨g1', g2'⟩ := g'.inv_eq
  obtain ⟨l1, l2⟩ := fleast_eq.1 l
  obtain ⟨l1', l2'⟩ := fleast_eq.1 l'
  rw [fmSz_eq] at z z'
  rw [fmUp_eqn, fmUp_eqn]
  exact .eq (one h1 g1 g1' l1 l1' d hd (by omega) (by omega)) (one h2 g2 g2' l2 l2' d hd (by omega) (by omega))
 | two hk _ _ ih1 ih2 =>
  intro g g' l l' d hd z z'
  obtain ⟨_, g1, g2⟩ := g.inv_two
  obtain ⟨_, g1', g2'⟩ := g'.inv_two
  obtain ⟨l1, l2⟩ := fleast_parts2 l
  obtain ⟨l1', l2'⟩ := fleast_parts2 l'
  rw [fmSz_two] at z z'
  rw [fmUp2 hk hd (by omega), fmUp2 hk hd (by omega)]
  exact .two hk (ih1 g1 g1' l1 l1' d hd (by omega) (by omega)) (ih2 g2 g2' l2 l2' d hd (by omega) (by omega))
 | q hk _ ih1 =>
  intro g g' l l' d hd z z'
  rw [fmSz_q] at z z'
  rw [fmUpq hk hd (by omega), fmUpq hk hd (by omega)]
  exact .q hk (ih1 g.inv_q.2 g'.inv_q.2 (fleast_part l) (fleast_part l') _ (by omega) (by omega) (by omega))
theorem FmR.inn {s s' : Tm} (hs : Star s s') (gs : TmG s) (gs' : TmG s') (ls : s.least 1000000000 = true) (ls' : s'.least 1000000000 = true) (zs : tmSz s ≤ 100000) (zs' : tmSz s' ≤ 100000) {f f' : Fm} (h : FmR f f') :
  FmG true f → FmG true f' → f.least 1000000000 = true → f'.least 1000000000 = true → ∀ d : Int, 0 ≤ d → d + fmSz f ≤ 100000 → d + fmSz f' ≤ 100000 → FmR (fmInn s 0 f d) (fmInn s' 0 f' d) := by
 have one : ∀ {x x' : Tm}, Star x x' → TmG x → TmG x' → x.least 1000000000 = true → x'.least 1000000000 = true → ∀ d : Int, 0 ≤ d → d + tmSz x ≤ 100000 → d + tmSz x' ≤ 100000 → Star (tmInn s 0 x d) (tmInn s' 0 x' d) := by
  intro x x' hx gx gx' lx lx' d hd z z'
  rw [inn_p gs ls (by omega) gx d lx hd (by omega), inn_p gs' ls' (by omega) gx' d lx' hd (by omega)]
  exact Star.inn hs gs hx gx hd
 induction h with
 | eq h1 h2 =>
  intro g g' l l' d hd z z'
  obtain ⟨g1, g2⟩ := g.inv_eq
  obtain ⟨g1', g2'⟩ := g'.inv_eq
  obtain ⟨l1, l2⟩ := fleast_eq.1 l
  obtain ⟨l1', l2'⟩ := fleast_eq.1 l'
  rw [fmSz_eq] at z z'
  rw [fmInn_eqn, fmInn_eqn]
  exact .eq (one h1 g1 g1' l1 l1' d hd (by omega) (by omega)) (one h2 g2 g2' l2 l2' d hd (by omega) (by omega))
 | two hk _ _ ih1 ih2 =>
  intro g g' l l' d hd z z'
  obtain ⟨_, g1, g2⟩ := g.inv_two
  obtain ⟨_, g1', g2'⟩ := g'.inv_two
  obtain ⟨l1, l2⟩ := fleast_parts2 l
  obtain ⟨l1', l2'⟩ := fleast_parts2 l'
  rw [fmSz_two] at z z'
  rw [fmInn_two, fmInn_two, below_two hk, addW_zero hd (by omega)]
  exact .two hk (ih1 g1 g1' l1 l1' d hd (by omega) (by omega)) (ih2 g2 g2' l2 l2' d hd (by omega) (by omega))
 | q hk _ ih1 =>
  intro g g' l l' d hd z z'
  rw [fmSz_q] at z z'
  have hr := below_q hk
  rw [fmInn_q, fmInn_q, hr, addW_eq (by omega) (by omega) (by omega) (by omega)]
  exact .q hk (ih1 g.inv_q.2 g'.inv_q.2 (fleast_part l) (fleast_part l') _ (by omega) (by omega) (by omega))
end GoAbs
namespace GoAbs
open Go
/-- Formulas with the right kinds and types. -/
inductive FmC : Fm → Prop
 | eq {t : Ty} {l : List Tm} : FmC (.mk 1 t l [])
 | two {k : Int} {t : Ty} {l : List Tm} {a b : Fm} (hk : k = 2 ∨ k = 3) : FmC a → FmC b → FmC (.mk k t l [a, b])
 | q {k : Int} {s : Ty} {l : List Tm} {a : Fm} (hk : k = 4 ∨ k = 5 ∨ k = 6 ∨ k = 7) (hs : TyG s) : FmC a → FmC (.mk k s l [a])
theorem FmC.ev {F : Tm → Int → Tm} {f : Fm} (h : FmC f) : ∀ b : Int, FmC (f.ev F b) := by
 induction h with
 | eq => intro b; rw [Fm.ev_eq]; exact .eq
 | two hk _ _ h1 h2 => intro b; rw [Fm.ev_eq]; exact .two hk (h1 _) (h2 _)
 | q hk hs _ h1 => intro b; rw [Fm.ev_eq]; exact .q hk hs (h1 _)
theorem FmC.arg {f x : Fm} (h : FmC f) (hx : x ∈ f.args) : FmC x := by
 cases h with
 | eq => simp [Fm.args] at hx
 | two _ ha hb => simp [Fm.args] at hx; rcases hx with rfl | rfl <;> assumption
 | q _ _ ha => simp [Fm.args] at hx; subst hx; exact ha
theorem ctk_1 {t : Ty} {l : List Tm} : (Fm.mk 1 t l []).ct = (tUnit, 0) ∧ (Fm.mk 1 t l []).fl.c = false := ⟨rfl, by rw [Fm.fl_1 rfl]⟩
theorem ctk_2 {t : Ty} {l : List Tm} {a b : Fm} : (Fm.mk 2 t l [a, b]).ct = (if a.fl.c then (if b.fl.c then ctJoin 3 a.ct b.ct else a.ct) else b.ct) ∧ (Fm.mk 2 t l [a, b]).fl.c = (b.fl.c || a.fl.c) :=
 ⟨by rw [Fm.ct, Fm.ctL, Fm.ctL, Fm.ctL]; rfl, by rw [Fm.fl_2 (f := .mk 2 t l [a, b]) (.inl rfl) rfl]; rfl⟩
theorem ctk_3 {t : Ty} {l : List Tm} {a b : Fm} : (Fm.mk 3 t l [a, b]).ct = (if b.fl.c then (if a.fl.c then ctJoin 4 a.ct b.ct else b.ct) else (tUnit, 0)) ∧ (Fm.mk 3 t l [a, b]).fl.c = b.fl.c :=
 ⟨by rw [Fm.ct, Fm.ctL, Fm.ctL, Fm.ctL]; rfl, by rw [Fm.fl_2 (f := .mk 3 t l [a, b]) (.inr rfl) rfl]; show (b.fl.c || false) = _; rw [Bool.or_false]⟩
theorem ctk_4 {s : Ty} {l : List Tm} {a : Fm} : (Fm.mk 4 s l [a]).ct = (if a.fl.c then ctJoin 4 (s, 0) a.ct else (tUnit, 0)) ∧ (Fm.mk 4 s l [a]).fl.c = a.fl.c :=
 ⟨by rw [Fm.ct, Fm.ctL, Fm.ctL]; rfl, by rw [Fm.fl_q (f := .mk 4 s l [a]) (by simp [Fm.kind]) rfl]; show (a.fl.c || false) = _; rw [Bool.or_false]⟩
theorem ctk_5 {s : Ty} {l : List Tm} {a : Fm} : (Fm.mk 5 s l [a]).ct = (if a.fl.c then ctJoin 3 (s, 0) a.ct else (s, 0)) ∧ (Fm.mk 5 s l [a]).fl.c = true :=
 ⟨by rw [Fm.ct, Fm.ctL, Fm.ctL]; rfl, by rw [Fm.fl_q (f := .mk 5 s l [a]) (by simp [Fm.kind]) rfl]; show (a.fl.c || true) = _; rw [Bool.or_true]⟩
theorem ctk_67 {k : Int} (hk : k = 6 ∨ k = 7) {s : Ty} {l : List Tm} {a : Fm} : (Fm.mk k s l [a]).ct = a.ct ∧ (Fm.mk k s l [a]).fl.c = a.fl.c := by
 rcases hk with rfl | rfl
 ·exact ⟨by rw [Fm.ct, Fm.ctL, Fm.ctL]; rfl, by rw [Fm.fl_q (f := .mk 6 s l [a]) (by simp [Fm.kind]) rfl]; show (a.fl.c || false) = _; rw [Bool.or_false]⟩
 ·exact ⟨by rw [Fm.ct, Fm.ctL, Fm.ctL]; rfl, by rw [Fm.fl_q (f := .mk 7 s l [a]) (by simp [Fm.kind]) rfl]; show (a.fl.c || false) = _; rw [Bool.or_false]⟩
/-- What a content type may be. -/
def CtOk (p : Ty × Int) : Prop := (p.2 = 0 ∧ TyG p.1) ∨ p = (tZero, 4)
theorem ctJoin_ok {k : Int} (hk : k = 3 ∨ k = 4) {x y : Ty × Int} (hx : CtOk x) (hy : CtOk y) : CtOk (ctJoin k x y) := by
 rcases hx with ⟨ex, gx⟩ | rfl
 case inr => exact .inr rfl
 rcases hy with ⟨ey, gy⟩ | rfl
 case inr => unfold ctJoin; rw [ex]; exact .inr rfl
 rcases ctJoin_G hk (.inl ⟨ex, gx⟩) (.inl ⟨ey, gy⟩) with ⟨h1, h2, _⟩ | h4
 ·exact .inl ⟨h1, h2⟩
 ·right
  unfold ctJoin at h4 ⊢
  rw [ex, ey] at h4 ⊢
  have n0 : ((0 : Int) != 0) = false := rfl
  rw [n0] at h4 ⊢
  simp only [Bool.false_eq_true, if_false] at h4 ⊢
  split at h4
  ·rename_i h; rw [if_pos h]; simp only at h4; rw [h4]
  ·cases h4
theorem FmC.ok {f : Fm} (h : FmC f) : CtOk f.ct ∧ (f.fl.c = false → f.ct = (tUnit, 0)) := by
 induction h with
 | eq => exact ⟨.inl ⟨by rw [ctk_1.1], by rw [ctk_1.1]; exact TyG.unit⟩, fun _ => ctk_1.1⟩
 | @two k t l a b hk _ _ h1 h2 =>
  rcases hk with rfl | rfl
  ·rw [ctk_2.1, ctk_2.2]
   cases ha : a.fl.c <;> cases hb : b.fl.c <;> simp only [Bool.or_false, Bool.or_true, Bool.or_self, if_true, Bool.false_eq_true, if_false, false_implies, and_true, true_implies]
   ·exact ⟨h2.1, h2.2 hb⟩
   ·exact ⟨h2.1, fun h => by cases h⟩
   ·exact ⟨h1.1, fun h => by cases h⟩
   ·exact ⟨ctJoin_ok (.inl rfl) h1.1 h2.1, fun h => by cases h⟩
  ·rw [ctk_3.1, ctk_3.2]
   cases ha : a.fl.c <;> cases hb : b.fl.c <;> simp only [if_true, Bool.false_eq_true, if_false]
   ·exact ⟨.inl ⟨rfl, TyG.unit⟩, fun _ => trivial⟩
   ·exact ⟨h2.1, fun h => by cases h⟩
   ·exact ⟨.inl ⟨rfl, TyG.unit⟩, fun _ => trivial⟩
   ·exact ⟨ctJoin_ok (.inr rfl) h1.1 h2.1, fun h => by cases h⟩
 | @q k s l a hk hs _ h1 =>
  rcases hk with rfl | rfl | hk
  ·rw [ctk_4.1, ctk_4.2]
   cases ha : a.fl.c <;> simp only [if_true, Bool.false_eq_true, if_false]
   ·exact ⟨.inl ⟨rfl, TyG.unit⟩, fun _ => trivial⟩
   ·exact ⟨ctJoin_ok (.inr rfl) (.inl ⟨rfl, hs⟩) h1.1, fun h => by cases h⟩
  ·rw [ctk_5.1, ctk_5.2]
   refine ⟨?_, fun h => by cases h⟩
   cases ha : a.fl.c <;> simp only [if_true, Bool.false_eq_true, if_false]
   ·exact .inl ⟨rfl, hs⟩
   ·exact ctJoin_ok (.inl rfl) (.inl ⟨rfl, hs⟩) h1.1
  ·rw [(ctk_67 hk).1, (ctk_67 hk).2]; exact h1
end GoAbs
namespace GoAbs
open Go
end GoAbs
namespace GoAbs
open Go
theorem normN_W {steps : Int} : ∀ (k : Nat) (n : Int) (t : Tm), TmW t → ∀ r, normN steps k n t = some r → TmW r.1
 | 0, n, t, _, r, h => by simp [normN] at h
 | k + 1, n, t, hw, r, h => by
  rw [normN] at h
  split at h
  ·cases h; exact hw
  ·split at h
   ·cases h; exact zeroT_W
   ·split at h
    ·cases h; exact zeroT_W
    ·exact normN_W k (n + 1) _ (nx_W t hw) r h
theorem norm_W {t : Tm} (h : TmW t) : TmW (norm t).1 := normN_W 1001 0 t h _ (norm_eq t)
theorem FmTy.inv_eq {Q : Ty → Prop} {g : List Ty} {x y : Tm} (h : FmTy Q g (fmEq x y)) : HasTy Q g x tNat ∧ HasTy Q g y tNat := by
 generalize e : fmEq x y = f at h
 cases h with
 | eq h1 h2 => simp only [fmEq, Fm.mk.injEq, List.cons.injEq, and_true, true_and] at e; obtain ⟨rfl, rfl⟩ := e; exact ⟨h1, h2⟩
 | two hk _ _ => simp [fmEq, fmTwo] at e
 | q hk _ => simp [fmEq, fmQ] at e
theorem FmTy.inv_two {Q : Ty → Prop} {g : List Ty} {k : Int} {a b : Fm} (h : FmTy Q g (fmTwo k a b)) : FmTy Q g a ∧ FmTy Q g b := by
 generalize e : fmTwo k a b = f at h
 cases h with
 | eq h1 h2 => simp [fmEq, fmTwo] at e
 | two hk h1 h2 => simp only [fmTwo, Fm.mk.injEq, List.cons.injEq, and_true, true_and] at e; obtain ⟨rfl, rfl, rfl⟩ := e; exact ⟨h1, h2⟩
 | q hk _ => simp [fmTwo, fmQ] at e
theorem FmTy.inv_q {Q : Ty → Prop} {g : List Ty} {k : Int} {s : Ty} {a : Fm} (h : FmTy Q g (fmQ k s a)) : FmTy Q (g ++ [s]) a := by
 generalize e : fmQ k s a = f at h
 cases h with
 | eq h1 h2 => simp [fmEq, fmQ] at e
 | two hk _ _ => simp [fmTwo, fmQ] at e
 | q hk h1 => simp only [fmQ, Fm.mk.injEq, List.cons.injEq, and_true, true_and] at e; obtain ⟨rfl, rfl, rfl⟩ := e; exact h1
end GoAbs
namespace GoAbs
open Go
def oneT : Tm := tm0 5 [tm0 4 []]
def distT : Tm := lamN (lamN (tm0 3 [tm0 3 [plusT, tm0 3 [tm0 3 [subT, tmVar 1], tmVar 0]], tm0 3 [tm0 3 [subT, tmVar 0], tmVar 1]]))
def chooseT (t : Ty) (c a b : Tm) : Tm := tmT 6 t [b, tmT 2 tNat [tmT 2 t [a]], c]
def eqT (x y : Tm) : Tm := chooseT tNat (tm0 3 [tm0 3 [distT, x], y]) (tm0 4 []) oneT
def elseT (k : Int) : Tm := if k == 2 then tm0 4 [] else oneT
def cutT (t : Tm) : Tm × Int := if tmErr t != 0 then (zeroT, 4) else (t, 0)
def twoT (k : Int) (x y : Tm × Int) : Tm × Int :=
 if x.2 != 0 then (zeroT, x.2) else if y.2 != 0 then (zeroT, y.2) else cutT (chooseT tNat x.1 (y.1.up 2 0) (elseT k))
/-- The characteristic term of a formula without quantifiers. -/
def trCase (k : Int) (ts : List Tm) : List (Tm × Int) → Tm × Int
 | [x, y] => twoT k x y
 | _ => cutT (eqT (ts.getD 0 zeroT) (ts.getD 1 zeroT))
mutual
def Fm.tr : Fm → Tm × Int
 | .mk k _ ts l => trCase k ts (Fm.trL l)
def Fm.trL : List Fm → List (Tm × Int)
 | [] => []
 | f :: l => f.tr :: Fm.trL l
end
theorem tr_eqn {x y : Tm} : (fmEq x y).tr = cutT (eqT x y) := by rw [fmEq, Fm.tr, Fm.trL]; rfl
theorem tr_two {k : Int} {a b : Fm} : (fmTwo k a b).tr = twoT k a.tr b.tr := by rw [fmTwo, Fm.tr, Fm.trL, Fm.trL, Fm.trL]; rfl
/-- truth.Term. -/
def trF (f : Fm) : Tm × Int :=
 if fmErr f != 0 then (zeroT, fmErr f) else if !f.mfree then (zeroT, 42) else if !f.least 268435456 then (zeroT, 1) else f.tr
theorem distT_W : TmW distT := lamN_W (lamN_W (tm0_W2 (tm0_W2 plusT_W (tm0_W2 (tm0_W2 subT_W (tmVar_W _)) (tmVar_W _))) (tm0_W2 (tm0_W2 subT_W (tmVar_W _)) (tmVar_W _))))
theorem oneT_W : TmW oneT := tm0_W1 tm0_W0
theorem elseT_W {k : Int} : TmW (elseT k) := by unfold elseT; split <;> first | exact tm0_W0 | exact oneT_W
theorem chooseT_W {t : Ty} {c a b : Tm} (ht : TyW t) (hc : TmW c) (ha : TmW a) (hb : TmW b) : TmW (chooseT t c a b) := tmT_W3 ht hb (tmT_W1 tNat_W (tmT_W1 ht ha)) hc
theorem eqT_W {x y : Tm} (hx : TmW x) (hy : TmW y) : TmW (eqT x y) := chooseT_W tNat_W (tm0_W2 (tm0_W2 distT_W hx) hy) tm0_W0 oneT_W
theorem distT_G : TmG distT := lamN_G (lamN_G (.t2 ar3 rfl (.t2 ar3 rfl plusT_G (.t2 ar3 rfl (.t2 ar3 rfl subT_G v1_G) v0_G)) (.t2 ar3 rfl (.t2 ar3 rfl subT_G v0_G) v1_G)))
theorem oneT_G : TmG oneT := .t1 ar5 rfl (.t0 ar4 rfl)
theorem elseT_G {k : Int} : TmG (elseT k) := by unfold elseT; split <;> first | exact .t0 ar4 rfl | exact oneT_G
theorem chooseT_G {t : Ty} {c a b : Tm} (ht : TyG t) (hc : TmG c) (ha : TmG a) (hb : TmG b) : TmG (chooseT t c a b) := .recr ht hb (.lam .nat (.lam ht ha)) hc
theorem eqT_G {x y : Tm} (hx : TmG x) (hy : TmG y) : TmG (eqT x y) := chooseT_G .nat (.t2 ar3 rfl (.t2 ar3 rfl distT_G hx) hy) (.t0 ar4 rfl) oneT_G
theorem chooseT_sz {t : Ty} {c a b : Tm} : tmSz (chooseT t c a b) = tmSz c + tmSz a + tmSz b + 3 := by
 rw [chooseT, tmSz_T3, tmSz_T1, tmSz_T1]; omega
theorem distT_sz : tmSz distT = 53 := by decide
theorem eqT_sz {x y : Tm} : tmSz (eqT x y) = tmSz x + tmSz y + 61 := by
 rw [eqT, chooseT_sz, tmSz_2, tmSz_2, distT_sz, oneT, tmSz_1, tmSz_0]; omega
theorem elseT_sz {k : Int} : tmSz (elseT k) ≤ 2 := by unfold elseT; split <;> simp [oneT, tmSz_1, tmSz_0]
theorem least_dist {m : Int} (hm : 1 ≤ m) : distT.least m = true :=
 least_T1 hm (least_T1 hm (least_2 hm (least_2 hm (least_plus hm) (least_2 hm (least_2 hm (least_sub hm) (least_v hm)) (least_v (by omega)))) (least_2 hm (least_2 hm (least_sub hm) (least_v (by omega))) (least_v hm))))
theorem least_else {m k : Int} (hm : 1 ≤ m) : (elseT k).least m = true := by unfold elseT; split <;> first | exact least_0 hm | exact least_1 hm (least_0 hm)
theorem chooseT_least {m : Int} {t : Ty} {c a b : Tm} (hm : 1 ≤ m) (hc : c.least m = true) (ha : a.least m = true) (hb : b.least m = true) : (chooseT t c a b).least m = true :=
 least_T3 hm hb (least_T1 hm (least_T1 hm ha)) hc
theorem eqT_least {m : Int} {x y : Tm} (hm : 1 ≤ m) (hx : x.least m = true) (hy : y.least m = true) : (eqT x y).least m = true :=
 chooseT_least hm (least_2 hm (least_2 hm (least_dist hm) hx) hy) (least_0 hm) (least_1 hm (least_0 hm))
theorem distT_ty {g : List Ty} : HasTy TyG g distT (tFun tNat (tFun tNat tNat)) :=
 .lam1 tNNN (.lam1 tNN (.n2 (ty := .mk 0 []) .app (.n2 (ty := .mk 0 []) .app .plus (.n2 (ty := .mk 0 []) .app (.n2 (ty := .mk 0 []) .app .sub .v1) .v0)) (.n2 (ty := .mk 0 []) .app (.n2 (ty := .mk 0 []) .app .sub .v0) .v1)))
theorem oneT_ty {g : List Ty} : HasTy TyG g oneT tNat := .num 1
theorem elseT_ty {g : List Ty} {k : Int} : HasTy TyG g (elseT k) tNat := by unfold elseT; split <;> first | exact .num 0 | exact oneT_ty
theorem chooseT_ty {g : List Ty} {t : Ty} {c a b : Tm} (hs : TyG (tFun tNat (tFun t t))) (hs2 : TyG (tFun t t)) (hc : HasTy TyG g c tNat) (ha : HasTy TyG (g ++ [tNat] ++ [t]) a t) (hb : HasTy TyG g b t) : HasTy TyG g (chooseT t c a b) t :=
 .n3 .recr hb (.lam hs (.lam hs2 ha)) hc
theorem eqT_ty {g : List Ty} {x y : Tm} (hx : HasTy TyG g x tNat) (hy : HasTy TyG g y tNat) : HasTy TyG g (eqT x y) tNat :=
 chooseT_ty tNNN tNN (.n2 (ty := .mk 0 []) .app (.n2 (ty := .mk 0 []) .app distT_ty hx) hy) (.n0 (ty := .mk 0 []) .zero) oneT_ty
theorem cutT_ok {t r : Tm} (h : cutT t = (r, 0)) : r = t ∧ tmErr t = 0 := by
 unfold cutT at h
 split at h
 ·simp at h
 ·rename_i h0; simp at h h0; exact ⟨h.symm, h0⟩
theorem cutT_G {t : Tm} (h : TmG t) (hs : tmSz t ≤ 1000000) : cutT t = if tmSz t ≤ 4096 then (t, 0) else (zeroT, 4) := by
 unfold cutT; rw [h.err_val hs]; split <;> simp
theorem cutT_err {t : Tm} : (cutT t).2 = 0 ∨ (cutT t).2 = 4 := by
 unfold cutT; split <;> simp
theorem cutT_W {t : Tm} (h : TmW t) : TmW (cutT t).1 := by
 unfold cutT; split
 ·exact zeroT_W
 ·exact h
theorem twoT_W {k : Int} {x y : Tm × Int} (hx : TmW x.1) (hy : TmW y.1) : TmW (twoT k x y).1 := by
 unfold twoT; split
 ·exact zeroT_W
 split
 ·exact zeroT_W
 ·exact cutT_W (chooseT_W tNat_W hx (tm_upW _ _ hy) elseT_W)
theorem twoT_ok {k : Int} {x y : Tm × Int} {t : Tm} (h : twoT k x y = (t, 0)) : x.2 = 0 ∧ y.2 = 0 ∧ t = chooseT tNat x.1 (y.1.up 2 0) (elseT k) ∧ tmErr t = 0 := by
 unfold twoT at h
 split at h
 ·rename_i h0; simp at h0 h; exact absurd h.2 h0
 split at h
 ·rename_i h0; simp at h0 h; exact absurd h.2 h0
 ·rename_i h0 h1
  obtain ⟨rfl, h2⟩ := cutT_ok h
  exact ⟨by simpa using h0, by simpa using h1, rfl, h2⟩
theorem twoT_err {k : Int} {x y : Tm × Int} (hx : x.2 = 0 ∨ x.2 = 4) (hy : y.2 = 0 ∨ y.2 = 4) : (twoT k x y).2 = 0 ∨ (twoT k x y).2 = 4 := by
 unfold twoT
 split
 ·exact hx
 split
 ·exact hy
 ·exact cutT_err
theorem least_eqn' {M : Int} {x y : Tm} (h : (fmEq x y).least M = true) : x.least M = true ∧ y.least M = true := by
 rw [Fm.least_eq] at h
 simp only [fmEq, Fm.terms, Fm.args, Tm.leastL_cons, Tm.leastL_nil, Fm.leastL_nil, Bool.and_true, Bool.and_eq_true] at h; exact h
theorem least_two' {M k : Int} {x y : Fm} (h : (fmTwo k x y).least M = true) : x.least M = true ∧ y.least M = true := by
 rw [Fm.least_eq] at h
 simp only [fmTwo, Fm.terms, Fm.args, Fm.leastL_cons, Tm.leastL_nil, Fm.leastL_nil, Bool.and_true, Bool.true_and, Bool.and_eq_true] at h; exact h
theorem mfree_eqn {x y : Tm} : (fmEq x y).mfree = true := by rw [fmEq, Fm.mfree, Fm.mfreeL_nil]; rfl
theorem mfree_two' {k : Int} {a b : Fm} (h : (fmTwo k a b).mfree = true) : a.mfree = true ∧ b.mfree = true := by
 rw [fmTwo, Fm.mfree, Fm.mfreeL_cons, Fm.mfreeL_cons, Fm.mfreeL_nil] at h
 simp at h; exact h.2
theorem mfree_q' {k : Int} {t : Ty} {a : Fm} (hk : k = 4 ∨ k = 5 ∨ k = 6 ∨ k = 7) : (fmQ k t a).mfree = false := by
 rw [fmQ, Fm.mfree]
 rcases hk with rfl | rfl | rfl | rfl <;> simp
theorem tr_W {u : Bool} {f : Fm} (hf : FmG u f) : FmW f → f.mfree = true → TmW f.tr.1 := by
 induction hf with
 | eq _ _ => intro hw _; rw [tr_eqn]; exact cutT_W (eqT_W (hw.term (by simp [fmEq, Fm.terms])) (hw.term (by simp [fmEq, Fm.terms])))
 | two _ _ _ h1 h2 =>
  intro hw hm
  rw [tr_two]
  exact twoT_W (h1 (hw.arg (by simp [fmTwo, Fm.args])) (mfree_two' hm).1) (h2 (hw.arg (by simp [fmTwo, Fm.args])) (mfree_two' hm).2)
 | q hk _ _ _ => intro _ hm; rw [mfree_q' (FmG.qk hk)] at hm; cases hm
theorem tr_err {u : Bool} {f : Fm} (hf : FmG u f) : f.mfree = true → f.tr.2 = 0 ∨ f.tr.2 = 4 := by
 induction hf with
 | eq _ _ => intro _; rw [tr_eqn]; exact cutT_err
 | two _ _ _ h1 h2 => intro hm; rw [tr_two]; exact twoT_err (h1 (mfree_two' hm).1) (h2 (mfree_two' hm).2)
 | q hk _ _ _ => intro hm; rw [mfree_q' (FmG.qk hk)] at hm; cases hm
/-- What is made is well formed; its indices are hardly greater than those of the formula. -/
theorem tr_G {u : Bool} {f : Fm} (hf : FmG u f) : f.mfree = true → fmSz f ≤ 4096 → ∀ M : Int, 1 ≤ M → M ≤ 300000000 → f.least M = true → f.tr.2 = 0 → TmG f.tr.1 ∧ tmSz f.tr.1 ≤ 4096 ∧ f.tr.1.least (M + 2 * fmSz f) = true := by
 induction hf with
 | @eq x y hx hy =>
  intro _ hz M hM hM2 hl he
  rw [fmSz_eq] at hz ⊢
  have hG := eqT_G hx hy
  have hs : tmSz (eqT x y) ≤ 1000000 := by rw [eqT_sz]; omega
  rw [tr_eqn, cutT_G hG hs] at he ⊢
  split
  ·rename_i h4
   refine ⟨hG, h4, eqT_least (by omega) ?_ ?_⟩
   ·exact least_mono (by omega) _ (least_eqn' hl).1
   ·exact least_mono (by omega) _ (least_eqn' hl).2
  ·rename_i h4; rw [if_neg h4] at he; simp at he
 | @two k a b hk _ _ h1 h2 =>
  intro hm hz M hM hM2 hl he
  rw [fmSz_two] at hz ⊢
  rw [tr_two] at he ⊢
  obtain ⟨m1, m2⟩ := mfree_two' hm
  obtain ⟨l1, l2⟩ := least_two' hl
  cases hp : twoT k a.tr b.tr with
  | mk t e =>
  rw [hp] at he
  simp only at he
  subst he
  obtain ⟨e1, e2, rfl, e4⟩ := twoT_ok hp
  obtain ⟨a1, a2, a3⟩ := h1 m1 (by omega) M hM hM2 l1 e1
  obtain ⟨b1, b2, b3⟩ := h2 m2 (by omega) M hM hM2 l2 e2
  have b4 := TmG.up (b := 2) (by omega) (by omega) _ b1 (Nat.le_refl _) (least_mono (by omega) _ b3) 0
  have b5 := tmSz_up (b := 2) (t := b.tr.1) (fr := 0)
  have hG := chooseT_G .nat a1 b4 (elseT_G (k := k))
  have hsz := chooseT_sz (t := tNat) (c := a.tr.1) (a := b.tr.1.up 2 0) (b := elseT k)
  have := elseT_sz (k := k)
  have hs : tmSz (chooseT tNat a.tr.1 (b.tr.1.up 2 0) (elseT k)) ≤ 1000000 := by rw [hsz, b5]; omega
  rw [hG.err_val hs] at e4
  refine ⟨hG, ?_, chooseT_least (by omega) (least_mono (by omega) _ a3) ?_ (least_else (by omega))⟩
  ·by_cases h : tmSz (chooseT tNat a.tr.1 (b.tr.1.up 2 0) (elseT k)) ≤ 4096
   ·exact h
   ·rw [if_neg h] at e4; simp at e4
  ·exact least_mono (by omega) _ (least_up (b := 2) (M := M + 2 * fmSz b) (by omega) (by omega) (by omega) (by omega) _ b1 (Nat.le_refl _) b3 0)
 | q hk _ _ _ => intro hm; rw [mfree_q' (FmG.qk hk)] at hm; cases hm
end GoAbs
namespace GoAbs
open Go
def bldT (t : Tm) : Tm × Int := if decide (t.szW > 4096) then (zeroT, 4) else (t, 0)
theorem bldT_cut {t : Tm} (h : TmG t) (hs : tmSz t ≤ 1000000) : bldT t = cutT t := by
 rw [cutT_G h hs, bldT, h.szW hs]
 by_cases h4 : tmSz t ≤ 4096
 ·rw [if_neg (by simp; omega), if_pos h4]
 ·rw [if_pos (by simp; omega), if_neg h4]
/-- terms.Apply of the distance. -/
def applyT (x y : Tm) : Tm × Int := if decide ((tmSz x : Int) + tmSz y + 55 > 4096) then (zeroT, 4) else (tm0 3 [tm0 3 [distT, x], y], 0)
theorem eqT_apply {x y : Tm} (hx : TmG x) (hy : TmG y) (zx : tmSz x ≤ 4096) (zy : tmSz y ≤ 4096) :
  (if (applyT x y).2 != 0 then (zeroT, (applyT x y).2) else bldT (chooseT tNat (applyT x y).1 ((tm0 4 []).sl 2 0) oneT)) = cutT (eqT x y) := by
 have hG := eqT_G hx hy
 have hs : tmSz (eqT x y) ≤ 1000000 := by rw [eqT_sz]; omega
 have hz : (tm0 4 []).sl 2 0 = tm0 4 [] := rfl
 unfold applyT
 by_cases h : (tmSz x : Int) + tmSz y + 55 > 4096
 ·have e : (if decide ((tmSz x : Int) + tmSz y + 55 > 4096) = true then (zeroT, (4 : Int)) else (tm0 3 [tm0 3 [distT, x], y], 0)) = (zeroT, 4) := if_pos (decide_eq_true h)
  rw [e, if_pos (by decide), cutT_G hG hs, if_neg (by rw [eqT_sz]; omega)]
 ·have e : (if decide ((tmSz x : Int) + tmSz y + 55 > 4096) = true then (zeroT, (4 : Int)) else (tm0 3 [tm0 3 [distT, x], y], 0)) = (tm0 3 [tm0 3 [distT, x], y], 0) := if_neg (by simpa using h)
  rw [e, if_neg (by simp), hz]
  exact bldT_cut hG hs
theorem two_choose {k : Int} {x y : Tm × Int} (hx : TmG x.1) (hy : TmG y.1) (zx : tmSz x.1 ≤ 4096) (zy : tmSz y.1 ≤ 4096) (ly : y.1.least 300000000 = true) (e1 : x.2 = 0) (e2 : y.2 = 0) :
  bldT (chooseT tNat x.1 (y.1.sl 2 0) (elseT k)) = twoT k x y := by
 have hs := sl_up (b := 2) (by omega) (by omega) _ hy (Nat.le_refl _) (least_mono (by omega) _ ly) 0 (by omega) (by omega)
 have hu := TmG.up (b := 2) (by omega) (by omega) _ hy (Nat.le_refl _) (least_mono (by omega) _ ly) 0
 have hz := tmSz_up (b := 2) y.1 0
 have := elseT_sz (k := k)
 rw [hs, twoT, e1, e2, if_neg (by simp), if_neg (by simp)]
 exact bldT_cut (chooseT_G .nat hx hu elseT_G) (by rw [chooseT_sz, hz]; omega)
theorem chk_G {t : Tm} (h : TmG t) (hz : tmSz t ≤ 4096) : chk 4096 t.nodes = ((tmSz t : Int), 0) := by
 rw [h.nodes_val (by omega), chk, if_neg (by omega)]
/-- The sum of the nodes in terms.Apply. -/
def apAt (x y : Tm) (i : Nat) : Nat := if i = 0 then 53 else if i = 1 then 54 + tmSz x else 55 + tmSz x + tmSz y
theorem chk_dist : chk 4096 distT.nodes = (53, 0) := by
 rw [chk_G distT_G (by rw [distT_sz]; omega), distT_sz]; rfl
end GoAbs
namespace GoAbs
open Go
/-- truth.If. -/
def ifF (t : Ty) (c a b : Tm) : Tm × Int :=
 if tyErr t != 0 then (zeroT, tyErr t) else if tmErr c != 0 then (zeroT, tmErr c) else if tmErr a != 0 then (zeroT, tmErr a) else if tmErr b != 0 then (zeroT, tmErr b)
 else if !a.least 268435456 then (zeroT, 1) else cutT (chooseT t c (a.up 2 0) b)
theorem ifF_1 {t : Ty} {c a b : Tm} (h : (tyErr t != 0) = true) : ifF t c a b = (zeroT, tyErr t) := by unfold ifF; rw [if_pos h]
theorem ifF_2 {t : Ty} {c a b : Tm} (h : tyErr t = 0) (h1 : (tmErr c != 0) = true) : ifF t c a b = (zeroT, tmErr c) := by unfold ifF; rw [if_neg (by simp [h]), if_pos h1]
theorem ifF_3 {t : Ty} {c a b : Tm} (h : tyErr t = 0) (h1 : tmErr c = 0) (h2 : (tmErr a != 0) = true) : ifF t c a b = (zeroT, tmErr a) := by unfold ifF; rw [if_neg (by simp [h]), if_neg (by simp [h1]), if_pos h2]
theorem ifF_4 {t : Ty} {c a b : Tm} (h : tyErr t = 0) (h1 : tmErr c = 0) (h2 : tmErr a = 0) (h3 : (tmErr b != 0) = true) : ifF t c a b = (zeroT, tmErr b) := by
 unfold ifF; rw [if_neg (by simp [h]), if_neg (by simp [h1]), if_neg (by simp [h2]), if_pos h3]
theorem ifF_5 {t : Ty} {c a b : Tm} (h : tyErr t = 0) (h1 : tmErr c = 0) (h2 : tmErr a = 0) (h3 : tmErr b = 0) (h4 : a.least 268435456 = false) : ifF t c a b = (zeroT, 1) := by
 unfold ifF; rw [if_neg (by simp [h]), if_neg (by simp [h1]), if_neg (by simp [h2]), if_neg (by simp [h3]), if_pos (by simp [h4])]
theorem ifF_6 {t : Ty} {c a b : Tm} (h : tyErr t = 0) (h1 : tmErr c = 0) (h2 : tmErr a = 0) (h3 : tmErr b = 0) (h4 : a.least 268435456 = true) : ifF t c a b = cutT (chooseT t c (a.up 2 0) b) := by
 unfold ifF; rw [if_neg (by simp [h]), if_neg (by simp [h1]), if_neg (by simp [h2]), if_neg (by simp [h3]), if_neg (by simp [h4])]
end GoAbs
namespace GoAbs
open Go
/-- What is left to do, some parts being evaluated. -/
def argsK (E : Evl) (e : List Res) (k : Int) (u : Nat) (li : List Res) (ts : List Tm) : Out :=
 match evArgs E e u ts with
 | none => none
 | some (_, u', true) => some (zeroR, u', true)
 | some (l, u', false) => evOf E k u' (li ++ l)
theorem argsK_nil {E : Evl} {e : List Res} {k : Int} {u : Nat} {li : List Res} : argsK E e k u li [] = evOf E k u li := by simp [argsK, evArgs]
theorem argsK_cons {E : Evl} {e : List Res} {k : Int} {u : Nat} {li : List Res} {t : Tm} {ts : List Tm} :
  argsK E e k u li (t :: ts) = match E u t e with | none => none | some (_, u', true) => some (zeroR, u', true) | some (x, u', false) => argsK E e k u' (li ++ [x]) ts := by
 unfold argsK
 rw [evArgs]
 cases E u t e with
 | none => rfl
 | some p =>
  obtain ⟨x, u1, o1⟩ := p
  cases o1 with
  | true => rfl
  | false =>
   simp only
   cases evArgs E e u1 ts with
   | none => rfl
   | some q =>
    obtain ⟨l, u2, o2⟩ := q
    cases o2 <;> simp
theorem evStep_args {most : Nat} {E : Evl} {u : Nat} {t : Tm} {e : List Res} (hu : u ≠ most) (k1 : (t.kind == 1) = false) (k2 : (t.kind == 2) = false) :
  evStep most E u t e = argsK E e t.kind (u + 1) [] t.args := by
 unfold evStep argsK
 rw [if_neg hu, k1, k2]
 simp only [Bool.false_eq_true, if_false]
 cases evArgs E e (u + 1) t.args with
 | none => rfl
 | some p => obtain ⟨a, b, o⟩ := p; cases o <;> rfl
theorem evOf_3 {E : Evl} {u : Nat} {l : List Res} {p : Res × Nat × Bool} (h : evOf E 3 u l = some p) : ∃ f a, l = [f, a] ∧ evCall E u f a = some p := by
 unfold evOf at h
 rw [if_pos (by decide)] at h
 split at h
 ·exact ⟨_, _, rfl, h⟩
 ·cases h
theorem evOf_5 {E : Evl} {u : Nat} {l : List Res} {p : Res × Nat × Bool} (h : evOf E 5 u l = some p) : ∃ a, l = [a] ∧ p = (numR (a.num + 1), u, false) := by
 unfold evOf at h
 rw [if_neg (by decide), if_pos (by decide)] at h
 split at h
 ·exact ⟨_, rfl, (Option.some.inj h).symm⟩
 ·cases h
theorem evOf_6 {E : Evl} {u : Nat} {l : List Res} {p : Res × Nat × Bool} (h : evOf E 6 u l = some p) : ∃ z s n, l = [z, s, n] ∧ evRec E s n.num 0 u z = some p := by
 unfold evOf at h
 rw [if_neg (by decide), if_neg (by decide), if_pos (by decide)] at h
 split at h
 ·exact ⟨_, _, _, rfl, h⟩
 ·cases h
theorem evOf_8 {E : Evl} {u : Nat} {l : List Res} {p : Res × Nat × Bool} (h : evOf E 8 u l = some p) : ∃ a b, l = [a, b] ∧ p = (listR (a.num :: b.list), u, false) := by
 unfold evOf at h
 rw [if_neg (by decide), if_neg (by decide), if_neg (by decide), if_pos (by decide)] at h
 split at h
 ·exact ⟨_, _, rfl, (Option.some.inj h).symm⟩
 ·cases h
theorem evOf_9 {E : Evl} {u : Nat} {l : List Res} {p : Res × Nat × Bool} (h : evOf E 9 u l = some p) : ∃ z s n, l = [z, s, n] ∧ evFold E s n.list n.list.length u z = some p := by
 unfold evOf at h
 rw [if_neg (by decide), if_neg (by decide), if_neg (by decide), if_neg (by decide), if_pos (by decide)] at h
 split at h
 ·exact ⟨_, _, _, rfl, h⟩
 ·cases h
theorem evOf_10 {E : Evl} {u : Nat} {l : List Res} {p : Res × Nat × Bool} (h : evOf E 10 u l = some p) : p = (pairR l, u, false) := by
 unfold evOf at h
 rw [if_neg (by decide), if_neg (by decide), if_neg (by decide), if_neg (by decide), if_neg (by decide), if_pos (by decide)] at h
 exact (Option.some.inj h).symm
theorem evOf_11 {E : Evl} {u : Nat} {l : List Res} {p : Res × Nat × Bool} (h : evOf E 11 u l = some p) : ∃ a x y, l = [a] ∧ a.pair = [x, y] ∧ p = (x, u, false) := by
 unfold evOf at h
 rw [if_neg (by decide), if_neg (by decide), if_neg (by decide), if_neg (by decide), if_neg (by decide), if_neg (by decide), if_pos (by decide)] at h
 split at h
 ·split at h
  ·rename_i hp; exact ⟨_, _, _, rfl, hp, (Option.some.inj h).symm⟩
  ·cases h
 ·cases h
theorem evOf_12 {E : Evl} {u : Nat} {l : List Res} {p : Res × Nat × Bool} (h : evOf E 12 u l = some p) : ∃ a x y, l = [a] ∧ a.pair = [x, y] ∧ p = (y, u, false) := by
 unfold evOf at h
 rw [if_neg (by decide), if_neg (by decide), if_neg (by decide), if_neg (by decide), if_neg (by decide), if_neg (by decide), if_neg (by decide), if_pos (by decide)] at h
 split at h
 ·split at h
  ·rename_i hp; exact ⟨_, _, _, rfl, hp, (Option.some.inj h).symm⟩
  ·cases h
 ·cases h
theorem evOf_0 {E : Evl} {u : Nat} {k : Int} {l : List Res} {p : Res × Nat × Bool} (h : evOf E k u l = some p) (h3 : (k == 3) = false) (h5 : (k == 5) = false) (h6 : (k == 6) = false) (h8 : (k == 8) = false)
  (h9 : (k == 9) = false) (h10 : (k == 10) = false) (h11 : (k == 11) = false) (h12 : (k == 12) = false) : p = (zeroR, u, false) := by
 unfold evOf at h
 simp only [h3, h5, h6, h8, h9, h10, h11, h12, Bool.false_eq_true, if_false, Option.some.injEq] at h
 exact h.symm
theorem numR_cells (n : Nat) : (numR n).cells = [.int .i64 n, .sl .any [], .sl .any [], .int .i64 0, .int .i64 0, .int .i64 0, .sl .any [], .sl .any [], .sl .any []] := by
 rw [numR, Res.mk_cells]; simp [natI, ints, zeroT, Tm.kind, Tm.index, Tm.type, Ty.kind, Ty.args, Tm.args]
theorem zeroR_cells : zeroR.cells = [.int .i64 0, .sl .any [], .sl .any [], .int .i64 0, .int .i64 0, .int .i64 0, .sl .any [], .sl .any [], .sl .any []] := numR_cells 0
theorem listR_cells (l : List Nat) : (listR l).cells = [.int .i64 0, .sl .any (natI l), .sl .any [], .int .i64 0, .int .i64 0, .int .i64 0, .sl .any [], .sl .any [], .sl .any []] := by
 rw [listR, Res.mk_cells]; simp [zeroT, Tm.kind, Tm.index, Tm.type, Ty.kind, Ty.args, Tm.args]
theorem pairR_cells (l : List Res) : (pairR l).cells = [.int .i64 0, .sl .any [], .sl .any (l.map Res.cells), .int .i64 0, .int .i64 0, .int .i64 0, .sl .any [], .sl .any [], .sl .any []] := by
 rw [pairR, Res.mk_cells]; simp [natI, ints, zeroT, Tm.kind, Tm.index, Tm.type, Ty.kind, Ty.args, Tm.args]
theorem cloR_cells (b : Tm) (e : List Res) : (cloR b e).cells = [.int .i64 0, .sl .any [], .sl .any [], .int .i64 b.kind, .int .i64 b.index, .int .i64 b.type.kind, .sl .any (b.type.args.map Ty.cells), .sl .any (b.args.map Tm.cells), .sl .any (e.map Res.cells)] := by
 rw [cloR, Res.mk_cells]; simp [natI, ints]
theorem natI_eq (l : List Nat) : natI l = l.map fun (n : Nat) => [V.int .i64 (n : Int)] := by simp [natI, ints, List.map_map, Function.comp_def]
theorem natI_len (l : List Nat) : (natI l).length = l.length := by simp [natI_eq]
theorem natI_get {l : List Nat} {j : Nat} (h : j < l.length) : (natI l)[j]? = some [V.int .i64 (l.getD j 0 : Nat)] := by
 rw [natI_eq, List.getElem?_map, List.getD_eq_getElem?_getD, List.getElem?_eq_getElem h]; rfl
theorem natI_all (l : List Nat) : (natI l).all (fun e => e.length == 1) = true := by simp [natI_eq]
theorem natI_take (l : List Nat) : List.take l.length (natI l) = natI l := List.take_of_length_le (by rw [natI_len]; exact Nat.le_refl _)
theorem natI_drop (l : List Nat) (k : Nat) : List.drop k (natI l) = natI (l.drop k) := by simp [natI_eq]
theorem natI_cons (a : Nat) (l : List Nat) : natI (a :: l) = [V.int .i64 (a : Int)] :: natI l := by simp [natI_eq]
theorem natI_one (l : List Nat) : (natI l).flatten.all oneV = true := by
 rw [natI_eq, List.all_eq_true]; intro v hv
 obtain ⟨c, hc, hv⟩ := List.mem_flatten.1 hv
 obtain ⟨x, _, rfl⟩ := List.mem_map.1 hc
 simp at hv; subst hv; rfl
theorem natI_weak (l : List Nat) : weakLL (natI l) = natI l := by rw [natI, weakLL_ints]
theorem natI_in {S : Id → Prop} (l : List Nat) : InLL S (natI l) := by rw [natI]; exact InLL_ints _
attribute [go_sem] natI_len natI_all natI_take natI_drop natI_one natI_weak natI_in
end GoAbs
namespace GoAbs
open Go
theorem HasTy.up_id {Q : Ty → Prop} {b : Int} {g : List Ty} {t : Tm} {s : Ty} (h : HasTy Q g t s) : g.length + tmSz t ≤ 100000 → t.up b (g.length : Int) = t := by
 induction h with
 | @var g i t hi hg =>
  intro _
  have e : decide ((i : Int) ≥ (g.length : Int)) = false := by simp; omega
  rw [tmVar, Tm.up, Tm.upL]
  simp only [beq_self_eq_true, Bool.true_and, e, Bool.false_eq_true, if_false]
 | @lam g a c t hG _ ih =>
  intro hb
  rw [tmSz_T1] at hb
  have e1 : addW (g.length : Int) (tmBelow 2) = ((g ++ [a]).length : Int) := by
   have : tmBelow 2 = 1 := rfl
   rw [this, addW_eq (by omega) (by omega) (by omega) (by omega)]; simp
  have := ih (by simp; omega)
  rw [tmT, Tm.up, Tm.upL_map, e1]
  simp only [List.map_cons, List.map_nil, this]; rfl
 | @n0 g k ty s hN =>
  intro _
  have hk : (k == 1) = false := by cases hN <;> rfl
  rw [tmT, Tm.up, Tm.upL_map, hk]; rfl
 | @n1 g k ty s a x hN _ ih =>
  intro hb
  have hk : (k == 1) = false := by cases hN <;> rfl
  have hk2 : tmBelow k = 0 := by cases hN <;> rfl
  rw [tmSz_T1] at hb
  rw [tmT, Tm.up, Tm.upL_map, hk, hk2, addW_zero (by omega) (by omega)]
  simp only [List.map_cons, List.map_nil, ih (by omega)]; rfl
 | @n2 g k ty s a b x y hN _ _ ih1 ih2 =>
  intro hb
  have hk : (k == 1) = false := by cases hN <;> rfl
  have hk2 : tmBelow k = 0 := by cases hN <;> rfl
  have z : tmSz (tmT k ty [x, y]) = tmSz x + tmSz y + 1 := by simp [tmT, tmSz, tmSzL]
  rw [tmT, Tm.up, Tm.upL_map, hk, hk2, addW_zero (by omega) (by omega)]
  simp only [List.map_cons, List.map_nil, ih1 (by omega), ih2 (by omega)]; rfl
 | @n3 g k ty s a b c x y z hN _ _ _ ih1 ih2 ih3 =>
  intro hb
  have hk : (k == 1) = false := by cases hN <;> rfl
  have hk2 : tmBelow k = 0 := by cases hN <;> rfl
  rw [tmSz_T3] at hb
  rw [tmT, Tm.up, Tm.upL_map, hk, hk2, addW_zero (by omega) (by omega)]
  simp only [List.map_cons, List.map_nil, ih1 (by omega), ih2 (by omega), ih3 (by omega)]; rfl
theorem Val.v0 {e : List Res} {x r : Res} (h : Val (tmVar 0) (e ++ [x]) r) : r = x := by
 have := (Val.var (i := 0) h).2
 simpa using this.symm
theorem Val.v1 {e : List Res} {x y r : Res} (h : Val (tmVar 1) (e ++ [x] ++ [y]) r) : r = x := by
 have := (Val.var (i := 1) h).2
 have e1 : (e ++ [x] ++ [y]).length - 1 - 1 = e.length := by simp
 rw [e1, List.getElem?_append_left (by simp), List.getElem?_append_right (by omega), Nat.sub_self] at this
 simpa using this.symm
theorem Val.one {B a : Tm} {e : List Res} {r : Res} (h : Val (tm0 3 [lamN B, a]) e r) : ∃ x, Val a e x ∧ Val B (e ++ [x]) r := by
 obtain ⟨g, x, hg, hx, h2⟩ := Val.app (ty := .mk 0 []) h
 have := Val.lam hg
 subst this
 exact ⟨x, hx, h2⟩
theorem Val.two {B a b : Tm} {e : List Res} {r : Res} (h : Val (tm0 3 [tm0 3 [lamN (lamN B), a], b]) e r) : ∃ x y, Val a e x ∧ Val b e y ∧ Val B (e ++ [x] ++ [y]) r := by
 obtain ⟨f, y, hf, hy, h1⟩ := Val.app (ty := .mk 0 []) h
 obtain ⟨x, hx, h2⟩ := Val.one hf
 have := Val.lam h2
 subst this
 exact ⟨x, y, hx, hy, h1⟩
end GoAbs
namespace GoAbs
open Go
inductive MkFree : Nat → Fm → Prop
 | eq {n : Nat} {x y : Tm} : MkTm 1 [] tNat x → MkTm 1 [] tNat y → MkFree n (fmEq x y)
 | two {n : Nat} {k : Int} {a b : Fm} (hk : k = 2 ∨ k = 3) : MkFree n a → MkFree n b → MkFree (n + 1) (fmTwo k a b)
/-- What is kept of a closed formula without quantifiers. -/
structure FreeC (f : Fm) : Prop where
 ty : FmTy TyG [] f
 gd : FmG true f
 fr : f.mfree = true
 ls : f.least 268435456 = true
theorem mfree_twoB {k : Int} {a b : Fm} (hk : k = 2 ∨ k = 3) (ha : a.mfree = true) (hb : b.mfree = true) : (fmTwo k a b).mfree = true := by
 rw [fmTwo, Fm.mfree, Fm.mfreeL_cons, Fm.mfreeL_cons, Fm.mfreeL_nil, ha, hb]
 rcases hk with rfl | rfl <;> rfl
theorem FreeC.eq {x y : Tm} (hx : MkTm 1 [] tNat x) (hy : MkTm 1 [] tNat y) : FreeC (fmEq x y) ∧ fmSz (fmEq x y) ≤ 49 := by
 have tx := hx.ty (by simp) ⟨.nat, by rw [tySz_nat]; omega⟩
 have ty := hy.ty (by simp) ⟨.nat, by rw [tySz_nat]; omega⟩
 have n2 := tySz_nat
 have lx := hx.least (M := 1) (m := 268435456) (by omega) (by omega) (by simp) (by omega) (by simp; omega)
 have ly := hy.least (M := 1) (m := 268435456) (by omega) (by omega) (by simp) (by omega) (by simp; omega)
 have zx := (hx.one (by simp)).1
 have zy := (hy.one (by simp)).1
 exact ⟨⟨.eq tx ty, .eq (hx.G (by simp) .nat) (hy.G (by simp) .nat), mfree_eqn, least_eqn (by simpa using lx) (by simpa using ly)⟩, by rw [fmSz_eq]; omega⟩
theorem FreeC.two {k : Int} {a b : Fm} (hk : k = 2 ∨ k = 3) (ha : FreeC a) (hb : FreeC b) : FreeC (fmTwo k a b) :=
 ⟨.two hk ha.ty hb.ty, .two hk ha.gd hb.gd, mfree_twoB hk ha.fr hb.fr, least_two ha.ls hb.ls⟩
theorem MkFree.all {n : Nat} {f : Fm} (h : MkFree n f) : FreeC f ∧ fmSz f + 1 ≤ 50 * 2 ^ n := by
 induction h with
 | @eq n x y hx hy =>
  obtain ⟨h1, h2⟩ := FreeC.eq hx hy
  have := Nat.pow_pos (n := n) (show 0 < 2 by omega)
  exact ⟨h1, by omega⟩
 | @two n k a b hk _ _ h1 h2 =>
  refine ⟨h1.1.two hk h2.1, ?_⟩
  rw [fmSz_two, Nat.pow_succ]
  omega
theorem FreeC.trF {f : Fm} (h : FreeC f) (hz : fmSz f ≤ 4096) : trF f = f.tr := by
 unfold GoAbs.trF
 rw [h.gd.err0 hz, if_neg (by simp), h.fr, if_neg (by simp), h.ls, if_neg (by simp)]
def botF : Fm := fmEq (tm0 4 []) oneT
theorem botF_C : FreeC botF := ⟨.eq (.num 0) oneT_ty, .eq (.t0 ar4 rfl) oneT_G, mfree_eqn, by decide⟩
theorem botF_sz : fmSz botF = 4 := by decide
theorem botF_tr : botF.tr = (eqT (tm0 4 []) oneT, 0) := by
 rw [botF, tr_eqn, cutT_G (eqT_G (.t0 ar4 rfl) oneT_G) (by rw [eqT_sz, tmSz_0, oneT, tmSz_1, tmSz_0]; omega), if_pos (by rw [eqT_sz, tmSz_0, oneT, tmSz_1, tmSz_0]; omega)]
theorem if_zero : ifF tNat (tm0 4 []) (tm0 4 []) (tm0 4 []) = (chooseT tNat (tm0 4 []) (tm0 4 []) (tm0 4 []), 0) := by
 have hG : TmG (tm0 4 []) := .t0 ar4 rfl
 have e0 := hG.err0 (by rw [tmSz_0]; omega)
 have hu : (tm0 4 []).up 2 0 = tm0 4 [] := rfl
 rw [ifF_6 TyG.nat.err e0 e0 e0 (by decide), hu, cutT_G (chooseT_G .nat hG hG hG) (by rw [chooseT_sz, tmSz_0]; omega), if_pos (by rw [chooseT_sz, tmSz_0]; omega)]
end GoAbs
namespace GoAbs
open Go
theorem Ext.drew (g : G) (w : World) : Ext g w g w.drew :=
 ⟨rfl, rfl, rfl, by simp, fun _ => Nat.le_refl _, fun _ _ _ => rfl, fun _ _ h => ⟨rfl, h⟩, fun id h => ⟨h, rfl, .inl rfl⟩, Nat.le_refl _⟩
theorem Rel.drew {env : Nat → Option (List V)} {g : G} {w : World} {h : H} (r : Rel env g w h) : Rel env g w.drew h := by
 have hx := Ext.drew g w
 refine ⟨r.dom, r.top, ?_, r.inj, ?_, r.apart, r.apart2, ?_, fun k cs' e => (r.glob k cs' e).mono hx⟩
 ·intro id cs e
  obtain ⟨vs, h1, h2, h3, h4, h5⟩ := r.box id cs e
  exact ⟨vs, h1, h2, fun i c v a b => (h3 i c v a b).mono hx, h4, h5⟩
 ·intro id n k e
  obtain ⟨h1, h2, h3, hk⟩ := r.tok id n k e
  exact ⟨h1, h2, fun hlt => by
   obtain ⟨b, off, vs', s1, s2, s3, s4, s5⟩ := h3 hlt
   exact ⟨b, off, vs', s1, s2, s3, s4, s5⟩, hk⟩
 ·intro b hb; simp only [World.size_drew] at hb; exact r.limnew b hb
/-- 'append' to a row that is full (nil): a new box with the elements, and unknown room behind them. -/
theorem append_box {P : Program} {env : Nat → Option (List V)} {g : G} {w : World} {h : H} {ρc : Operand → Value} {ρ : Operand → V} (r : Rel env g w h) (hρ : ∀ x, RV g w (ρc x) (ρ x))
  {o : Oper} {x y : Operand} {t t2 : TypeId} {nid : Id} {i j : TyI} {xs : List (List V)} {cc : Cap}
  (ho : o.op = .call { callee := .builtin .append, args := #[x, y], argTypes := #[t, t2] }) (hi : tyi P t = some i) (hj : tyi P t2 = some j)
  (hx1 : ρ x = .sl .full []) (hy1 : ρ y = .sl cc xs) (hne : xs ≠ []) (hn : h nid = none)
  (hk1 : i.kind = 4) (hk2 : j.kind = 4) (hk3 : i.esize ≠ 0) (hk4 : i.ezero.length = i.esize) (hk6 : xs.all (fun e => e.length == i.esize) = true)
  (hk8 : xs.length * i.ebytes ≤ 140737488355328) (hk9 : xs.length ≤ 140737488355328) :
  ∃ (q : Nat) (c : Value) (w' : World) (g' : G), (execOp ρc o).run P w = .ok (.value c) w' ∧ Ext g w g' w' ∧ Rel env g' w' (hset h nid (.box (xs.flatten ++ List.replicate q .undef))) ∧ RV g' w' c (.slb nid xs.length) := by
 obtain ⟨inf, d, z, i1, i2, i0, is, ib, ia, iz, _, ik4, _, _, _, _, _, iez⟩ := tyi_inv hi
 obtain ⟨e, rfl, hes, heb, _⟩ := ik4 hk1
 obtain ⟨inf2, d2, z2, j1, j2, j0, _, _, _, _, _, jk4, _⟩ := tyi_inv hj
 obtain ⟨e2, rfl, _⟩ := jk4 hk2
 obtain ⟨ie, de, he1, he2, he3⟩ := szOf_some (P := P) (t := e) (by rw [← hes]; exact hk3)
 have hez := (iez e (.inl rfl)).2 ie he1
 have hsz : ie.size = i.esize := by rw [he3, hes]
 obtain ⟨ze, hze, hzel⟩ : ∃ ze, ie.zero = some ze ∧ ze.cells.size = i.esize := by
  cases hz0 : ie.zero with
  | none => rw [hz0] at hez; rw [hez] at hk4; simp at hk4; exact absurd hk4.symm hk3
  | some ze => rw [hz0] at hez; rw [hez] at hk4; exact ⟨ze, rfl, by simpa using hk4⟩
 have hbytes : ie.bytes = i.ebytes := by rw [heb]; simp [bytesOf, he1]
 have hx := hρ x
 have hy := hρ y
 rw [hx1] at hx; rw [hy1] at hy
 generalize hcx : ρc x = vx at hx
 generalize hcy : ρc y = vy at hy
 cases hx with | sl a cap _ es k cs hke hcaps hruns hrs hccs => ?_
 cases hy with | sl a2 cap2 _ xs k2 cx hkx hcapx hrunx hrx hccx => ?_
 have hxs' : ∀ e ∈ xs, e.length = i.esize := by
  rw [List.all_eq_true] at hk6; intro e he; simpa using hk6 e he
 obtain ⟨b, off, rfl, hlx, hcellx⟩ := hrunx hne
 have hk2' : k2 = i.esize := by
  cases xs with
  | nil => exact absurd rfl hne
  | cons e0 _ => rw [← hkx e0 (by simp), hxs' e0 (by simp)]
 subst hk2'
 have hfx := flat_len xs i.esize hxs'
 have hc0 : cap = 0 := hccs
 subst hc0
 have hpos : 0 < xs.length := List.length_pos_iff.2 hne
 have hnc := nextcap_le xs.length 0 hpos
 generalize hq : w.tape w.drawn (.appendCap xs.length 0 e) % (9223372036854775808 - xs.length) = q
 let arr : Array Value := ((List.range (xs.length * ie.size)).map cx).toArray ++ Builtin.zeroCells ze.cells q
 have hrun : (execOp ρc o).run P w = .ok (.value (.slice (some ⟨w.heap.size, 0, none⟩) xs.length (xs.length + q))) (w.drew.alloc (.cells arr e)) := by
  have b1 : ¬ ((9223372036854775807 : Int) < (xs.length : Int) ∧ ie.bytes = 0) := by omega
  have b2 : ¬ (281474976710656 < Builtin.nextslicecap xs.length 0 * ie.bytes) := by
   rw [hbytes]
   have : Builtin.nextslicecap xs.length 0 * i.ebytes ≤ 2 * xs.length * i.ebytes := Nat.mul_le_mul_right _ hnc
   rw [Nat.mul_assoc] at this; omega
  have b3 : ¬ (xs.length ≤ 0) := by omega
  have f1 : (Builtin.firstCells ie.size 0 (.slice a 0 0)).run P w.drew = .ok #[] w.drew := by
   cases a with
   | none => simp [Builtin.firstCells]
   | some a => simp [Builtin.firstCells, loadCells, loadCellsFrom]
  have f2 := run_first (P := P) (g := g) (w := w) (a := some ⟨b, off, none⟩) (cap := cap2) (k := i.esize) (es := xs) (cell := cx) (fun _ => ⟨b, off, rfl, hlx, hcellx⟩) w.drew (fun _ => rfl)
  rw [← hsz] at f2
  simp [execOp, ho, resolve, invoke, builtin, Builtin.append_, run_underlying i2, run_underlying j2, run_sizeOf' he1, hcx, hcy, Builtin.lenOf, typeInfo, he1, b3, Question.forced, Question.cut]
  rw [if_neg (by omega)]
  rw [if_neg b1, if_neg b2, f1]
  simp only [Result.andThen_ok]
  rw [f2]
  simp [zeroValue, typeInfo, he1, hze, newRow, hq, arr]
 have hv : RVL g w.drew arr (xs.flatten ++ List.replicate (q * i.esize) .undef) := by
  have hx' := Ext.drew g w
  refine ⟨by simp only [arr, Array.size_append, zero_size, hzel, hsz]; simp [hfx], fun n c v hc hv => ?_⟩
  by_cases hlt : n < xs.flatten.length
  ·rw [List.getElem?_append_left hlt] at hv
   simp only [arr] at hc
   rw [Array.getElem?_append_left (by simp; rw [hsz]; omega)] at hc
   simp only [List.getElem?_toArray, List.getElem?_map] at hc
   rw [List.getElem?_range (by rw [hsz]; omega)] at hc
   simp only [Option.map_some, Option.some.injEq] at hc
   subst hc
   exact (hrx n v hv).mono hx'
  ·rw [List.getElem?_append_right (by omega), List.getElem?_replicate] at hv
   split at hv
   ·cases hv; exact .undef _
   ·cases hv
 obtain ⟨g', hx', hr', hv'⟩ := new_box (r.drew) hn hv e
 refine ⟨q * i.esize, _, _, g', hrun, (Ext.drew g w).trans hx', hr', ?_⟩
 generalize hp : Value.pointer (some ⟨w.drew.heap.size, 0, none⟩) = p at hv'
 cases hv' with
 | ptr _ _ hd =>
  simp only [Value.pointer.injEq, Option.some.injEq, Addr.mk.injEq] at hp
  rw [show w.heap.size = g'.loc nid from hp.1]
  exact .slb nid xs.length (xs.length + q) hd (by omega)
theorem aops_pre {P : Program} {env : Nat → Option (List V)} {ops : Array Oper} {gen reg : Nat} {K : St → Prop} :
  ∀ (rest : List Oper) (i : Nat) (log : List LogE) (σ : St), (∀ j o, rest[j]? = some o → ops[i + j]? = some o) → aops P env ops false gen reg rest i log K σ →
   ∃ l σe, l.map (·.1) = (List.range rest.length).map (i + ·) ∧ Chain P env ops gen reg l σ σe ∧ K σe
 | [], i, log, σ, _, h => ⟨[], σ, rfl, .nil σ, h⟩
 | o :: rest, i, log, σ, hr, h => by
  have ho : ops[i]? = some o := by have := hr 0 o; simpa using this
  have hr' : ∀ j p, rest[j]? = some p → ops[i + 1 + j]? = some p := fun j p hp => by
   have := hr (j + 1) p (by simpa using hp)
   rw [show i + (j + 1) = i + 1 + j by omega] at this
   exact this
  have hidx : i :: (List.range rest.length).map (i + 1 + ·) = (List.range (o :: rest).length).map (i + ·) := by
   rw [List.length_cons, List.range_succ_eq_map, List.map_cons, List.map_map]
   simp only [Nat.add_zero]
   congr 1
   apply List.map_congr_left
   intro j _; simp; omega
  rcases aops_stp h with ⟨hg, h'⟩ | ⟨hg, e, hs, hlog, h'⟩
  ·obtain ⟨l, σe, h1, h2, h3⟩ := aops_pre rest (i + 1) log _ hr' h'
   exact ⟨(i, none) :: l, σe, by rw [List.map_cons, h1]; exact hidx, .cons _ _ _ _ _ ⟨o, ho, hg, rfl⟩ h2, h3⟩
  ·obtain ⟨l, σe, h1, h2, h3⟩ := aops_pre rest (i + 1) _ _ hr' h'
   exact ⟨(i, some e) :: l, σe, by rw [List.map_cons, h1]; exact hidx, .cons _ _ _ _ _ ⟨o, ho, hg, hs, rfl⟩ h2, h3⟩
theorem chain_app {P : Program} {env : Nat → Option (List V)} {ops : Array Oper} {gen reg n : Nat} (hn : dstOk n ops = true) (l2 : List Nat) :
  ∀ (l : List (Nat × Option Eff)) {σ σe : St} (h : Chain P env ops gen reg l σ σe) {g : G} {w : World} {a : Act} (r : RelSt env n g w a σ)
  {Q : Exit → Act → World → Prop} (hk : ∀ g' a' w', Ext g w g' w' → RelSt env n g' w' a' σe → wpOps P ops Q l2 a' w'), wpOps P ops Q (l.map (·.1) ++ l2) a w
 | [], _, _, .nil _, g, w, a, r, Q, hk => hk g a w (Ext.refl g w) r
 | x :: l, _, _, .cons _ _ _ σ1 _ hs t, g, w, a, r, Q, hk => by
  rw [List.map_cons, List.cons_append, wpOps_cons]
  exact cstep_wp hn hs r fun g' a' w' hx r' => chain_app hn l2 l t r' fun g2 a2 w2 hx2 r2 => hk g2 a2 w2 (hx.trans hx2) r2
/-- What is asked of an 'append' that makes a new box. -/
structure AppOk (P : Program) (s x : V) (T U : Option TyI) (xs : List (List V)) : Prop where
 s : s = .sl .full []
 x : ∃ cc, x = .sl cc xs
 ne : xs ≠ []
 ty : ∃ i j, T = some i ∧ U = some j ∧ i.kind = 4 ∧ j.kind = 4 ∧ i.esize ≠ 0 ∧ i.ezero.length = i.esize ∧ xs.all (fun e => e.length == i.esize) = true ∧ xs.length * i.ebytes ≤ 140737488355328 ∧ xs.length ≤ 140737488355328
/-- A region with an 'append' to nil whose row is stored into later: a new box. -/
theorem AR_region_app {c : Ctx} {gen : Nat} {k : List It} {σ : St} {id : Nat} {ops : Array Oper} (j : Nat) {o : Oper} {x y : Operand} {t t2 : TypeId} {d : Nat} (hops : ops[j]? = some o) (hg : o.guard = none) (hdst : o.dst = some d)
  (hop : o.op = .call { callee := .builtin .append, args := #[x, y], argTypes := #[t, t2] })
  (h : aops c.P c.env ops false gen id (ops.toList.take j) 0 [] (fun σ1 => ∃ xs, AppOk c.P (av c.env σ1.tm x) (av c.env σ1.tm y) (tyi c.P t) (tyi c.P t2) xs ∧ σ1.h ⟨gen, id, j⟩ = none ∧
   ∀ q, aops c.P c.env ops false gen id (ops.toList.drop (j + 1)) (j + 1) [] (fun σ' => AR c gen k .normal σ')
    ⟨upd σ1.tm (some d) (.slb ⟨gen, id, j⟩ xs.length), hset σ1.h ⟨gen, id, j⟩ (.box (xs.flatten ++ List.replicate q .undef))⟩) σ) :
  AR c gen (.code (.region id ops false) :: k) .normal σ := by
 rw [← hdst] at h
 intro ok hm g a w hx r
 simp only [okStk, okCode, Bool.and_eq_true] at ok
 obtain ⟨⟨hd, _⟩, okk⟩ := ok
 have hj : j < ops.size := (Array.getElem?_eq_some_iff.1 hops).1
 obtain ⟨l1, σ1, h1, h2, xs, hA, hnone, hq⟩ := aops_pre (ops.toList.take j) 0 [] σ (fun i o h => by
  rw [List.getElem?_take] at h
  split at h
  ·simpa using h
  ·cases h) h
 have hl1 : l1.map (·.1) = List.range j := by
  rw [h1, List.length_take]
  rw [Nat.min_eq_left (by simpa using Nat.le_of_lt hj)]
  simp
 refine wp_region ?_
 have hsplit : List.range ops.size = List.range j ++ (j :: (List.range (ops.size - (j + 1))).map (j + 1 + ·)) := by
  apply List.ext_getElem?
  intro i
  by_cases hi : i < j
  ·rw [List.getElem?_append_left (by simpa using hi), List.getElem?_range (by omega), List.getElem?_range hi]
  ·rw [List.getElem?_append_right (by simpa using hi)]
   simp only [List.length_range]
   rcases Nat.eq_or_lt_of_le (Nat.le_of_not_lt hi) with e | hlt
   ·subst e; simp [hj]
   ·obtain ⟨m, rfl⟩ : ∃ m, i = j + 1 + m := ⟨i - (j + 1), by omega⟩
    rw [show j + 1 + m - j = m + 1 by omega, List.getElem?_cons_succ]
    by_cases hm : m < ops.size - (j + 1)
    ·rw [List.getElem?_map, List.getElem?_range hm, List.getElem?_range (by omega)]; simp
    ·rw [List.getElem?_eq_none (by simp; omega), List.getElem?_eq_none (by simp; omega)]
 rw [hsplit, ← hl1]
 refine chain_app hd _ l1 h2 r fun g' a' w' hx' r' => ?_
 rw [wpOps_cons]
 unfold wpOp
 rw [hops]
 have hw : Region.wanted o (yielded ops a'.tmps) = true := by unfold Region.wanted; rw [hg]
 simp only [hw, if_true]
 obtain ⟨a1, ⟨cc, a2⟩, a3, i, jj, t1, t2', k1, k2, k3, k4, k6, k8, k9⟩ := hA
 obtain ⟨q, cv, w2, g2, hrun, hx2, hr2, hv2⟩ := append_box (ρc := a'.eval) (ρ := av c.env σ1.tm) r'.rel (fun x => rv_av r' x) hop t1 t2' a1 a2 a3 hnone k1 k2 k3 k4 k6 k8 k9
 refine .inl ?_
 simp only [Oper.wp, hrun, Oper.upon_value]
 have r2 := r'.put hx2 (d := o.dst) (fun t ht => dstOk_at hd hops t ht) hr2 hv2
 obtain ⟨l3, σ3, h3, h4, h5⟩ := aops_pre (ops.toList.drop (j + 1)) (j + 1) [] _ (fun i o h => by
  rw [List.getElem?_drop] at h
  simpa using h) (hq q)
 have hl3 : l3.map (·.1) = (List.range (ops.size - (j + 1))).map (j + 1 + ·) := by
  rw [h3, List.length_drop]; simp
 rw [← hl3]
 exact chain_ops hd l3 h4 r2 fun g3 a3 w3 hx3 r3 => h5 okk hm g3 a3 w3 (((hx.trans hx').trans hx2).trans hx3) r3
/-- A value when the box of its row becomes immutable. -/
def Fz (id : Id) (n : Nat) (rows : List (List V)) (v v' : V) : Prop := v' = .undef ∨ v' = v ∨ (v = .slb id n ∧ v' = .sl .any rows)
theorem RV.freeze {g g' : G} {w : World} {S : Id → Prop} (hl : ∀ b, g.lim b ≤ g'.lim b) (hS : ∀ id, S id → g'.dom id = true ∧ g'.loc id = g.loc id ∧ g'.buf id = g.buf id)
  {c : Value} {v : V} (h : RV g w c v) (hin : InV S v) : RV g' w c v := by
 induction h with
 | undef c => exact .undef c
 | bool b => exact .bool b
 | int k n => exact .int k n
 | str s => exact .str s
 | agg vs cs h _ ih => rw [InV] at hin; exact .agg vs cs h fun i c v hc hv => ih i c v hc hv (InL_get hin hv)
 | tup vs cs h _ ih => rw [InV] at hin; exact .tup vs cs h fun i c v hc hv => ih i c v hc hv (InL_get hin hv)
 | sl a cap c es k cell hk hcap hrun _ hc ih =>
  rw [InV] at hin
  refine .sl a cap c es k cell hk hcap (fun hne => ?_) (fun i v hv => ih i v hv (InL_get (InLL_flat.1 hin.2) hv)) ?_
  ·obtain ⟨b, off, e, h1, h2⟩ := hrun hne
   exact ⟨b, off, e, Nat.le_trans h1 (hl b), h2⟩
  cases c with
  | any => trivial
  | full => exact hc
  | own id =>
   obtain ⟨a1, a2, a3⟩ := hS id hin.1
   exact ⟨a1, by rw [a3]; exact hc.2⟩
 | ptr id off h => rw [InV] at hin; rw [← (hS id hin).2.1]; exact .ptr id off (hS id hin).1
 | slb id n cap h h2 => rw [InV] at hin; rw [← (hS id hin).2.1]; exact .slb id n cap (hS id hin).1 h2
 | el b off cs o cell hlm hrun _ ih => rw [InV] at hin; exact .el b off cs o cell (Nat.le_trans hlm (hl b)) hrun fun i v hv => ih i v hv (InL_get hin hv)
 | nilp => exact .nilp
 | fn f fs cs fs' cs' h1 h2 _ _ ih1 ih2 =>
  rw [InV] at hin
  exact .fn f fs cs fs' cs' h1 h2 (fun i c v hc hv => ih1 i c v hc hv (InL_get hin.1 hv)) (fun i c v hc hv => ih2 i c v hc hv (InL_get hin.2 hv))
 | nilf => exact .nilf
 | iface t c v _ ih => rw [InV] at hin; exact .iface t c v (ih hin)
 | nili => exact .nili
/-- A row that was stored into becomes immutable; what is kept must not mention its box. -/
theorem AR_freeze {c : Ctx} {gen : Nat} {k : List It} {e : Exit} {σ : St} (id : Id) {n kk : Nat} {rows : List (List V)} {cs : List V} {tm' : Nat → V} {h' : H}
  (hrel0 : Rel c.env c.g0 c.w0 c.h0) (hb : σ.h id = some (.box cs)) (hrows : cs.take (n * kk) = rows.flatten) (hlen : rows.length = n) (hk : ∀ r ∈ rows, r.length = kk) (hle : n * kk ≤ cs.length)
  (hrin : InLL (fun j => h' j ≠ none) rows) (hid : h' id = none)
  (hh : ∀ j, h' j ≠ none → (h' j = σ.h j ∧ ∀ bs, h' j = some (.box bs) → c.h0 j = some (.box bs)) ∨
   ∃ bs bs', σ.h j = some (.box bs) ∧ h' j = some (.box bs') ∧ bs.length = bs'.length ∧ (∀ (i : Nat) v v', bs[i]? = some v → bs'[i]? = some v' → Fz id n rows v v') ∧ InL (fun j => h' j ≠ none) bs')
  (hdom : ∀ j, c.h0 j ≠ none → h' j ≠ none) (htm : ∀ t, Fz id n rows (σ.tm t) (tm' t) ∧ InV (fun j => h' j ≠ none) (tm' t))
  (h : AR c gen k e ⟨tm', h'⟩) : AR c gen k e σ := by
 intro ok hm g a w hx r
 have q := r.rel
 obtain ⟨vs, ⟨ty, b1⟩, b2, b3, b4, b5⟩ := q.box id cs hb
 let g' : G := { g with dom := fun j => decide (h' j ≠ none), lim := fun b => if b = g.loc id then n * kk else g.lim b }
 have hl : ∀ b, g.lim b ≤ g'.lim b := fun b => by
  show g.lim b ≤ if b = g.loc id then n * kk else g.lim b
  split
  ·rename_i e; rw [e, b4]; omega
  ·exact Nat.le_refl _
 have hlo : ∀ b, b ≠ g.loc id → g'.lim b = g.lim b := fun b hb => by show (if b = g.loc id then _ else g.lim b) = _; rw [if_neg hb]
 have hS : ∀ j, h' j ≠ none → g'.dom j = true ∧ g'.loc j = g.loc j ∧ g'.buf j = g.buf j := fun j hj => ⟨by show decide (h' j ≠ none) = true; simpa using hj, rfl, rfl⟩
 have hmv : ∀ {c : Value} {v : V}, RV g w c v → InV (fun j => h' j ≠ none) v → RV g' w c v := fun h1 h2 => h1.freeze hl hS h2
 have hsame : ∀ j, h' j ≠ none → ∃ ob, σ.h j = some ob := fun j hj => by
  rcases hh j hj with ⟨h1, _⟩ | ⟨bs, bs', h1, _⟩
  ·rw [← h1]; cases hj' : h' j with
   | none => exact absurd hj' hj
   | some ob => exact ⟨ob, rfl⟩
  ·exact ⟨_, h1⟩
 have hx' : Ext c.g0 c.w0 g' w := by
  refine ⟨hx.os, hx.tape, hx.output, hx.size, fun b => Nat.le_trans (hx.lim b) (hl b), hx.cells, hx.wr, fun j hj => ?_, hx.top⟩
  obtain ⟨_, a2, a3⟩ := hx.dom j hj
  exact ⟨by show decide (h' j ≠ none) = true; simpa using hdom j ((hrel0.dom j).1 hj), a2, a3⟩
 have hrow : ∀ cap, n ≤ cap → RV g' w (.slice (some ⟨g.loc id, 0, none⟩) n cap) (.sl .any rows) := fun cap hcap => by
  have hfl := flat_len rows kk hk
  rw [hlen] at hfl
  rw [← hlen]
  refine .sl _ cap .any rows kk (fun i => vs[i]?.getD undef) hk (by omega) (fun _ => ⟨g.loc id, 0, rfl, ?_, fun i hi => ?_⟩) (fun i v hv => ?_) trivial
  ·show 0 + _ ≤ if g.loc id = g.loc id then n * kk else _
   rw [if_pos rfl, hlen]; omega
  ·rw [Nat.zero_add]
   have : i < vs.size := by rw [b2]; rw [hlen] at hi; omega
   simp [World.cell?, b1, this]
  ·have hv' : cs[i]? = some v := by
    rw [← hrows, List.getElem?_take] at hv
    split at hv
    ·exact hv
    ·cases hv
   obtain ⟨c0, hc1, hc2⟩ := (show RVL g w vs cs from ⟨b2, b3⟩).at hv'
   simp only [hc1, Option.getD_some]
   exact hmv hc2 (InL_get (InLL_flat.1 hrin) hv)
 have hfz : ∀ {cv : Value} {v v' : V}, RV g w cv v → Fz id n rows v v' → InV (fun j => h' j ≠ none) v' → RV g' w cv v' := by
  intro cv v v' h1 h2 h3
  rcases h2 with rfl | rfl | ⟨rfl, rfl⟩
  ·exact .undef _
  ·exact hmv h1 h3
  ·cases h1 with
   | slb _ _ cap _ hcap => exact hrow cap hcap
 have hboxes : ∀ j bs', h' j = some (.box bs') → ∃ bs, σ.h j = some (.box bs) ∧ bs.length = bs'.length ∧ ∀ (vs : Array Value), RVL g w vs bs → RVL g' w vs bs' := by
  intro j bs' e'
  rcases hh j (by rw [e']; simp) with ⟨h1, h2⟩ | ⟨bs, bs2, h1, h2, h3, h4, h5⟩
  ·have h0 := h2 bs' e'
   refine ⟨bs', by rw [← h1]; exact e', rfl, fun vs hv => ⟨hv.1, fun i cv v hc hv' => hmv (hv.2 i cv v hc hv') ?_⟩⟩
   obtain ⟨vs0, _, z2, z3, _⟩ := hrel0.box j bs' h0
   obtain ⟨c0, hc0⟩ := RVL_get (g := c.g0) (w := c.w0) z2 hv'
   have := (z3 i c0 v hc0 hv').inV
   exact InV_mono (fun id hid => hdom id ((hrel0.dom id).1 hid)) v this
  ·rw [e'] at h2; cases h2
   refine ⟨bs, h1, h3, fun vs hv => ⟨by rw [hv.1, h3], fun i cv v hc hv' => ?_⟩⟩
   have hi : i < bs.length := by rw [h3]; exact (List.getElem?_eq_some_iff.1 hv').1
   have hbi : bs[i]? = some bs[i] := List.getElem?_eq_getElem hi
   exact hfz (hv.2 i cv _ hc hbi) (h4 i _ _ hbi hv') (InL_get h5 hv')
 have hne : ∀ j bs', h' j = some (.box bs') → g.loc j ≠ g.loc id := fun j bs' e' e2 => by
  obtain ⟨bs, h1, _⟩ := hboxes j bs' e'
  have := q.inj j id bs cs h1 hb e2
  rw [this, hid] at e'; cases e'
 have htok : ∀ j n' k', h' j = some (.tok n' k') → σ.h j = some (.tok n' k') := fun j n' k' e' => by
  rcases hh j (by rw [e']; simp) with ⟨h1, _⟩ | ⟨bs, bs2, _, h2, _⟩
  ·rw [← h1]; exact e'
  ·rw [e'] at h2; cases h2
 refine h ok hm g' a w hx' ⟨?_, fun t => ?_, r.size, r.defers⟩
 ·refine ⟨fun j => by show decide (h' j ≠ none) = true ↔ _; simp, fun j hj => ?_, ?_, ?_, ?_, ?_, ?_, ?_, ?_⟩
  ·obtain ⟨ob, ho⟩ := hsame j hj
   exact q.top j (by rw [ho]; simp)
  ·intro j bs' e'
   obtain ⟨bs, h1, h2, h3⟩ := hboxes j bs' e'
   obtain ⟨vs', c1, c2, c3, c4, c5⟩ := q.box j bs h1
   have := h3 vs' ⟨c2, c3⟩
   exact ⟨vs', c1, this.1, this.2, by show g'.lim (g.loc j) = 0; rw [hlo _ (hne j bs' e')]; exact c4, c5⟩
  ·intro i1 i2 c1 c2 e1 e2 e3
   obtain ⟨d1, f1, _⟩ := hboxes i1 c1 e1
   obtain ⟨d2, f2, _⟩ := hboxes i2 c2 e2
   exact q.inj i1 i2 d1 d2 f1 f2 e3
  ·intro j n' k' e'
   obtain ⟨h1, h2, h3, hk⟩ := q.tok j n' k' (htok j n' k' e')
   refine ⟨h1, h2, fun hlt => ?_, hk⟩
   obtain ⟨b, off, vs', s1, s2, s3, s4, s5⟩ := h3 hlt
   have := q.apart j id n' k' cs (htok j n' k' e') hlt hb _ s1
   exact ⟨b, off, vs', s1, s2, s3, by rw [hlo b this]; exact s4, s5⟩
  ·intro i1 i2 n' k' c' e1 hlt e2
   obtain ⟨d2, f2, _⟩ := hboxes i2 c' e2
   exact q.apart i1 i2 n' k' d2 (htok i1 n' k' e1) hlt f2
  ·intro i1 i2 n1 n2 k1 k2 e1 hlt e2 hlt2
   exact q.apart2 i1 i2 n1 n2 k1 k2 (htok _ _ _ e1) hlt (htok _ _ _ e2) hlt2
  ·intro b hb'
   rw [hlo b (by have := q.lt hb; omega)]; exact q.limnew b hb'
  ·intro k cs' e'
   refine hmv (q.glob k cs' e') ?_
   have := (hrel0.glob k cs' e').inV
   exact InV_mono (fun id hid => hdom id ((hrel0.dom id).1 hid)) _ this
 ·exact hfz (r.tm t) (htm t).1 (htm t).2
/-- As 'AR_freeze', with lists: the values and the boxes that are kept. -/
theorem AR_freezeL {c : Ctx} {gen : Nat} {k : List It} {e : Exit} {σ : St} (id : Id) (n kk : Nat) (rows : List (List V)) (L : List (Nat × V)) (B : List (Id × List V × List V)) {cs : List V} {h' : H} {tm' : Nat → V}
  (hh' : h' = B.foldr (fun b h => hset h b.1 (.box b.2.2)) c.h0) (htm' : tm' = L.foldr (fun p tm => upd tm (some p.1) p.2) (fun _ => .undef))
  (hrel0 : Rel c.env c.g0 c.w0 c.h0) (hb : σ.h id = some (.box cs)) (hrows : cs.take (n * kk) = rows.flatten) (hlen : rows.length = n) (hk : ∀ r ∈ rows, r.length = kk) (hle : n * kk ≤ cs.length)
  (h0 : c.h0 id = none) (hnot : ∀ b ∈ B, b.1 ≠ id) (hag : Agree c.h0 σ.h)
  (hrin : InLL (fun j => h' j ≠ none) rows)
  (hB : ∀ b ∈ B, c.h0 b.1 = none ∧ σ.h b.1 = some (.box b.2.1) ∧ b.2.1.length = b.2.2.length ∧ (∀ p ∈ b.2.1.zip b.2.2, Fz id n rows p.1 p.2) ∧ InL (fun j => h' j ≠ none) b.2.2)
  (hL : ∀ p ∈ L, Fz id n rows (σ.tm p.1) p.2 ∧ InV (fun j => h' j ≠ none) p.2)
  (h : AR c gen k e ⟨tm', h'⟩) : AR c gen k e σ := by
 have key : ∀ (B' : List (Id × List V × List V)) (j : Id), (B'.foldr (fun b h => hset h b.1 (.box b.2.2)) c.h0) j = c.h0 j ∨ ∃ b ∈ B', b.1 = j ∧ (B'.foldr (fun b h => hset h b.1 (.box b.2.2)) c.h0) j = some (.box b.2.2) := by
  intro B' j
  induction B' with
  | nil => exact .inl rfl
  | cons b B' ih =>
   by_cases hj : j = b.1
   ·right; exact ⟨b, by simp, hj.symm, by simp only [List.foldr_cons]; rw [hj, hset_same]⟩
   ·simp only [List.foldr_cons]
    rw [hset_other hj]
    rcases ih with h | ⟨b', h1, h2, h3⟩
    ·exact .inl h
    ·exact .inr ⟨b', by simp [h1], h2, h3⟩
 have keyT : ∀ (L' : List (Nat × V)) (t : Nat), (L'.foldr (fun p tm => upd tm (some p.1) p.2) (fun _ => V.undef)) t = .undef ∨ ∃ p ∈ L', p.1 = t ∧ (L'.foldr (fun p tm => upd tm (some p.1) p.2) (fun _ => V.undef)) t = p.2 := by
  intro L' t
  induction L' with
  | nil => exact .inl rfl
  | cons p L' ih =>
   simp only [List.foldr_cons, upd]
   by_cases ht : t = p.1
   ·right; exact ⟨p, by simp, ht.symm, by rw [if_pos ht]⟩
   ·rw [if_neg ht]
    rcases ih with h | ⟨b', h1, h2, h3⟩
    ·exact .inl h
    ·exact .inr ⟨b', by simp [h1], h2, h3⟩
 refine AR_freeze id hrel0 hb hrows hlen hk hle hrin ?_ ?_ ?_ ?_ h
 ·rcases key B id with h1 | ⟨b, h1, h2, _⟩
  ·rw [hh', h1]; exact h0
  ·exact absurd h2 (hnot b h1)
 ·intro j hj
  rcases key B j with h1 | ⟨b, h1, h2, h3⟩
  ·left
   have e1 : h' j = c.h0 j := by rw [hh']; exact h1
   rw [e1] at hj ⊢
   exact ⟨(hag j hj).symm, fun bs hbs => hbs⟩
  ·right
   obtain ⟨_, b1, b2, b3, b4⟩ := hB b h1
   subst h2
   refine ⟨_, _, b1, by rw [hh']; exact h3, b2, fun i v v' hv hv' => ?_, b4⟩
   refine b3 (v, v') ?_
   have : (b.2.1.zip b.2.2)[i]? = some (v, v') := by rw [List.getElem?_zip_eq_some]; exact ⟨hv, hv'⟩
   exact List.mem_of_getElem? this
 ·intro j hj
  rcases key B j with h1 | ⟨b, h1, h2, h3⟩
  ·rw [hh', h1]; exact hj
  ·rw [hh', h3]; simp
 ·intro t
  rcases keyT L t with h1 | ⟨p, h1, h2, h3⟩
  ·rw [htm', h1]; exact ⟨.inl rfl, by rw [InV]; trivial⟩
  ·subst h2
   rw [htm', h3]; exact hL p h1
end GoAbs
namespace GoAbs
open Go
/-- What is kept of a closed term. -/
structure TmC (t : Tm) (s : Ty) : Prop where
 ty : HasTy TyG [] t s
 gd : TmG t
 sz : tmSz t ≤ 4096
end GoAbs
namespace GoAbs
open Go
theorem HasTy.pIn_id {Q : Ty → Prop} {x : Tm} {g : List Ty} {t : Tm} {s : Ty} (h : HasTy Q g t s) : ∀ e : Int, (g.length : Int) ≤ e → pIn x t e = t := by
 induction h with
 | @var g i t hi hg =>
  intro e he
  rw [pIn_var, if_neg (by omega), if_neg (by omega)]
 | @lam g a c t hG _ ih =>
  intro e he
  rw [pIn_node (by decide), show tmBelow 2 = 1 from rfl]
  simp only [List.map_cons, List.map_nil, ih (e + 1) (by simp; omega)]
 | @n0 g k ty s hN =>
  intro e he
  have hk : k ≠ 1 := by cases hN <;> decide
  rw [pIn_node hk]; rfl
 | @n1 g k ty s a x' hN _ ih =>
  intro e he
  have hk : k ≠ 1 := by cases hN <;> decide
  have hk2 : tmBelow k = 0 := by cases hN <;> rfl
  rw [pIn_node hk, hk2]
  simp only [List.map_cons, List.map_nil, Int.add_zero, ih e he]
 | @n2 g k ty s a b x' y hN _ _ ih1 ih2 =>
  intro e he
  have hk : k ≠ 1 := by cases hN <;> decide
  have hk2 : tmBelow k = 0 := by cases hN <;> rfl
  rw [pIn_node hk, hk2]
  simp only [List.map_cons, List.map_nil, Int.add_zero, ih1 e he, ih2 e he]
 | @n3 g k ty s a b c x' y z hN _ _ _ ih1 ih2 ih3 =>
  intro e he
  have hk : k ≠ 1 := by cases hN <;> decide
  have hk2 : tmBelow k = 0 := by cases hN <;> rfl
  rw [pIn_node hk, hk2]
  simp only [List.map_cons, List.map_nil, Int.add_zero, ih1 e he, ih2 e he, ih3 e he]
theorem par_root {k : Int} {ty : Ty} {l : List Tm} {r : Tm} (hl : ∀ x ∈ l, TmG x) (h : Rdx k ty l r) : Par (tmT k ty l) r :=
 .red rfl (fun i x x' h1 h2 => by rw [h1] at h2; cases h2; exact Par.refl (hl x (List.mem_of_getElem? h1))) h h
theorem all3 {P : Tm → Prop} {a b c : Tm} (h1 : P a) (h2 : P b) (h3 : P c) : ∀ x ∈ [a, b, c], P x := by
 intro x hx
 simp only [List.mem_cons, List.not_mem_nil, or_false] at hx
 rcases hx with rfl | rfl | rfl
 ·exact h1
 ·exact h2
 ·exact h3
theorem all2 {P : Tm → Prop} {a b : Tm} (h1 : P a) (h2 : P b) : ∀ x ∈ [a, b], P x := by
 intro x hx
 simp only [List.mem_cons, List.not_mem_nil, or_false] at hx
 rcases hx with rfl | rfl
 ·exact h1
 ·exact h2
theorem star_choose {t : Ty} {s s' : Ty} {a b : Tm} (gt : TyG t) (ha : HasTy TyG [] a s) (hb : HasTy TyG [] b s') (ga : TmG a) (gb : TmG b) : ∀ n, Star (chooseT t (numT n) a b) (if n = 0 then b else a)
 | 0 => .one (par_root (all3 (gb) (.lam .nat (.lam gt ga)) (.t0 ar4 rfl)) .rec0)
 | n + 1 => by
  have gf : TmG (tmT 2 tNat [tmT 2 t [a]]) := .lam .nat (.lam gt ga)
  have gR : TmG (tmT 6 t [b, tmT 2 tNat [tmT 2 t [a]], numT n]) := .recr gt gb gf (numT_G n)
  have h1 : Par (chooseT t (numT (n + 1)) a b) (tm0 3 [tm0 3 [tmT 2 tNat [tmT 2 t [a]], numT n], tmT 6 t [b, tmT 2 tNat [tmT 2 t [a]], numT n]]) :=
   par_root (all3 (gb) (gf) (numT_G (n + 1))) (.recS (ty' := .mk 0 []))
  have h2 : Par (tm0 3 [tmT 2 tNat [tmT 2 t [a]], numT n]) (tmT 2 t [a]) := by
   have := par_root (k := 3) (ty := .mk 0 []) (l := [tmT 2 tNat [tmT 2 t [a]], numT n]) (all2 (gf) (numT_G n)) (.beta)
   rw [pIn_node (by decide), show tmBelow 2 = 1 from rfl] at this
   simp only [List.map_cons, List.map_nil, ha.pIn_id (0 + 1) (by simp)] at this
   exact this
  have h3 : Par (tm0 3 [tmT 2 t [a], tmT 6 t [b, tmT 2 tNat [tmT 2 t [a]], numT n]]) a := by
   have := par_root (k := 3) (ty := .mk 0 []) (l := [tmT 2 t [a], tmT 6 t [b, tmT 2 tNat [tmT 2 t [a]], numT n]]) (all2 (.lam gt ga) (gR)) (.beta)
   rw [ha.pIn_id 0 (by simp)] at this
   exact this
  rw [if_neg (by omega)]
  exact .step h1 (.step (par2 (by decide) h2 (Par.refl gR)) (.one h3))
theorem mk_TmC2 {t : Ty} {a : Tm} (ht : MkTy 1 t) (ma : MkTm 2 [] t a) : TmC a t := by
 have gt := ht.G (by omega)
 have zt := ht.sz1
 obtain ⟨ra, za, ta⟩ := mk_term (by omega) (g := []) (by simp) (by simp) gt (by omega) ma
 exact ⟨ta, ra.gd, by omega⟩
theorem law_trIf {t : Ty} {a b : Tm} {n : Nat} (hn : n ≤ 10) (ht : MkTy 1 t) (ma : MkTm 2 [] t a) (mb : MkTm 2 [] t b) :
  ifF t (numT n) a b = (chooseT t (numT n) a b, 0) ∧ TmC (chooseT t (numT n) a b) t ∧ TmC (if n = 0 then b else a) t ∧
  (matchN 11 (chooseT t (numT n) a b) (if n = 0 then b else a) = 0 ∨ matchN 11 (chooseT t (numT n) a b) (if n = 0 then b else a) = 5 ∨ matchN 11 (chooseT t (numT n) a b) (if n = 0 then b else a) = 4) := by
 have gt := ht.G (by omega)
 have zt := ht.sz1
 obtain ⟨ra, za, ta⟩ := mk_term (by omega) (g := []) (by simp) (by simp) gt (by omega) ma
 obtain ⟨rb, zb, tb⟩ := mk_term (by omega) (g := []) (by simp) (by simp) gt (by omega) mb
 have zn := tmSz_num n
 have hu : a.up 2 0 = a := by have := ta.up_id (b := 2) (by simp; omega); simpa using this
 have gx := chooseT_G gt (numT_G n) ra.gd rb.gd
 have zx : tmSz (chooseT t (numT n) a b) ≤ 4096 := by rw [chooseT_sz]; omega
 have f2 : TyG (tFun t t) := .fun' gt.1 gt.1 (by omega)
 have f3 : TyG (tFun tNat (tFun t t)) := .fun' .nat f2.1 (by rw [tySz_fun, tySz_nat]; omega)
 have ta2 : HasTy TyG ([] ++ [tNat] ++ [t]) a t := by
  have := ta.upl (m := [tNat, t]) [] [] (by simp) (by simp; omega) (by simp) (by simp)
  rw [show ((([tNat, t] : List Ty).length : Nat) : Int) = 2 from rfl, show ((([] : List Ty).length : Nat) : Int) = 0 from rfl, hu] at this
  simpa using this
 have tx : HasTy TyG [] (chooseT t (numT n) a b) t := chooseT_ty f3 f2 (.num n) ta2 tb
 refine ⟨?_, ⟨tx, gx, zx⟩, ?_, ?_⟩
 ·rw [ifF_6 gt.err ((numT_G n).err0 (by omega)) (ra.gd.err0 (by omega)) (rb.gd.err0 (by omega)) (ta.least 268435456 (by omega) (by simp; omega)), hu, cutT_G gx (by omega), if_pos zx]
 ·split
  ·exact ⟨tb, rb.gd, by omega⟩
  ·exact ⟨ta, ra.gd, by omega⟩
 ·have hs := star_choose gt ta tb ra.gd rb.gd n
  by_cases h0 : n = 0
  ·rw [if_pos h0] at hs ⊢
   exact match_jn (g := []) (by simp) tx tb gx rb.gd zx (by omega) ⟨_, hs, .refl _⟩
  ·rw [if_neg h0] at hs ⊢
   exact match_jn (g := []) (by simp) tx ta gx ra.gd zx (by omega) ⟨_, hs, .refl _⟩
end GoAbs
namespace GoAbs
open Go
theorem pIn_choose {s : Tm} {t : Ty} {c a b : Tm} {e : Int} : pIn s (chooseT t c a b) e = chooseT t (pIn s c e) (pIn s a (e + 2)) (pIn s b e) := by
 rw [chooseT, pIn_node (by decide), show tmBelow 6 = 0 from rfl]
 simp only [List.map_cons, List.map_nil, Int.add_zero]
 rw [pIn_node (by decide), show tmBelow 2 = 1 from rfl]
 simp only [List.map_cons, List.map_nil]
 rw [pIn_node (by decide), show tmBelow 2 = 1 from rfl]
 simp only [List.map_cons, List.map_nil]
 rw [show e + 1 + 1 = e + 2 by omega]
 rfl
theorem pIn_eqT {s x y : Tm} {e : Int} (he : 0 ≤ e) : pIn s (eqT x y) e = eqT (pIn s x e) (pIn s y e) := by
 have h1 : pIn s distT e = distT := (distT_ty (g := [])).pIn_id e (by simp; omega)
 have h2 : pIn s oneT e = oneT := (oneT_ty (g := [])).pIn_id e (by simp; omega)
 have h3 : pIn s (tm0 4 []) (e + 2) = tm0 4 [] := by rw [pIn_tm0 (by decide)]; rfl
 rw [eqT, pIn_choose, h2, h3, pIn_tm0 (by decide), show tmBelow 3 = 0 from rfl]
 simp only [List.map_cons, List.map_nil, Int.add_zero]
 rw [pIn_tm0 (by decide), show tmBelow 3 = 0 from rfl]
 simp only [List.map_cons, List.map_nil, Int.add_zero, h1]
 rfl
theorem pIn_else {s : Tm} {k e : Int} (he : 0 ≤ e) : pIn s (elseT k) e = elseT k := (elseT_ty (g := []) (k := k)).pIn_id e (by simp; omega)
/-- A formula with two equations over one number. -/
theorem two_C {k : Int} {x1 y1 x2 y2 : Tm} (hk : k = 2 ∨ k = 3) (h1 : MkTm 1 [tNat] tNat x1) (h2 : MkTm 1 [tNat] tNat y1) (h3 : MkTm 1 [tNat] tNat x2) (h4 : MkTm 1 [tNat] tNat y2) :
  FmG true (fmTwo k (fmEq x1 y1) (fmEq x2 y2)) ∧ fmSz (fmTwo k (fmEq x1 y1) (fmEq x2 y2)) ≤ 4096 ∧ (fmTwo k (fmEq x1 y1) (fmEq x2 y2)).mfree = true ∧ (fmTwo k (fmEq x1 y1) (fmEq x2 y2)).least 268435456 = true ∧
  TmR 10000 x1 ∧ TmR 10000 y1 ∧ TmR 10000 x2 ∧ TmR 10000 y2 := by
 have hg : ∀ y ∈ [tNat], MkTy 1 y := by intro y hy; simp at hy; subst hy; exact .nat
 have n3 := tySz_nat
 obtain ⟨r1, z1, t1⟩ := mk_term (by omega) hg (by simp) .nat (by omega) h1
 obtain ⟨r2, z2, t2⟩ := mk_term (by omega) hg (by simp) .nat (by omega) h2
 obtain ⟨r3, z3, t3⟩ := mk_term (by omega) hg (by simp) .nat (by omega) h3
 obtain ⟨r4, z4, t4⟩ := mk_term (by omega) hg (by simp) .nat (by omega) h4
 have m := fun {t : Tm} (h : t.least 10000 = true) => least_mono (m' := 268435456) (by omega) t h
 refine ⟨.two hk (.eq r1.gd r2.gd) (.eq r3.gd r4.gd), ?_, mfree_twoB hk mfree_eqn mfree_eqn, least_two (least_eqn (m r1.l) (m r2.l)) (least_eqn (m r3.l) (m r4.l)), r1, r2, r3, r4⟩
 rw [fmSz_two, fmSz_eq, fmSz_eq]
 omega
theorem two_trF {f : Fm} (hG : FmG true f) (hz : fmSz f ≤ 4096) (hm : f.mfree = true) (hl : f.least 268435456 = true) : trF f = f.tr := by
 unfold trF
 rw [hG.err0 hz, if_neg (by simp), hm, if_neg (by simp), hl, if_neg (by simp)]
theorem law_trWork {k : Int} {x1 y1 x2 y2 : Tm} (hk : k = 2 ∨ k = 3) (h1 : MkTm 1 [tNat] tNat x1) (h2 : MkTm 1 [tNat] tNat y1) (h3 : MkTm 1 [tNat] tNat x2) (h4 : MkTm 1 [tNat] tNat y2) {n : Nat} (hn : n ≤ 10)
  (e : (fmTwo k (fmEq x1 y1) (fmEq x2 y2)).tr.2 = 0) (p1 : (tmPut (fmTwo k (fmEq x1 y1) (fmEq x2 y2)).tr.1 0 (numT n)).2 = 0) (p2 : (fmPut (fmTwo k (fmEq x1 y1) (fmEq x2 y2)) 0 (numT n)).2 = 0) :
  FmG true (fmPut (fmTwo k (fmEq x1 y1) (fmEq x2 y2)) 0 (numT n)).1 ∧ fmSz (fmPut (fmTwo k (fmEq x1 y1) (fmEq x2 y2)) 0 (numT n)).1 ≤ 4096 ∧
  ((trF (fmPut (fmTwo k (fmEq x1 y1) (fmEq x2 y2)) 0 (numT n)).1).2 = 4 ∨
   (trF (fmPut (fmTwo k (fmEq x1 y1) (fmEq x2 y2)) 0 (numT n)).1).2 = 0 ∧ (trF (fmPut (fmTwo k (fmEq x1 y1) (fmEq x2 y2)) 0 (numT n)).1).1 = (tmPut (fmTwo k (fmEq x1 y1) (fmEq x2 y2)).tr.1 0 (numT n)).1) := by
 obtain ⟨hG, hz, hm, hl, r1, r2, r3, r4⟩ := two_C hk h1 h2 h3 h4
 have gs := numT_G n
 have zs := tmSz_num n
 have ls : (numT n).least 10000 = true := (HasTy.num (Q := TyG) (g := []) n).least 10000 (by omega) (by simp; omega)
 have os : SubOk 10000 (numT n) := ⟨gs, by omega, ls⟩
 obtain ⟨tG, tz, tl⟩ := tr_G hG hm hz 268435456 (by omega) (by omega) hl e
 obtain ⟨q1, w1⟩ := tmPut_ok tG gs (by omega) (by omega) p1
 obtain ⟨q2, w2⟩ := fmPut_okU hG gs (by omega) (by omega) p2
 rw [q1, q2]
 simp only
 generalize numT n = s at *
 have e0 := e
 rw [tr_two, tr_eqn, tr_eqn] at e
 obtain ⟨a1, a2, a3, a4⟩ := twoT_ok (t := (twoT k (cutT (eqT x1 y1)) (cutT (eqT x2 y2))).1) (Prod.ext rfl e)
 obtain ⟨b1, b2⟩ := cutT_ok (r := (cutT (eqT x1 y1)).1) (t := eqT x1 y1) (Prod.ext rfl a1)
 obtain ⟨c1, c2⟩ := cutT_ok (r := (cutT (eqT x2 y2)).1) (t := eqT x2 y2) (Prod.ext rfl a2)
 rw [b1, c1] at a3
 have ht : (fmTwo k (fmEq x1 y1) (fmEq x2 y2)).tr.1 = chooseT tNat (eqT x1 y1) ((eqT x2 y2).up 2 0) (elseT k) := by rw [tr_two, tr_eqn, tr_eqn]; exact a3
 have hP : fmInn s 0 (fmTwo k (fmEq x1 y1) (fmEq x2 y2)) 0 = fmTwo k (fmEq (tmInn s 0 x1 0) (tmInn s 0 y1 0)) (fmEq (tmInn s 0 x2 0) (tmInn s 0 y2 0)) := by
  rw [Pd_two hk (by omega) (by omega), fmInn_eqn, fmInn_eqn]
 obtain ⟨g1, l1⟩ := r1.P (d := 0) (by omega) (by omega) os (by omega) (by omega)
 obtain ⟨g2, l2⟩ := r2.P (d := 0) (by omega) (by omega) os (by omega) (by omega)
 obtain ⟨g3, l3⟩ := r3.P (d := 0) (by omega) (by omega) os (by omega) (by omega)
 obtain ⟨g4, l4⟩ := r4.P (d := 0) (by omega) (by omega) os (by omega) (by omega)
 have m := fun {t : Tm} (h : t.least (10000 + 1000000) = true) => least_mono (m' := 268435456) (by omega) t h
 have GP : FmG true (fmTwo k (fmEq (tmInn s 0 x1 0) (tmInn s 0 y1 0)) (fmEq (tmInn s 0 x2 0) (tmInn s 0 y2 0))) := .two hk (.eq g1 g2) (.eq g3 g4)
 have LP : (fmTwo k (fmEq (tmInn s 0 x1 0) (tmInn s 0 y1 0)) (fmEq (tmInn s 0 x2 0) (tmInn s 0 y2 0))).least 268435456 = true := least_two (least_eqn (m l1) (m l2)) (least_eqn (m l3) (m l4))
 have MP : (fmTwo k (fmEq (tmInn s 0 x1 0) (tmInn s 0 y1 0)) (fmEq (tmInn s 0 x2 0) (tmInn s 0 y2 0))).mfree = true := mfree_twoB hk mfree_eqn mfree_eqn
 have hL := least_mono (m := 10000) (m' := 1000000000) (by omega) _ ls
 have P := fun {t : Tm} (h : TmR 10000 t) => inn_p gs hL (by omega) h.gd 0 (least_mono (by omega) _ h.l) (by omega) (by have := h.sz; omega)
 have hI : tmInn s 0 (chooseT tNat (eqT x1 y1) ((eqT x2 y2).up 2 0) (elseT k)) 0 = chooseT tNat (eqT (tmInn s 0 x1 0) (tmInn s 0 y1 0)) ((eqT (tmInn s 0 x2 0) (tmInn s 0 y2 0)).up 2 0) (elseT k) := by
  rw [ht] at tG tz tl
  have E2 := eqT_G r3.gd r4.gd
  have z2 : tmSz (eqT x2 y2) ≤ 4096 := by rw [chooseT_sz, tmSz_up] at tz; omega
  have E2' := eqT_G g3 g4
  have wz3 := TmG.inn_sz (s := s) _ r3.gd (Nat.le_refl _) 0 (by omega) (by have := r3.sz; omega)
  have wz4 := TmG.inn_sz (s := s) _ r4.gd (Nat.le_refl _) 0 (by omega) (by have := r4.sz; omega)
  rw [hP, fmSz_two, fmSz_eq, fmSz_eq] at w2
  rw [inn_p gs hL (by omega) tG 0 (least_mono (by omega) _ tl) (by omega) (by omega), pIn_choose, pIn_eqT (by omega), pIn_else (by omega), P r1, P r2,
   up_p (by omega) (by omega) E2 0 (eqT_least (by omega) (least_mono (by omega) _ r3.l) (least_mono (by omega) _ r4.l)) (by omega) (by omega),
   up_p (by omega) (by omega) E2' 0 (eqT_least (by omega) (least_mono (by omega) _ l3) (least_mono (by omega) _ l4)) (by omega) (by rw [eqT_sz]; omega),
   P r3, P r4, ← pIn_eqT (by omega)]
  congr 1
  exact (pUp_in (by omega) gs E2 0 0 (by omega) (by omega)).symm
 rw [hP] at w2 ⊢
 refine ⟨GP, w2, ?_⟩
 rw [two_trF GP w2 MP LP]
 rcases tr_err GP MP with h0 | h0
 ·refine .inr ⟨h0, ?_⟩
  rw [tr_two, tr_eqn, tr_eqn] at h0 ⊢
  obtain ⟨a1, a2, a3, a4⟩ := twoT_ok (t := (twoT k (cutT (eqT (tmInn s 0 x1 0) (tmInn s 0 y1 0))) (cutT (eqT (tmInn s 0 x2 0) (tmInn s 0 y2 0)))).1) (Prod.ext rfl h0)
  obtain ⟨b1, b2⟩ := cutT_ok (r := (cutT (eqT (tmInn s 0 x1 0) (tmInn s 0 y1 0))).1) (t := eqT (tmInn s 0 x1 0) (tmInn s 0 y1 0)) (Prod.ext rfl a1)
  obtain ⟨c1, c2⟩ := cutT_ok (r := (cutT (eqT (tmInn s 0 x2 0) (tmInn s 0 y2 0))).1) (t := eqT (tmInn s 0 x2 0) (tmInn s 0 y2 0)) (Prod.ext rfl a2)
  rw [a3, b1, c1, ht, hI]
 ·exact .inl h0
end GoAbs
