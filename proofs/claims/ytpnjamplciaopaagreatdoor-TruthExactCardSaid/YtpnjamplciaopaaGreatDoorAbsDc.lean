/-
 The abstract layer: plain laws, further ones.
-/
import Derived.Test.YtpnjamplciaopaaGreatDoorAbsDb
import Derived.Test.YtpnjamplciaopaaGreatDoorAbsD
import Derived.Test.YtpnjamplciaopaaGreatDoorAbsC
set_option linter.unusedSimpArgs false
set_option linter.unusedVariables false
set_option linter.unusedSectionVars false
namespace GoAbs
open Go
end GoAbs
namespace GoAbs
open Go
theorem tm_upW {b : Int} : ∀ (t : Tm) (fr : Int), TmW t → TmW (t.up b fr) := by
 intro t
 induction t using Tm.ind with | h t ih => ?_
 intro fr ht
 rw [Tm.up_eq]
 refine .mk _ _ _ _ ht.ty (by rw [List.length_map]; exact ht.len) ?_
 intro x hx
 obtain ⟨y, hy, rfl⟩ := List.mem_map.1 hx
 exact ih y hy _ (ht.arg hy)
theorem HasTy.args {Q : Ty → Prop} {g : List Ty} {t : Tm} {s : Ty} (h : HasTy Q g t s) : ∀ x ∈ t.args, ∃ g' s', HasTy Q g' x s' := by
 cases h with
 | var => intro x hx; simp [tmVar, Tm.args] at hx
 | lam _ h1 => intro x hx; simp [tmT, Tm.args] at hx; subst hx; exact ⟨_, _, h1⟩
 | n0 => intro x hx; simp [tmT, Tm.args] at hx
 | n1 _ h1 => intro x hx; simp [tmT, Tm.args] at hx; subst hx; exact ⟨_, _, h1⟩
 | n2 _ h1 h2 => intro x hx; simp [tmT, Tm.args] at hx; rcases hx with rfl | rfl; exact ⟨_, _, h1⟩; exact ⟨_, _, h2⟩
 | n3 _ h1 h2 h3 => intro x hx; simp [tmT, Tm.args] at hx; rcases hx with rfl | rfl | rfl; exact ⟨_, _, h1⟩; exact ⟨_, _, h2⟩; exact ⟨_, _, h3⟩
end GoAbs
namespace GoAbs
end GoAbs
namespace GoAbs
open Go
theorem TmG.re {k : Int} {t : Ty} {l l' : List Tm} (h : TmG (tmT k t l)) (hl : l'.length = l.length) (ha : ∀ x ∈ l', TmG x) : TmG (tmT k t l') := by
 generalize e : tmT k t l = u at h
 cases h with
 | plain hA hB hC _ =>
  simp only [tmT, tm0, Tm.mk.injEq] at e
  obtain ⟨rfl, _, rfl, rfl⟩ := e
  exact .plain hA (by rw [hl]; exact hB) hC ha
 | var hi =>
  simp only [tmT, tmVar, Tm.mk.injEq] at e
  obtain ⟨rfl, rfl, rfl, rfl⟩ := e
  have : l' = [] := by cases l' with
   | nil => rfl
   | cons _ _ => simp at hl
  subst this
  exact .var (by omega)
 | typd hA hB hC hg _ =>
  simp only [tmT, Tm.mk.injEq] at e
  obtain ⟨rfl, _, rfl, rfl⟩ := e
  exact .typd hA (by rw [hl]; exact hB) hC hg ha
theorem TmG.subs {k : Int} {t : Ty} {l : List Tm} (h : TmG (tmT k t l)) : ∀ x ∈ l, TmG x := fun x hx => h.arg (by simpa [tmT, Tm.args] using hx)
theorem pUp_G {b : Int} (hb : 0 ≤ b) {t : Tm} (h : TmG t) : ∀ c : Int, 0 ≤ c → TmG (pUp b t c) := by
 refine TmG.nd (P := fun t _ => ∀ c : Int, 0 ≤ c → TmG (pUp b t c)) ?_ ?_ h
 ·intro i hi c hc
  rw [pUp_var]
  split
  ·exact .var (by omega)
  ·exact .var hi
 ·intro k t l hk hl ht ih c hc
  rw [pUp_node hk]
  have := below_nn k
  refine ht.re (by simp) fun x hx => ?_
  obtain ⟨y, hy, rfl⟩ := List.mem_map.1 hx
  exact ih y hy _ (by omega)
theorem pIn_G {s : Tm} (hs : TmG s) {t : Tm} (h : TmG t) : ∀ e : Int, 0 ≤ e → TmG (pIn s t e) := by
 refine TmG.nd (P := fun t _ => ∀ e : Int, 0 ≤ e → TmG (pIn s t e)) ?_ ?_ h
 ·intro i hi e he
  rw [pIn_var]
  split
  ·exact pUp_G he hs 0 (by omega)
  ·split
   ·exact .var (by omega)
   ·exact .var hi
 ·intro k t l hk hl ht ih e he
  rw [pIn_node hk]
  have := below_nn k
  refine ht.re (by simp) fun x hx => ?_
  obtain ⟨y, hy, rfl⟩ := List.mem_map.1 hx
  exact ih y hy _ (by omega)
theorem pUp_swap {a b : Int} (ha : 0 ≤ a) (hb : 0 ≤ b) {t : Tm} (h : TmG t) : ∀ d c : Int, 0 ≤ d → d ≤ c → pUp b (pUp a t d) (c + a) = pUp a (pUp b t c) d := by
 refine TmG.nd (P := fun t _ => ∀ d c : Int, 0 ≤ d → d ≤ c → pUp b (pUp a t d) (c + a) = pUp a (pUp b t c) d) ?_ ?_ h
 ·intro i hi d c hd hc
  rw [pUp_var, pUp_var, pUp_var, pUp_var]
  congr 1
  repeat' split
  all_goals omega
 ·intro k t l hk hl ht ih d c hd hc
  rw [pUp_node hk, pUp_node hk, pUp_node hk, pUp_node hk, List.map_map, List.map_map]
  congr 1
  refine List.map_congr_left fun x hx => ?_
  have := below_nn k
  simp only [Function.comp]
  have e : c + a + tmBelow k = c + tmBelow k + a := by omega
  rw [e]
  exact ih x hx _ _ (by omega) (by omega)
theorem pUp_inU {b : Int} (hb : 0 ≤ b) {s : Tm} (hs : TmG s) {t : Tm} (h : TmG t) : ∀ c e : Int, 0 ≤ e → e ≤ c → pUp b (pIn s t e) c = pIn (pUp b s (c - e)) (pUp b t (c + 1)) e := by
 refine TmG.nd (P := fun t _ => ∀ c e : Int, 0 ≤ e → e ≤ c → pUp b (pIn s t e) c = pIn (pUp b s (c - e)) (pUp b t (c + 1)) e) ?_ ?_ h
 ·intro i hi c e he hc
  rw [pIn_var, pUp_var, pIn_var]
  by_cases h1 : i = e
  ·subst h1
   rw [if_pos rfl, if_neg (show ¬ i ≥ c + 1 by omega), if_pos rfl]
   have := pUp_swap (a := i) (b := b) he hb hs 0 (c - i) (by omega) (by omega)
   rw [show c - i + i = c by omega] at this
   exact this
  ·rw [if_neg h1]
   by_cases h2 : i > e
   ·rw [if_pos h2, pUp_var]
    by_cases h3 : i ≥ c + 1
    ·rw [if_pos h3, if_pos (by omega), if_neg (by omega), if_pos (by omega)]
     congr 1; omega
    ·rw [if_neg h3, if_neg (by omega), if_neg h1, if_pos h2]
   ·rw [if_neg h2, pUp_var, if_neg (show ¬ i ≥ c by omega), if_neg (show ¬ i ≥ c + 1 by omega), if_neg h1, if_neg h2]
 ·intro k t l hk hl ht ih c e he hc
  rw [pIn_node hk, pUp_node hk, pUp_node hk, pIn_node hk, List.map_map, List.map_map]
  congr 1
  refine List.map_congr_left fun x hx => ?_
  have := below_nn k
  simp only [Function.comp]
  have := ih x hx (c + tmBelow k) (e + tmBelow k) (by omega) (by omega)
  rw [show c + tmBelow k - (e + tmBelow k) = c - e by omega] at this
  rw [this]
  congr 2; omega
/-- What a redex becomes. -/
inductive Rdx : Int → Ty → List Tm → Tm → Prop
 | beta {ty ty' : Ty} {b a : Tm} : Rdx 3 ty [tmT 2 ty' [b], a] (pIn a b 0)
 | rec0 {ty ty' : Ty} {z f : Tm} : Rdx 6 ty [z, f, tmT 4 ty' []] z
 | recS {ty ty' : Ty} {z f n : Tm} : Rdx 6 ty [z, f, tmT 5 ty' [n]] (tm0 3 [tm0 3 [f, n], tmT 6 ty [z, f, n]])
 | fold0 {ty ty' : Ty} {z f : Tm} : Rdx 9 ty [z, f, tmT 7 ty' []] z
 | foldS {ty ty' : Ty} {z f h l : Tm} : Rdx 9 ty [z, f, tmT 8 ty' [h, l]] (tm0 3 [tm0 3 [tm0 3 [f, h], l], tmT 9 ty [z, f, l]])
 | fst {ty ty' : Ty} {x y : Tm} : Rdx 11 ty [tmT 10 ty' [x, y]] x
 | snd {ty ty' : Ty} {x y : Tm} : Rdx 12 ty [tmT 10 ty' [x, y]] y
/-- Redexes that stand side by side are reduced at once. -/
inductive Par : Tm → Tm → Prop
 | var (i : Int) : Par (tmVar i) (tmVar i)
 | cong {k : Int} {ty : Ty} {l l' : List Tm} (hk : k ≠ 1) (hl : l.length = l'.length) (h : ∀ (i : Nat) x x', l[i]? = some x → l'[i]? = some x' → Par x x') : Par (tmT k ty l) (tmT k ty l')
 | red {k : Int} {ty : Ty} {l l' : List Tm} {r r' : Tm} (hl : l.length = l'.length) (h : ∀ (i : Nat) x x', l[i]? = some x → l'[i]? = some x' → Par x x')
   (hr : Rdx k ty l r) (hr' : Rdx k ty l' r') : Par (tmT k ty l) r'
theorem Par.refl {t : Tm} (h : TmG t) : Par t t := by
 refine TmG.nd (P := fun t _ => Par t t) ?_ ?_ h
 ·intro i hi; exact .var i
 ·intro k t l hk hl ht ih
  refine .cong hk rfl fun i x x' h1 h2 => ?_
  rw [h1] at h2; cases h2
  exact ih x (List.mem_of_getElem? h1)
theorem Rdx.kind {k : Int} {ty : Ty} {l : List Tm} {r : Tm} (h : Rdx k ty l r) : k = 3 ∨ k = 6 ∨ k = 9 ∨ k = 11 ∨ k = 12 := by cases h <;> simp
theorem Rdx.below {k : Int} {ty : Ty} {l : List Tm} {r : Tm} (h : Rdx k ty l r) : tmBelow k = 0 := by cases h <;> rfl
theorem Rdx.ne {k : Int} {ty : Ty} {l : List Tm} {r : Tm} (h : Rdx k ty l r) : k ≠ 1 := by cases h <;> decide
theorem G2 {f a : Tm} (hf : TmG f) (ha : TmG a) : TmG (tm0 3 [f, a]) := .plain (a := 2) rfl rfl rfl (by simp [hf, ha])
theorem Rdx.G {k : Int} {ty : Ty} {l : List Tm} {r : Tm} (h : Rdx k ty l r) (hG : TmG (tmT k ty l)) : TmG r := by
 have hs := hG.subs
 cases h with
 | @beta _ ty' b a =>
  simp only [List.mem_cons, List.not_mem_nil, or_false, forall_eq_or_imp, forall_eq] at hs
  exact pIn_G hs.2 (hs.1.subs b (by simp)) 0 (by omega)
 | rec0 => exact hs _ (by simp)
 | @recS _ ty' z f n =>
  simp only [List.mem_cons, List.not_mem_nil, or_false, forall_eq_or_imp, forall_eq] at hs
  have hn := hs.2.2.subs n (by simp)
  exact G2 (G2 hs.2.1 hn) (hG.re rfl (by simp [hs.1, hs.2.1, hn]))
 | fold0 => exact hs _ (by simp)
 | foldS =>
  simp only [List.mem_cons, List.not_mem_nil, or_false, forall_eq_or_imp, forall_eq] at hs
  have hh := hs.2.2.subs
  simp only [List.mem_cons, List.not_mem_nil, or_false, forall_eq_or_imp, forall_eq] at hh
  exact G2 (G2 (G2 hs.2.1 hh.1) hh.2) (hG.re rfl (by simp [hs.1, hs.2.1, hh.2]))
 | @fst _ ty' x y => exact (hs (tmT 10 ty' [r, y]) (by simp)).subs r (by simp)
 | @snd _ ty' x y => exact (hs (tmT 10 ty' [x, r]) (by simp)).subs r (by simp)
theorem Par.G {t u : Tm} (h : Par t u) : TmG t → TmG u := by
 have key : ∀ {l l' : List Tm}, l.length = l'.length → (∀ (i : Nat) x x', l[i]? = some x → l'[i]? = some x' → TmG x → TmG x') → (∀ x ∈ l, TmG x) → ∀ x ∈ l', TmG x := by
  intro l l' hl hp hx y hy
  obtain ⟨i, hi, e⟩ := List.mem_iff_getElem.1 hy
  have h1 : l'[i]? = some y := by rw [List.getElem?_eq_getElem hi, e]
  have h2 : l[i]? = some l[i] := List.getElem?_eq_getElem (by omega)
  exact hp i _ _ h2 h1 (hx _ (List.getElem_mem _))
 induction h with
 | var i => exact id
 | cong hk hl hp ih => exact fun hG => hG.re hl.symm (key hl ih hG.subs)
 | red hl hp hr hr' ih => exact fun hG => hr'.G (hG.re hl.symm (key hl ih hG.subs))
theorem map_pt {f g : Tm → Tm} {R : Tm → Tm → Prop} {l l' : List Tm} (hl : l.length = l'.length) (hp : ∀ (i : Nat) x x', l[i]? = some x → l'[i]? = some x' → R (f x) (g x')) :
  (l.map f).length = (l'.map g).length ∧ ∀ (i : Nat) x x', (l.map f)[i]? = some x → (l'.map g)[i]? = some x' → R x x' := by
 refine ⟨by simp [hl], fun i x x' h1 h2 => ?_⟩
 rw [List.getElem?_map] at h1 h2
 cases a1 : l[i]? with
 | none => rw [a1] at h1; cases h1
 | some y =>
  cases a2 : l'[i]? with
  | none => rw [a2] at h2; cases h2
  | some z =>
   rw [a1] at h1; rw [a2] at h2
   cases h1; cases h2
   exact hp i y z a1 a2
theorem pUp_tm0 {b k c : Int} {l : List Tm} (hk : k ≠ 1) : pUp b (tm0 k l) c = tm0 k (l.map fun x => pUp b x (c + tmBelow k)) := pUp_node hk
theorem pIn_tm0 {s : Tm} {k e : Int} {l : List Tm} (hk : k ≠ 1) : pIn s (tm0 k l) e = tm0 k (l.map fun x => pIn s x (e + tmBelow k)) := pIn_node hk
theorem bel2 : tmBelow 2 = 1 := rfl
theorem Rdx.up {b : Int} (hb : 0 ≤ b) {k : Int} {ty : Ty} {l : List Tm} {r : Tm} (h : Rdx k ty l r) (hG : TmG (tmT k ty l)) {c : Int} (hc : 0 ≤ c) : Rdx k ty (l.map fun x => pUp b x c) (pUp b r c) := by
 have hs := hG.subs
 cases h with
 | @beta _ ty' b0 a =>
  simp only [List.mem_cons, List.not_mem_nil, or_false, forall_eq_or_imp, forall_eq] at hs
  rw [pUp_inU hb hs.2 (hs.1.subs b0 (by simp)) c 0 (by omega) hc]
  simp only [List.map_cons, List.map_nil]
  rw [pUp_node (by decide), bel2, Int.sub_zero]
  exact .beta
 | rec0 => simp only [List.map_cons, List.map_nil]; rw [pUp_node (k := 4) (by decide)]; exact .rec0
 | recS =>
  simp only [List.map_cons, List.map_nil]
  rw [pUp_node (k := 5) (by decide), pUp_tm0 (by decide)]
  simp only [List.map_cons, List.map_nil]
  rw [pUp_tm0 (by decide), pUp_node (k := 6) (by decide)]
  simp only [List.map_cons, List.map_nil]
  have e3 : tmBelow 3 = 0 := rfl
  have e5 : tmBelow 5 = 0 := rfl
  have e6 : tmBelow 6 = 0 := rfl
  simp only [e3, e5, e6, Int.add_zero]
  exact .recS
 | fold0 => simp only [List.map_cons, List.map_nil]; rw [pUp_node (k := 7) (by decide)]; exact .fold0
 | foldS =>
  simp only [List.map_cons, List.map_nil]
  rw [pUp_node (k := 8) (by decide), pUp_tm0 (by decide)]
  simp only [List.map_cons, List.map_nil]
  rw [pUp_tm0 (by decide), pUp_node (k := 9) (by decide)]
  simp only [List.map_cons, List.map_nil]
  rw [pUp_tm0 (by decide)]
  simp only [List.map_cons, List.map_nil]
  have e3 : tmBelow 3 = 0 := rfl
  have e5 : tmBelow 8 = 0 := rfl
  have e6 : tmBelow 9 = 0 := rfl
  simp only [e3, e5, e6, Int.add_zero]
  exact .foldS
 | fst =>
  simp only [List.map_cons, List.map_nil]
  rw [pUp_node (k := 10) (by decide)]
  simp only [List.map_cons, List.map_nil, (show tmBelow 10 = 0 from rfl), Int.add_zero]
  exact .fst
 | snd =>
  simp only [List.map_cons, List.map_nil]
  rw [pUp_node (k := 10) (by decide)]
  simp only [List.map_cons, List.map_nil, (show tmBelow 10 = 0 from rfl), Int.add_zero]
  exact .snd
theorem Rdx.inn {s : Tm} (hsG : TmG s) {k : Int} {ty : Ty} {l : List Tm} {r : Tm} (h : Rdx k ty l r) (hG : TmG (tmT k ty l)) {e : Int} (he : 0 ≤ e) : Rdx k ty (l.map fun x => pIn s x e) (pIn s r e) := by
 have hs := hG.subs
 cases h with
 | @beta _ ty' b a =>
  simp only [List.mem_cons, List.not_mem_nil, or_false, forall_eq_or_imp, forall_eq] at hs
  have := pIn_inD he hsG hs.2 (hs.1.subs b (by simp)) 0 (by omega)
  simp only [Int.zero_add] at this
  rw [this]
  simp only [List.map_cons, List.map_nil]
  rw [pIn_node (by decide), bel2]
  exact .beta
 | rec0 => simp only [List.map_cons, List.map_nil]; rw [pIn_node (k := 4) (by decide)]; exact .rec0
 | recS =>
  simp only [List.map_cons, List.map_nil]
  rw [pIn_node (k := 5) (by decide), pIn_tm0 (by decide)]
  simp only [List.map_cons, List.map_nil]
  rw [pIn_tm0 (by decide), pIn_node (k := 6) (by decide)]
  simp only [List.map_cons, List.map_nil]
  have e3 : tmBelow 3 = 0 := rfl
  have e5 : tmBelow 5 = 0 := rfl
  have e6 : tmBelow 6 = 0 := rfl
  simp only [e3, e5, e6, Int.add_zero]
  exact .recS
 | fold0 => simp only [List.map_cons, List.map_nil]; rw [pIn_node (k := 7) (by decide)]; exact .fold0
 | foldS =>
  simp only [List.map_cons, List.map_nil]
  rw [pIn_node (k := 8) (by decide), pIn_tm0 (by decide)]
  simp only [List.map_cons, List.map_nil]
  rw [pIn_tm0 (by decide), pIn_node (k := 9) (by decide)]
  simp only [List.map_cons, List.map_nil]
  rw [pIn_tm0 (by decide)]
  simp only [List.map_cons, List.map_nil]
  have e3 : tmBelow 3 = 0 := rfl
  have e5 : tmBelow 8 = 0 := rfl
  have e6 : tmBelow 9 = 0 := rfl
  simp only [e3, e5, e6, Int.add_zero]
  exact .foldS
 | fst =>
  simp only [List.map_cons, List.map_nil]
  rw [pIn_node (k := 10) (by decide)]
  simp only [List.map_cons, List.map_nil, (show tmBelow 10 = 0 from rfl), Int.add_zero]
  exact .fst
 | snd =>
  simp only [List.map_cons, List.map_nil]
  rw [pIn_node (k := 10) (by decide)]
  simp only [List.map_cons, List.map_nil, (show tmBelow 10 = 0 from rfl), Int.add_zero]
  exact .snd
theorem Par.up {b : Int} (hb : 0 ≤ b) {t u : Tm} (h : Par t u) : TmG t → ∀ c : Int, 0 ≤ c → Par (pUp b t c) (pUp b u c) := by
 induction h with
 | var i => intro _ c hc; rw [pUp_var]; exact .var _
 | @cong k ty l l' hk hl hp ih =>
  intro hG c hc
  rw [pUp_node hk, pUp_node hk]
  have := below_nn k
  obtain ⟨h1, h2⟩ := map_pt (f := fun x => pUp b x (c + tmBelow k)) (g := fun x => pUp b x (c + tmBelow k)) (R := Par) hl (fun i x x' a1 a2 => ih i x x' a1 a2 (hG.subs _ (List.mem_of_getElem? a1)) _ (by omega))
  exact .cong hk h1 h2
 | @red k ty l l' r r' hl hp hr hr' ih =>
  intro hG c hc
  rw [pUp_node hr.ne, hr.below, Int.add_zero]
  obtain ⟨h1, h2⟩ := map_pt (f := fun x => pUp b x c) (g := fun x => pUp b x c) (R := Par) hl (fun i x x' a1 a2 => ih i x x' a1 a2 (hG.subs _ (List.mem_of_getElem? a1)) _ hc)
  exact .red h1 h2 (hr.up hb hG hc) (hr'.up hb ((Par.cong hr.ne hl hp).G hG) hc)
theorem Par.inn {s s' : Tm} (hs : Par s s') (hsG : TmG s) {t u : Tm} (h : Par t u) : TmG t → ∀ e : Int, 0 ≤ e → Par (pIn s t e) (pIn s' u e) := by
 induction h with
 | var i =>
  intro hG e he
  rw [pIn_var, pIn_var]
  repeat' split
  ·exact hs.up he hsG 0 (by omega)
  ·exact .var _
  ·exact .var _
 | @cong k ty l l' hk hl hp ih =>
  intro hG e he
  rw [pIn_node hk, pIn_node hk]
  have := below_nn k
  obtain ⟨h1, h2⟩ := map_pt (f := fun x => pIn s x (e + tmBelow k)) (g := fun x => pIn s' x (e + tmBelow k)) (R := Par) hl (fun i x x' a1 a2 => ih i x x' a1 a2 (hG.subs _ (List.mem_of_getElem? a1)) _ (by omega))
  exact .cong hk h1 h2
 | @red k ty l l' r r' hl hp hr hr' ih =>
  intro hG e he
  rw [pIn_node hr.ne, hr.below, Int.add_zero]
  obtain ⟨h1, h2⟩ := map_pt (f := fun x => pIn s x e) (g := fun x => pIn s' x e) (R := Par) hl (fun i x x' a1 a2 => ih i x x' a1 a2 (hG.subs _ (List.mem_of_getElem? a1)) _ he)
  exact .red h1 h2 (hr.inn hsG hG he) (hr'.inn (hs.G hsG) ((Par.cong hr.ne hl hp).G hG) he)
theorem par2 {k : Int} {ty : Ty} {a a' b b' : Tm} (hk : k ≠ 1) (h1 : Par a a') (h2 : Par b b') : Par (tmT k ty [a, b]) (tmT k ty [a', b']) :=
 .cong hk rfl fun i x x' e1 e2 => by
  match i with
  | 0 => simp at e1 e2; subst e1; subst e2; exact h1
  | 1 => simp at e1 e2; subst e1; subst e2; exact h2
  | i + 2 => simp at e1
theorem par1 {k : Int} {ty : Ty} {a a' : Tm} (hk : k ≠ 1) (h1 : Par a a') : Par (tmT k ty [a]) (tmT k ty [a']) :=
 .cong hk rfl fun i x x' e1 e2 => by
  match i with
  | 0 => simp at e1 e2; subst e1; subst e2; exact h1
  | i + 1 => simp at e1
inductive Star : Tm → Tm → Prop
 | refl (t : Tm) : Star t t
 | step {t u v : Tm} : Par t u → Star u v → Star t v
theorem Star.one {t u : Tm} (h : Par t u) : Star t u := .step h (.refl _)
theorem Star.trans {t u v : Tm} (h : Star t u) : Star u v → Star t v := by
 induction h with
 | refl => exact id
 | step hp _ ih => exact fun h => .step hp (ih h)
theorem Star.G {t u : Tm} (h : Star t u) : TmG t → TmG u := by
 induction h with
 | refl => exact id
 | step hp _ ih => exact fun hG => ih (hp.G hG)
theorem Rdx.root {k : Int} {ty : Ty} {l : List Tm} {r : Tm} (h : Rdx k ty l r) : (tmT k ty l).root = true := by cases h <;> rfl
end GoAbs
namespace GoAbs
open Go
end GoAbs
namespace GoAbs
open Go
end GoAbs
namespace GoAbs
open Go
end GoAbs
namespace GoAbs
open Go
theorem Star.up {b : Int} (hb : 0 ≤ b) {t u : Tm} (h : Star t u) : TmG t → ∀ c : Int, 0 ≤ c → Star (pUp b t c) (pUp b u c) := by
 induction h with
 | refl t => exact fun _ c _ => .refl _
 | step hp _ ih => exact fun hG c hc => .step (hp.up hb hG c hc) (ih (hp.G hG) c hc)
theorem Star.inn1 {s : Tm} (hs : TmG s) {t u : Tm} (h : Star t u) : TmG t → ∀ e : Int, 0 ≤ e → Star (pIn s t e) (pIn s u e) := by
 induction h with
 | refl t => exact fun _ e _ => .refl _
 | step hp _ ih => exact fun hG e he => .step (Par.inn (Par.refl hs) hs hp hG e he) (ih (hp.G hG) e he)
theorem Star.inn2 {s s' : Tm} (h : Star s s') {t : Tm} (ht : TmG t) : TmG s → ∀ e : Int, 0 ≤ e → Star (pIn s t e) (pIn s' t e) := by
 induction h with
 | refl s => exact fun _ e _ => .refl _
 | step hp _ ih => exact fun hG e he => .step (Par.inn hp hG (Par.refl ht) ht e he) (ih (hp.G hG) e he)
theorem Star.inn {s s' t u : Tm} (hs : Star s s') (gs : TmG s) (h : Star t u) (gt : TmG t) {e : Int} (he : 0 ≤ e) : Star (pIn s t e) (pIn s' u e) :=
 (h.inn1 gs gt e he).trans (hs.inn2 (h.G gt) gs e he)
theorem Star.t1 {k : Int} {ty : Ty} (hk : k ≠ 1) {x x' : Tm} (h : Star x x') : Star (tmT k ty [x]) (tmT k ty [x']) := by
 induction h with
 | refl => exact .refl _
 | step hp _ ih => exact .step (par1 hk hp) ih
theorem Star.t2 {k : Int} {ty : Ty} (hk : k ≠ 1) {x x' y : Tm} (hy : TmG y) (h : Star x x') : Star (tmT k ty [x, y]) (tmT k ty [x', y]) := by
 induction h with
 | refl => exact .refl _
 | step hp _ ih => exact .step (par2 hk hp (Par.refl hy)) ih
/-- Formulas whose terms are reduced. -/
inductive FmR : Fm → Fm → Prop
 | eq {x y x' y' : Tm} : Star x x' → Star y y' → FmR (fmEq x y) (fmEq x' y')
 | two {k : Int} {a b a' b' : Fm} (hk : k = 2 ∨ k = 3) : FmR a a' → FmR b b' → FmR (fmTwo k a b) (fmTwo k a' b')
 | q {k : Int} {s : Ty} {a a' : Fm} (hk : k = 4 ∨ k = 5 ∨ k = 6 ∨ k = 7) : FmR a a' → FmR (fmQ k s a) (fmQ k s a')
theorem FmR.refl {u : Bool} {f : Fm} (h : FmG u f) : FmR f f := by
 induction h with
 | eq _ _ => exact .eq (.refl _) (.refl _)
 | two hk _ _ h1 h2 => exact .two hk h1 h2
 | q hk _ _ h1 => exact .q (FmG.qk hk) h1
theorem FmR.inv {f f' : Fm} (h : FmR f f') : f.fl.c = f'.fl.c ∧ f.ct = f'.ct ∧ fdp f = fdp f' := by
 induction h with
 | eq _ _ => exact ⟨by rw [Fm.fl_eqn, Fm.fl_eqn], by rw [ct_eqn, ct_eqn], by rw [fdp_eqn, fdp_eqn]⟩
 | two hk _ _ h1 h2 => exact ⟨by rw [fl_c_two hk, fl_c_two hk, h1.1, h2.1], by rw [ct_two, ct_two, h1.1, h1.2.1, h2.1, h2.2.1], by rw [fdp_two, fdp_two, h1.2.2, h2.2.2]⟩
 | q hk _ h1 => exact ⟨by rw [fl_c_q (by omega), fl_c_q (by omega), h1.1], by rw [ct_q, ct_q, h1.1, h1.2.1], by rw [fdp_q, fdp_q, h1.2.2]⟩
theorem FmG.inv_eq {u : Bool} {x y : Tm} (h : FmG u (fmEq x y)) : TmG x ∧ TmG y := by
 generalize e : fmEq x y = f at h
 cases h with
 | eq h1 h2 => simp only [fmEq, Fm.mk.injEq, List.cons.injEq, and_true, true_and] at e; obtain ⟨rfl, rfl⟩ := e; exact ⟨h1, h2⟩
 | two hk _ _ => simp [fmEq, fmTwo] at e
 | q hk _ _ => simp [fmEq, fmQ] at e
theorem FmG.inv_two {u : Bool} {k : Int} {a b : Fm} (h : FmG u (fmTwo k a b)) : (k = 2 ∨ k = 3) ∧ FmG u a ∧ FmG u b := by
 generalize e : fmTwo k a b = f at h
 cases h with
 | eq h1 h2 => simp [fmEq, fmTwo] at e
 | two hk h1 h2 => simp only [fmTwo, Fm.mk.injEq, List.cons.injEq, and_true, true_and] at e; obtain ⟨rfl, rfl, rfl⟩ := e; exact ⟨hk, h1, h2⟩
 | q hk _ _ => simp [fmTwo, fmQ] at e
theorem FmG.inv_q {u : Bool} {k : Int} {s : Ty} {a : Fm} (h : FmG u (fmQ k s a)) : TyG s ∧ FmG u a := by
 generalize e : fmQ k s a = f at h
 cases h with
 | eq h1 h2 => simp [fmEq, fmQ] at e
 | two hk _ _ => simp [fmTwo, fmQ] at e
 | q hk hs h1 => simp only [fmQ, Fm.mk.injEq, List.cons.injEq, and_true, true_and] at e; obtain ⟨rfl, rfl, rfl⟩ := e; exact ⟨hs, h1⟩
theorem FmR.up {f f' : Fm} (h : FmR f f') : FmG true f → FmG true f' → f.least 536870912 = true → f'.least 536870912 = true → ∀ d : Int, 0 ≤ d → d + fmSz f ≤ 100000 → d + fmSz f' ≤ 100000 → FmR (f.up 1 d) (f'.up 1 d) := by
 have one : ∀ {x x' : Tm}, Star x x' → TmG x → TmG x' → x.least 536870912 = true → x'.least 536870912 = true → ∀ d : Int, 0 ≤ d → d + tmSz x ≤ 100000 → d + tmSz x' ≤ 100000 → Star (x.up 1 d) (x'.up 1 d) := by
  intro x x' hs gx gx' lx lx' d hd z z'
  rw [up_p (by omega) (by omega) gx d (least_mono (by omega) _ lx) hd (by omega), up_p (by omega) (by omega) gx' d (least_mono (by omega) _ lx') hd (by omega)]
  exact hs.up (by omega) gx d hd
 induction h with
 | eq h1 h2 =>
  intro g g' l l' d hd z z'
  obtain ⟨g1, g2⟩ := g.inv_eq
  obtain ⟨g1', g2'⟩ := g'.inv_eq
  obtain ⟨l1, l2⟩ := fleast_eq.1 l
  obtain ⟨l1', l2'⟩ := fleast_eq.1 l'
  rw [fmSz_eq] at z z'
  rw [fmUp_eqn, fmUp_eqn]
  exact .eq (one h1 g1 g1' l1 l1' d hd (by omega) (by omega)) (one h2 g2 g2' l2 l2' d hd (by omega) (by omega))
 | two hk _ _ ih1 ih2 =>
  intro g g' l l' d hd z z'
  obtain ⟨_, g1, g2⟩ := g.inv_two
  obtain ⟨_, g1', g2'⟩ := g'.inv_two
  obtain ⟨l1, l2⟩ := fleast_parts2 l
  obtain ⟨l1', l2'⟩ := fleast_parts2 l'
  rw [fmSz_two] at z z'
  rw [fmUp2 hk hd (by omega), fmUp2 hk hd (by omega)]
  exact .two hk (ih1 g1 g1' l1 l1' d hd (by omega) (by omega)) (ih2 g2 g2' l2 l2' d hd (by omega) (by omega))
 | q hk _ ih1 =>
  intro g g' l l' d hd z z'
  rw [fmSz_q] at z z'
  rw [fmUpq hk hd (by omega), fmUpq hk hd (by omega)]
  exact .q hk (ih1 g.inv_q.2 g'.inv_q.2 (fleast_part l) (fleast_part l') _ (by omega) (by omega) (by omega))
theorem FmR.inn {s s' : Tm} (hs : Star s s') (gs : TmG s) (gs' : TmG s') (ls : s.least 1000000000 = true) (ls' : s'.least 1000000000 = true) (zs : tmSz s ≤ 100000) (zs' : tmSz s' ≤ 100000) {f f' : Fm} (h : FmR f f') :
  FmG true f → FmG true f' → f.least 1000000000 = true → f'.least 1000000000 = true → ∀ d : Int, 0 ≤ d → d + fmSz f ≤ 100000 → d + fmSz f' ≤ 100000 → FmR (fmInn s 0 f d) (fmInn s' 0 f' d) := by
 have one : ∀ {x x' : Tm}, Star x x' → TmG x → TmG x' → x.least 1000000000 = true → x'.least 1000000000 = true → ∀ d : Int, 0 ≤ d → d + tmSz x ≤ 100000 → d + tmSz x' ≤ 100000 → Star (tmInn s 0 x d) (tmInn s' 0 x' d) := by
  intro x x' hx gx gx' lx lx' d hd z z'
  rw [inn_p gs ls (by omega) gx d lx hd (by omega), inn_p gs' ls' (by omega) gx' d lx' hd (by omega)]
  exact Star.inn hs gs hx gx hd
 induction h with
 | eq h1 h2 =>
  intro g g' l l' d hd z z'
  obtain ⟨g1, g2⟩ := g.inv_eq
  obtain ⟨g1', g2'⟩ := g'.inv_eq
  obtain ⟨l1, l2⟩ := fleast_eq.1 l
  obtain ⟨l1', l2'⟩ := fleast_eq.1 l'
  rw [fmSz_eq] at z z'
  rw [fmInn_eqn, fmInn_eqn]
  exact .eq (one h1 g1 g1' l1 l1' d hd (by omega) (by omega)) (one h2 g2 g2' l2 l2' d hd (by omega) (by omega))
 | two hk _ _ ih1 ih2 =>
  intro g g' l l' d hd z z'
  obtain ⟨_, g1, g2⟩ := g.inv_two
  obtain ⟨_, g1', g2'⟩ := g'.inv_two
  obtain ⟨l1, l2⟩ := fleast_parts2 l
  obtain ⟨l1', l2'⟩ := fleast_parts2 l'
  rw [fmSz_two] at z z'
  rw [fmInn_two, fmInn_two, below_two hk, addW_zero hd (by omega)]
  exact .two hk (ih1 g1 g1' l1 l1' d hd (by omega) (by omega)) (ih2 g2 g2' l2 l2' d hd (by omega) (by omega))
 | q hk _ ih1 =>
  intro g g' l l' d hd z z'
  rw [fmSz_q] at z z'
  have hr := below_q hk
  rw [fmInn_q, fmInn_q, hr, addW_eq (by omega) (by omega) (by omega) (by omega)]
  exact .q hk (ih1 g.inv_q.2 g'.inv_q.2 (fleast_part l) (fleast_part l') _ (by omega) (by omega) (by omega))
end GoAbs
namespace GoAbs
open Go
/-- Formulas with the right kinds and types. -/
inductive FmC : Fm → Prop
 | eq {t : Ty} {l : List Tm} : FmC (.mk 1 t l [])
 | two {k : Int} {t : Ty} {l : List Tm} {a b : Fm} (hk : k = 2 ∨ k = 3) : FmC a → FmC b → FmC (.mk k t l [a, b])
 | q {k : Int} {s : Ty} {l : List Tm} {a : Fm} (hk : k = 4 ∨ k = 5 ∨ k = 6 ∨ k = 7) (hs : TyG s) : FmC a → FmC (.mk k s l [a])
theorem FmC.ev {F : Tm → Int → Tm} {f : Fm} (h : FmC f) : ∀ b : Int, FmC (f.ev F b) := by
 induction h with
 | eq => intro b; rw [Fm.ev_eq]; exact .eq
 | two hk _ _ h1 h2 => intro b; rw [Fm.ev_eq]; exact .two hk (h1 _) (h2 _)
 | q hk hs _ h1 => intro b; rw [Fm.ev_eq]; exact .q hk hs (h1 _)
theorem FmC.arg {f x : Fm} (h : FmC f) (hx : x ∈ f.args) : FmC x := by
 cases h with
 | eq => simp [Fm.args] at hx
 | two _ ha hb => simp [Fm.args] at hx; rcases hx with rfl | rfl <;> assumption
 | q _ _ ha => simp [Fm.args] at hx; subst hx; exact ha
theorem ctk_1 {t : Ty} {l : List Tm} : (Fm.mk 1 t l []).ct = (tUnit, 0) ∧ (Fm.mk 1 t l []).fl.c = false := ⟨rfl, by rw [Fm.fl_1 rfl]⟩
theorem ctk_2 {t : Ty} {l : List Tm} {a b : Fm} : (Fm.mk 2 t l [a, b]).ct = (if a.fl.c then (if b.fl.c then ctJoin 3 a.ct b.ct else a.ct) else b.ct) ∧ (Fm.mk 2 t l [a, b]).fl.c = (b.fl.c || a.fl.c) :=
 ⟨by rw [Fm.ct, Fm.ctL, Fm.ctL, Fm.ctL]; rfl, by rw [Fm.fl_2 (f := .mk 2 t l [a, b]) (.inl rfl) rfl]; rfl⟩
theorem ctk_3 {t : Ty} {l : List Tm} {a b : Fm} : (Fm.mk 3 t l [a, b]).ct = (if b.fl.c then (if a.fl.c then ctJoin 4 a.ct b.ct else b.ct) else (tUnit, 0)) ∧ (Fm.mk 3 t l [a, b]).fl.c = b.fl.c :=
 ⟨by rw [Fm.ct, Fm.ctL, Fm.ctL, Fm.ctL]; rfl, by rw [Fm.fl_2 (f := .mk 3 t l [a, b]) (.inr rfl) rfl]; show (b.fl.c || false) = _; rw [Bool.or_false]⟩
theorem ctk_4 {s : Ty} {l : List Tm} {a : Fm} : (Fm.mk 4 s l [a]).ct = (if a.fl.c then ctJoin 4 (s, 0) a.ct else (tUnit, 0)) ∧ (Fm.mk 4 s l [a]).fl.c = a.fl.c :=
 ⟨by rw [Fm.ct, Fm.ctL, Fm.ctL]; rfl, by rw [Fm.fl_q (f := .mk 4 s l [a]) (by simp [Fm.kind]) rfl]; show (a.fl.c || false) = _; rw [Bool.or_false]⟩
theorem ctk_5 {s : Ty} {l : List Tm} {a : Fm} : (Fm.mk 5 s l [a]).ct = (if a.fl.c then ctJoin 3 (s, 0) a.ct else (s, 0)) ∧ (Fm.mk 5 s l [a]).fl.c = true :=
 ⟨by rw [Fm.ct, Fm.ctL, Fm.ctL]; rfl, by rw [Fm.fl_q (f := .mk 5 s l [a]) (by simp [Fm.kind]) rfl]; show (a.fl.c || true) = _; rw [Bool.or_true]⟩
theorem ctk_67 {k : Int} (hk : k = 6 ∨ k = 7) {s : Ty} {l : List Tm} {a : Fm} : (Fm.mk k s l [a]).ct = a.ct ∧ (Fm.mk k s l [a]).fl.c = a.fl.c := by
 rcases hk with rfl | rfl
 ·exact ⟨by rw [Fm.ct, Fm.ctL, Fm.ctL]; rfl, by rw [Fm.fl_q (f := .mk 6 s l [a]) (by simp [Fm.kind]) rfl]; show (a.fl.c || false) = _; rw [Bool.or_false]⟩
 ·exact ⟨by rw [Fm.ct, Fm.ctL, Fm.ctL]; rfl, by rw [Fm.fl_q (f := .mk 7 s l [a]) (by simp [Fm.kind]) rfl]; show (a.fl.c || false) = _; rw [Bool.or_false]⟩
/-- What a content type may be. -/
def CtOk (p : Ty × Int) : Prop := (p.2 = 0 ∧ TyG p.1) ∨ p = (tZero, 4)
theorem ctJoin_ok {k : Int} (hk : k = 3 ∨ k = 4) {x y : Ty × Int} (hx : CtOk x) (hy : CtOk y) : CtOk (ctJoin k x y) := by
 rcases hx with ⟨ex, gx⟩ | rfl
 case inr => exact .inr rfl
 rcases hy with ⟨ey, gy⟩ | rfl
 case inr => unfold ctJoin; rw [ex]; exact .inr rfl
 rcases ctJoin_G hk (.inl ⟨ex, gx⟩) (.inl ⟨ey, gy⟩) with ⟨h1, h2, _⟩ | h4
 ·exact .inl ⟨h1, h2⟩
 ·right
  unfold ctJoin at h4 ⊢
  rw [ex, ey] at h4 ⊢
  have n0 : ((0 : Int) != 0) = false := rfl
  rw [n0] at h4 ⊢
  simp only [Bool.false_eq_true, if_false] at h4 ⊢
  split at h4
  ·rename_i h; rw [if_pos h]; simp only at h4; rw [h4]
  ·cases h4
theorem FmC.ok {f : Fm} (h : FmC f) : CtOk f.ct ∧ (f.fl.c = false → f.ct = (tUnit, 0)) := by
 induction h with
 | eq => exact ⟨.inl ⟨by rw [ctk_1.1], by rw [ctk_1.1]; exact TyG.unit⟩, fun _ => ctk_1.1⟩
 | @two k t l a b hk _ _ h1 h2 =>
  rcases hk with rfl | rfl
  ·rw [ctk_2.1, ctk_2.2]
   cases ha : a.fl.c <;> cases hb : b.fl.c <;> simp only [Bool.or_false, Bool.or_true, Bool.or_self, if_true, Bool.false_eq_true, if_false, false_implies, and_true, true_implies]
   ·exact ⟨h2.1, h2.2 hb⟩
   ·exact ⟨h2.1, fun h => by cases h⟩
   ·exact ⟨h1.1, fun h => by cases h⟩
   ·exact ⟨ctJoin_ok (.inl rfl) h1.1 h2.1, fun h => by cases h⟩
  ·rw [ctk_3.1, ctk_3.2]
   cases ha : a.fl.c <;> cases hb : b.fl.c <;> simp only [if_true, Bool.false_eq_true, if_false]
   ·exact ⟨.inl ⟨rfl, TyG.unit⟩, fun _ => trivial⟩
   ·exact ⟨h2.1, fun h => by cases h⟩
   ·exact ⟨.inl ⟨rfl, TyG.unit⟩, fun _ => trivial⟩
   ·exact ⟨ctJoin_ok (.inr rfl) h1.1 h2.1, fun h => by cases h⟩
 | @q k s l a hk hs _ h1 =>
  rcases hk with rfl | rfl | hk
  ·rw [ctk_4.1, ctk_4.2]
   cases ha : a.fl.c <;> simp only [if_true, Bool.false_eq_true, if_false]
   ·exact ⟨.inl ⟨rfl, TyG.unit⟩, fun _ => trivial⟩
   ·exact ⟨ctJoin_ok (.inr rfl) (.inl ⟨rfl, hs⟩) h1.1, fun h => by cases h⟩
  ·rw [ctk_5.1, ctk_5.2]
   refine ⟨?_, fun h => by cases h⟩
   cases ha : a.fl.c <;> simp only [if_true, Bool.false_eq_true, if_false]
   ·exact .inl ⟨rfl, hs⟩
   ·exact ctJoin_ok (.inl rfl) (.inl ⟨rfl, hs⟩) h1.1
  ·rw [(ctk_67 hk).1, (ctk_67 hk).2]; exact h1
end GoAbs
namespace GoAbs
open Go
end GoAbs
namespace GoAbs
open Go
theorem FmTy.inv_eq {Q : Ty → Prop} {g : List Ty} {x y : Tm} (h : FmTy Q g (fmEq x y)) : HasTy Q g x tNat ∧ HasTy Q g y tNat := by
 generalize e : fmEq x y = f at h
 cases h with
 | eq h1 h2 => simp only [fmEq, Fm.mk.injEq, List.cons.injEq, and_true, true_and] at e; obtain ⟨rfl, rfl⟩ := e; exact ⟨h1, h2⟩
 | two hk _ _ => simp [fmEq, fmTwo] at e
 | q hk _ => simp [fmEq, fmQ] at e
theorem FmTy.inv_two {Q : Ty → Prop} {g : List Ty} {k : Int} {a b : Fm} (h : FmTy Q g (fmTwo k a b)) : FmTy Q g a ∧ FmTy Q g b := by
 generalize e : fmTwo k a b = f at h
 cases h with
 | eq h1 h2 => simp [fmEq, fmTwo] at e
 | two hk h1 h2 => simp only [fmTwo, Fm.mk.injEq, List.cons.injEq, and_true, true_and] at e; obtain ⟨rfl, rfl, rfl⟩ := e; exact ⟨h1, h2⟩
 | q hk _ => simp [fmTwo, fmQ] at e
theorem FmTy.inv_q {Q : Ty → Prop} {g : List Ty} {k : Int} {s : Ty} {a : Fm} (h : FmTy Q g (fmQ k s a)) : FmTy Q (g ++ [s]) a := by
 generalize e : fmQ k s a = f at h
 cases h with
 | eq h1 h2 => simp [fmEq, fmQ] at e
 | two hk _ _ => simp [fmTwo, fmQ] at e
 | q hk h1 => simp only [fmQ, Fm.mk.injEq, List.cons.injEq, and_true, true_and] at e; obtain ⟨rfl, rfl, rfl⟩ := e; exact h1
end GoAbs
namespace GoAbs
open Go
def oneT : Tm := tm0 5 [tm0 4 []]
def distT : Tm := lamN (lamN (tm0 3 [tm0 3 [plusT, tm0 3 [tm0 3 [subT, tmVar 1], tmVar 0]], tm0 3 [tm0 3 [subT, tmVar 0], tmVar 1]]))
def chooseT (t : Ty) (c a b : Tm) : Tm := tmT 6 t [b, tmT 2 tNat [tmT 2 t [a]], c]
def eqT (x y : Tm) : Tm := chooseT tNat (tm0 3 [tm0 3 [distT, x], y]) (tm0 4 []) oneT
def elseT (k : Int) : Tm := if k == 2 then tm0 4 [] else oneT
def cutT (t : Tm) : Tm × Int := if tmErr t != 0 then (zeroT, 4) else (t, 0)
def twoT (k : Int) (x y : Tm × Int) : Tm × Int :=
 if x.2 != 0 then (zeroT, x.2) else if y.2 != 0 then (zeroT, y.2) else cutT (chooseT tNat x.1 (y.1.up 2 0) (elseT k))
/-- The characteristic term of a formula without quantifiers. -/
def trCase (k : Int) (ts : List Tm) : List (Tm × Int) → Tm × Int
 | [x, y] => twoT k x y
 | _ => cutT (eqT (ts.getD 0 zeroT) (ts.getD 1 zeroT))
mutual
def Fm.tr : Fm → Tm × Int
 | .mk k _ ts l => trCase k ts (Fm.trL l)
def Fm.trL : List Fm → List (Tm × Int)
 | [] => []
 | f :: l => f.tr :: Fm.trL l
end
theorem tr_eqn {x y : Tm} : (fmEq x y).tr = cutT (eqT x y) := by rw [fmEq, Fm.tr, Fm.trL]; rfl
theorem tr_two {k : Int} {a b : Fm} : (fmTwo k a b).tr = twoT k a.tr b.tr := by rw [fmTwo, Fm.tr, Fm.trL, Fm.trL, Fm.trL]; rfl
/-- truth.Term. -/
def trF (f : Fm) : Tm × Int :=
 if fmErr f != 0 then (zeroT, fmErr f) else if !f.mfree then (zeroT, 42) else if !f.least 268435456 then (zeroT, 1) else f.tr
theorem distT_W : TmW distT := lamN_W (lamN_W (tm0_W2 (tm0_W2 plusT_W (tm0_W2 (tm0_W2 subT_W (tmVar_W _)) (tmVar_W _))) (tm0_W2 (tm0_W2 subT_W (tmVar_W _)) (tmVar_W _))))
theorem oneT_W : TmW oneT := tm0_W1 tm0_W0
theorem elseT_W {k : Int} : TmW (elseT k) := by unfold elseT; split <;> first | exact tm0_W0 | exact oneT_W
theorem chooseT_W {t : Ty} {c a b : Tm} (ht : TyW t) (hc : TmW c) (ha : TmW a) (hb : TmW b) : TmW (chooseT t c a b) := tmT_W3 ht hb (tmT_W1 tNat_W (tmT_W1 ht ha)) hc
theorem eqT_W {x y : Tm} (hx : TmW x) (hy : TmW y) : TmW (eqT x y) := chooseT_W tNat_W (tm0_W2 (tm0_W2 distT_W hx) hy) tm0_W0 oneT_W
theorem distT_G : TmG distT := lamN_G (lamN_G (.t2 ar3 rfl (.t2 ar3 rfl plusT_G (.t2 ar3 rfl (.t2 ar3 rfl subT_G v1_G) v0_G)) (.t2 ar3 rfl (.t2 ar3 rfl subT_G v0_G) v1_G)))
theorem oneT_G : TmG oneT := .t1 ar5 rfl (.t0 ar4 rfl)
theorem elseT_G {k : Int} : TmG (elseT k) := by unfold elseT; split <;> first | exact .t0 ar4 rfl | exact oneT_G
theorem chooseT_G {t : Ty} {c a b : Tm} (ht : TyG t) (hc : TmG c) (ha : TmG a) (hb : TmG b) : TmG (chooseT t c a b) := .recr ht hb (.lam .nat (.lam ht ha)) hc
theorem eqT_G {x y : Tm} (hx : TmG x) (hy : TmG y) : TmG (eqT x y) := chooseT_G .nat (.t2 ar3 rfl (.t2 ar3 rfl distT_G hx) hy) (.t0 ar4 rfl) oneT_G
theorem chooseT_sz {t : Ty} {c a b : Tm} : tmSz (chooseT t c a b) = tmSz c + tmSz a + tmSz b + 3 := by
 rw [chooseT, tmSz_T3, tmSz_T1, tmSz_T1]; omega
theorem distT_sz : tmSz distT = 53 := by decide
theorem eqT_sz {x y : Tm} : tmSz (eqT x y) = tmSz x + tmSz y + 61 := by
 rw [eqT, chooseT_sz, tmSz_2, tmSz_2, distT_sz, oneT, tmSz_1, tmSz_0]; omega
theorem elseT_sz {k : Int} : tmSz (elseT k) ≤ 2 := by unfold elseT; split <;> simp [oneT, tmSz_1, tmSz_0]
theorem least_dist {m : Int} (hm : 1 ≤ m) : distT.least m = true :=
 least_T1 hm (least_T1 hm (least_2 hm (least_2 hm (least_plus hm) (least_2 hm (least_2 hm (least_sub hm) (least_v hm)) (least_v (by omega)))) (least_2 hm (least_2 hm (least_sub hm) (least_v (by omega))) (least_v hm))))
theorem least_else {m k : Int} (hm : 1 ≤ m) : (elseT k).least m = true := by unfold elseT; split <;> first | exact least_0 hm | exact least_1 hm (least_0 hm)
theorem chooseT_least {m : Int} {t : Ty} {c a b : Tm} (hm : 1 ≤ m) (hc : c.least m = true) (ha : a.least m = true) (hb : b.least m = true) : (chooseT t c a b).least m = true :=
 least_T3 hm hb (least_T1 hm (least_T1 hm ha)) hc
theorem eqT_least {m : Int} {x y : Tm} (hm : 1 ≤ m) (hx : x.least m = true) (hy : y.least m = true) : (eqT x y).least m = true :=
 chooseT_least hm (least_2 hm (least_2 hm (least_dist hm) hx) hy) (least_0 hm) (least_1 hm (least_0 hm))
theorem distT_ty {g : List Ty} : HasTy TyG g distT (tFun tNat (tFun tNat tNat)) :=
 .lam1 tNNN (.lam1 tNN (.n2 (ty := .mk 0 []) .app (.n2 (ty := .mk 0 []) .app .plus (.n2 (ty := .mk 0 []) .app (.n2 (ty := .mk 0 []) .app .sub .v1) .v0)) (.n2 (ty := .mk 0 []) .app (.n2 (ty := .mk 0 []) .app .sub .v0) .v1)))
theorem oneT_ty {g : List Ty} : HasTy TyG g oneT tNat := .num 1
theorem chooseT_ty {g : List Ty} {t : Ty} {c a b : Tm} (hs : TyG (tFun tNat (tFun t t))) (hs2 : TyG (tFun t t)) (hc : HasTy TyG g c tNat) (ha : HasTy TyG (g ++ [tNat] ++ [t]) a t) (hb : HasTy TyG g b t) : HasTy TyG g (chooseT t c a b) t :=
 .n3 .recr hb (.lam hs (.lam hs2 ha)) hc
theorem eqT_ty {g : List Ty} {x y : Tm} (hx : HasTy TyG g x tNat) (hy : HasTy TyG g y tNat) : HasTy TyG g (eqT x y) tNat :=
 chooseT_ty tNNN tNN (.n2 (ty := .mk 0 []) .app (.n2 (ty := .mk 0 []) .app distT_ty hx) hy) (.n0 (ty := .mk 0 []) .zero) oneT_ty
theorem cutT_ok {t r : Tm} (h : cutT t = (r, 0)) : r = t ∧ tmErr t = 0 := by
 unfold cutT at h
 split at h
 ·simp at h
 ·rename_i h0; simp at h h0; exact ⟨h.symm, h0⟩
theorem cutT_G {t : Tm} (h : TmG t) (hs : tmSz t ≤ 1000000) : cutT t = if tmSz t ≤ 4096 then (t, 0) else (zeroT, 4) := by
 unfold cutT; rw [h.err_val hs]; split <;> simp
theorem cutT_W {t : Tm} (h : TmW t) : TmW (cutT t).1 := by
 unfold cutT; split
 ·exact zeroT_W
 ·exact h
theorem twoT_W {k : Int} {x y : Tm × Int} (hx : TmW x.1) (hy : TmW y.1) : TmW (twoT k x y).1 := by
 unfold twoT; split
 ·exact zeroT_W
 split
 ·exact zeroT_W
 ·exact cutT_W (chooseT_W tNat_W hx (tm_upW _ _ hy) elseT_W)
theorem twoT_ok {k : Int} {x y : Tm × Int} {t : Tm} (h : twoT k x y = (t, 0)) : x.2 = 0 ∧ y.2 = 0 ∧ t = chooseT tNat x.1 (y.1.up 2 0) (elseT k) ∧ tmErr t = 0 := by
 unfold twoT at h
 split at h
 ·rename_i h0; simp at h0 h; exact absurd h.2 h0
 split at h
 ·rename_i h0; simp at h0 h; exact absurd h.2 h0
 ·rename_i h0 h1
  obtain ⟨rfl, h2⟩ := cutT_ok h
  exact ⟨by simpa using h0, by simpa using h1, rfl, h2⟩
theorem least_eqn' {M : Int} {x y : Tm} (h : (fmEq x y).least M = true) : x.least M = true ∧ y.least M = true := by
 rw [Fm.least_eq] at h
 simp only [fmEq, Fm.terms, Fm.args, Tm.leastL_cons, Tm.leastL_nil, Fm.leastL_nil, Bool.and_true, Bool.and_eq_true] at h; exact h
theorem least_two' {M k : Int} {x y : Fm} (h : (fmTwo k x y).least M = true) : x.least M = true ∧ y.least M = true := by
 rw [Fm.least_eq] at h
 simp only [fmTwo, Fm.terms, Fm.args, Fm.leastL_cons, Tm.leastL_nil, Fm.leastL_nil, Bool.and_true, Bool.true_and, Bool.and_eq_true] at h; exact h
theorem mfree_eqn {x y : Tm} : (fmEq x y).mfree = true := by rw [fmEq, Fm.mfree, Fm.mfreeL_nil]; rfl
theorem mfree_two' {k : Int} {a b : Fm} (h : (fmTwo k a b).mfree = true) : a.mfree = true ∧ b.mfree = true := by
 rw [fmTwo, Fm.mfree, Fm.mfreeL_cons, Fm.mfreeL_cons, Fm.mfreeL_nil] at h
 simp at h; exact h.2
theorem mfree_q' {k : Int} {t : Ty} {a : Fm} (hk : k = 4 ∨ k = 5 ∨ k = 6 ∨ k = 7) : (fmQ k t a).mfree = false := by
 rw [fmQ, Fm.mfree]
 rcases hk with rfl | rfl | rfl | rfl <;> simp
theorem tr_W {u : Bool} {f : Fm} (hf : FmG u f) : FmW f → f.mfree = true → TmW f.tr.1 := by
 induction hf with
 | eq _ _ => intro hw _; rw [tr_eqn]; exact cutT_W (eqT_W (hw.term (by simp [fmEq, Fm.terms])) (hw.term (by simp [fmEq, Fm.terms])))
 | two _ _ _ h1 h2 =>
  intro hw hm
  rw [tr_two]
  exact twoT_W (h1 (hw.arg (by simp [fmTwo, Fm.args])) (mfree_two' hm).1) (h2 (hw.arg (by simp [fmTwo, Fm.args])) (mfree_two' hm).2)
 | q hk _ _ _ => intro _ hm; rw [mfree_q' (FmG.qk hk)] at hm; cases hm
/-- What is made is well formed; its indices are hardly greater than those of the formula. -/
theorem tr_G {u : Bool} {f : Fm} (hf : FmG u f) : f.mfree = true → fmSz f ≤ 4096 → ∀ M : Int, 1 ≤ M → M ≤ 300000000 → f.least M = true → f.tr.2 = 0 → TmG f.tr.1 ∧ tmSz f.tr.1 ≤ 4096 ∧ f.tr.1.least (M + 2 * fmSz f) = true := by
 induction hf with
 | @eq x y hx hy =>
  intro _ hz M hM hM2 hl he
  rw [fmSz_eq] at hz ⊢
  have hG := eqT_G hx hy
  have hs : tmSz (eqT x y) ≤ 1000000 := by rw [eqT_sz]; omega
  rw [tr_eqn, cutT_G hG hs] at he ⊢
  split
  ·rename_i h4
   refine ⟨hG, h4, eqT_least (by omega) ?_ ?_⟩
   ·exact least_mono (by omega) _ (least_eqn' hl).1
   ·exact least_mono (by omega) _ (least_eqn' hl).2
  ·rename_i h4; rw [if_neg h4] at he; simp at he
 | @two k a b hk _ _ h1 h2 =>
  intro hm hz M hM hM2 hl he
  rw [fmSz_two] at hz ⊢
  rw [tr_two] at he ⊢
  obtain ⟨m1, m2⟩ := mfree_two' hm
  obtain ⟨l1, l2⟩ := least_two' hl
  cases hp : twoT k a.tr b.tr with
  | mk t e =>
  rw [hp] at he
  simp only at he
  subst he
  obtain ⟨e1, e2, rfl, e4⟩ := twoT_ok hp
  obtain ⟨a1, a2, a3⟩ := h1 m1 (by omega) M hM hM2 l1 e1
  obtain ⟨b1, b2, b3⟩ := h2 m2 (by omega) M hM hM2 l2 e2
  have b4 := TmG.up (b := 2) (by omega) (by omega) _ b1 (Nat.le_refl _) (least_mono (by omega) _ b3) 0
  have b5 := tmSz_up (b := 2) (t := b.tr.1) (fr := 0)
  have hG := chooseT_G .nat a1 b4 (elseT_G (k := k))
  have hsz := chooseT_sz (t := tNat) (c := a.tr.1) (a := b.tr.1.up 2 0) (b := elseT k)
  have := elseT_sz (k := k)
  have hs : tmSz (chooseT tNat a.tr.1 (b.tr.1.up 2 0) (elseT k)) ≤ 1000000 := by rw [hsz, b5]; omega
  rw [hG.err_val hs] at e4
  refine ⟨hG, ?_, chooseT_least (by omega) (least_mono (by omega) _ a3) ?_ (least_else (by omega))⟩
  ·by_cases h : tmSz (chooseT tNat a.tr.1 (b.tr.1.up 2 0) (elseT k)) ≤ 4096
   ·exact h
   ·rw [if_neg h] at e4; simp at e4
  ·exact least_mono (by omega) _ (least_up (b := 2) (M := M + 2 * fmSz b) (by omega) (by omega) (by omega) (by omega) _ b1 (Nat.le_refl _) b3 0)
 | q hk _ _ _ => intro hm; rw [mfree_q' (FmG.qk hk)] at hm; cases hm
end GoAbs
namespace GoAbs
open Go
def bldT (t : Tm) : Tm × Int := if decide (t.szW > 4096) then (zeroT, 4) else (t, 0)
theorem bldT_cut {t : Tm} (h : TmG t) (hs : tmSz t ≤ 1000000) : bldT t = cutT t := by
 rw [cutT_G h hs, bldT, h.szW hs]
 by_cases h4 : tmSz t ≤ 4096
 ·rw [if_neg (by simp; omega), if_pos h4]
 ·rw [if_pos (by simp; omega), if_neg h4]
/-- terms.Apply of the distance. -/
def applyT (x y : Tm) : Tm × Int := if decide ((tmSz x : Int) + tmSz y + 55 > 4096) then (zeroT, 4) else (tm0 3 [tm0 3 [distT, x], y], 0)
theorem eqT_apply {x y : Tm} (hx : TmG x) (hy : TmG y) (zx : tmSz x ≤ 4096) (zy : tmSz y ≤ 4096) :
  (if (applyT x y).2 != 0 then (zeroT, (applyT x y).2) else bldT (chooseT tNat (applyT x y).1 ((tm0 4 []).sl 2 0) oneT)) = cutT (eqT x y) := by
 have hG := eqT_G hx hy
 have hs : tmSz (eqT x y) ≤ 1000000 := by rw [eqT_sz]; omega
 have hz : (tm0 4 []).sl 2 0 = tm0 4 [] := rfl
 unfold applyT
 by_cases h : (tmSz x : Int) + tmSz y + 55 > 4096
 ·have e : (if decide ((tmSz x : Int) + tmSz y + 55 > 4096) = true then (zeroT, (4 : Int)) else (tm0 3 [tm0 3 [distT, x], y], 0)) = (zeroT, 4) := if_pos (decide_eq_true h)
  rw [e, if_pos (by decide), cutT_G hG hs, if_neg (by rw [eqT_sz]; omega)]
 ·have e : (if decide ((tmSz x : Int) + tmSz y + 55 > 4096) = true then (zeroT, (4 : Int)) else (tm0 3 [tm0 3 [distT, x], y], 0)) = (tm0 3 [tm0 3 [distT, x], y], 0) := if_neg (by simpa using h)
  rw [e, if_neg (by simp), hz]
  exact bldT_cut hG hs
theorem two_choose {k : Int} {x y : Tm × Int} (hx : TmG x.1) (hy : TmG y.1) (zx : tmSz x.1 ≤ 4096) (zy : tmSz y.1 ≤ 4096) (ly : y.1.least 300000000 = true) (e1 : x.2 = 0) (e2 : y.2 = 0) :
  bldT (chooseT tNat x.1 (y.1.sl 2 0) (elseT k)) = twoT k x y := by
 have hs := sl_up (b := 2) (by omega) (by omega) _ hy (Nat.le_refl _) (least_mono (by omega) _ ly) 0 (by omega) (by omega)
 have hu := TmG.up (b := 2) (by omega) (by omega) _ hy (Nat.le_refl _) (least_mono (by omega) _ ly) 0
 have hz := tmSz_up (b := 2) y.1 0
 have := elseT_sz (k := k)
 rw [hs, twoT, e1, e2, if_neg (by simp), if_neg (by simp)]
 exact bldT_cut (chooseT_G .nat hx hu elseT_G) (by rw [chooseT_sz, hz]; omega)
theorem chk_G {t : Tm} (h : TmG t) (hz : tmSz t ≤ 4096) : chk 4096 t.nodes = ((tmSz t : Int), 0) := by
 rw [h.nodes_val (by omega), chk, if_neg (by omega)]
/-- The sum of the nodes in terms.Apply. -/
def apAt (x y : Tm) (i : Nat) : Nat := if i = 0 then 53 else if i = 1 then 54 + tmSz x else 55 + tmSz x + tmSz y
theorem chk_dist : chk 4096 distT.nodes = (53, 0) := by
 rw [chk_G distT_G (by rw [distT_sz]; omega), distT_sz]; rfl
end GoAbs
namespace GoAbs
open Go
/-- truth.If. -/
def ifF (t : Ty) (c a b : Tm) : Tm × Int :=
 if tyErr t != 0 then (zeroT, tyErr t) else if tmErr c != 0 then (zeroT, tmErr c) else if tmErr a != 0 then (zeroT, tmErr a) else if tmErr b != 0 then (zeroT, tmErr b)
 else if !a.least 268435456 then (zeroT, 1) else cutT (chooseT t c (a.up 2 0) b)
theorem ifF_1 {t : Ty} {c a b : Tm} (h : (tyErr t != 0) = true) : ifF t c a b = (zeroT, tyErr t) := by unfold ifF; rw [if_pos h]
theorem ifF_2 {t : Ty} {c a b : Tm} (h : tyErr t = 0) (h1 : (tmErr c != 0) = true) : ifF t c a b = (zeroT, tmErr c) := by unfold ifF; rw [if_neg (by simp [h]), if_pos h1]
theorem ifF_3 {t : Ty} {c a b : Tm} (h : tyErr t = 0) (h1 : tmErr c = 0) (h2 : (tmErr a != 0) = true) : ifF t c a b = (zeroT, tmErr a) := by unfold ifF; rw [if_neg (by simp [h]), if_neg (by simp [h1]), if_pos h2]
theorem ifF_4 {t : Ty} {c a b : Tm} (h : tyErr t = 0) (h1 : tmErr c = 0) (h2 : tmErr a = 0) (h3 : (tmErr b != 0) = true) : ifF t c a b = (zeroT, tmErr b) := by
 unfold ifF; rw [if_neg (by simp [h]), if_neg (by simp [h1]), if_neg (by simp [h2]), if_pos h3]
theorem ifF_5 {t : Ty} {c a b : Tm} (h : tyErr t = 0) (h1 : tmErr c = 0) (h2 : tmErr a = 0) (h3 : tmErr b = 0) (h4 : a.least 268435456 = false) : ifF t c a b = (zeroT, 1) := by
 unfold ifF; rw [if_neg (by simp [h]), if_neg (by simp [h1]), if_neg (by simp [h2]), if_neg (by simp [h3]), if_pos (by simp [h4])]
theorem ifF_6 {t : Ty} {c a b : Tm} (h : tyErr t = 0) (h1 : tmErr c = 0) (h2 : tmErr a = 0) (h3 : tmErr b = 0) (h4 : a.least 268435456 = true) : ifF t c a b = cutT (chooseT t c (a.up 2 0) b) := by
 unfold ifF; rw [if_neg (by simp [h]), if_neg (by simp [h1]), if_neg (by simp [h2]), if_neg (by simp [h3]), if_neg (by simp [h4])]
end GoAbs
namespace GoAbs
open Go
/-- What is left to do, some parts being evaluated. -/
def argsK (E : Evl) (e : List Res) (k : Int) (u : Nat) (li : List Res) (ts : List Tm) : Out :=
 match evArgs E e u ts with
 | none => none
 | some (_, u', true) => some (zeroR, u', true)
 | some (l, u', false) => evOf E k u' (li ++ l)
theorem argsK_nil {E : Evl} {e : List Res} {k : Int} {u : Nat} {li : List Res} : argsK E e k u li [] = evOf E k u li := by simp [argsK, evArgs]
theorem argsK_cons {E : Evl} {e : List Res} {k : Int} {u : Nat} {li : List Res} {t : Tm} {ts : List Tm} :
  argsK E e k u li (t :: ts) = match E u t e with | none => none | some (_, u', true) => some (zeroR, u', true) | some (x, u', false) => argsK E e k u' (li ++ [x]) ts := by
 unfold argsK
 rw [evArgs]
 cases E u t e with
 | none => rfl
 | some p =>
  obtain ⟨x, u1, o1⟩ := p
  cases o1 with
  | true => rfl
  | false =>
   simp only
   cases evArgs E e u1 ts with
   | none => rfl
   | some q =>
    obtain ⟨l, u2, o2⟩ := q
    cases o2 <;> simp
theorem evStep_args {most : Nat} {E : Evl} {u : Nat} {t : Tm} {e : List Res} (hu : u ≠ most) (k1 : (t.kind == 1) = false) (k2 : (t.kind == 2) = false) :
  evStep most E u t e = argsK E e t.kind (u + 1) [] t.args := by
 unfold evStep argsK
 rw [if_neg hu, k1, k2]
 simp only [Bool.false_eq_true, if_false]
 cases evArgs E e (u + 1) t.args with
 | none => rfl
 | some p => obtain ⟨a, b, o⟩ := p; cases o <;> rfl
theorem evOf_3 {E : Evl} {u : Nat} {l : List Res} {p : Res × Nat × Bool} (h : evOf E 3 u l = some p) : ∃ f a, l = [f, a] ∧ evCall E u f a = some p := by
 unfold evOf at h
 rw [if_pos (by decide)] at h
 split at h
 ·exact ⟨_, _, rfl, h⟩
 ·cases h
theorem evOf_5 {E : Evl} {u : Nat} {l : List Res} {p : Res × Nat × Bool} (h : evOf E 5 u l = some p) : ∃ a, l = [a] ∧ p = (numR (a.num + 1), u, false) := by
 unfold evOf at h
 rw [if_neg (by decide), if_pos (by decide)] at h
 split at h
 ·exact ⟨_, rfl, (Option.some.inj h).symm⟩
 ·cases h
theorem evOf_6 {E : Evl} {u : Nat} {l : List Res} {p : Res × Nat × Bool} (h : evOf E 6 u l = some p) : ∃ z s n, l = [z, s, n] ∧ evRec E s n.num 0 u z = some p := by
 unfold evOf at h
 rw [if_neg (by decide), if_neg (by decide), if_pos (by decide)] at h
 split at h
 ·exact ⟨_, _, _, rfl, h⟩
 ·cases h
theorem evOf_8 {E : Evl} {u : Nat} {l : List Res} {p : Res × Nat × Bool} (h : evOf E 8 u l = some p) : ∃ a b, l = [a, b] ∧ p = (listR (a.num :: b.list), u, false) := by
 unfold evOf at h
 rw [if_neg (by decide), if_neg (by decide), if_neg (by decide), if_pos (by decide)] at h
 split at h
 ·exact ⟨_, _, rfl, (Option.some.inj h).symm⟩
 ·cases h
theorem evOf_9 {E : Evl} {u : Nat} {l : List Res} {p : Res × Nat × Bool} (h : evOf E 9 u l = some p) : ∃ z s n, l = [z, s, n] ∧ evFold E s n.list n.list.length u z = some p := by
 unfold evOf at h
 rw [if_neg (by decide), if_neg (by decide), if_neg (by decide), if_neg (by decide), if_pos (by decide)] at h
 split at h
 ·exact ⟨_, _, _, rfl, h⟩
 ·cases h
theorem evOf_10 {E : Evl} {u : Nat} {l : List Res} {p : Res × Nat × Bool} (h : evOf E 10 u l = some p) : p = (pairR l, u, false) := by
 unfold evOf at h
 rw [if_neg (by decide), if_neg (by decide), if_neg (by decide), if_neg (by decide), if_neg (by decide), if_pos (by decide)] at h
 exact (Option.some.inj h).symm
theorem evOf_11 {E : Evl} {u : Nat} {l : List Res} {p : Res × Nat × Bool} (h : evOf E 11 u l = some p) : ∃ a x y, l = [a] ∧ a.pair = [x, y] ∧ p = (x, u, false) := by
 unfold evOf at h
 rw [if_neg (by decide), if_neg (by decide), if_neg (by decide), if_neg (by decide), if_neg (by decide), if_neg (by decide), if_pos (by decide)] at h
 split at h
 ·split at h
  ·rename_i hp; exact ⟨_, _, _, rfl, hp, (Option.some.inj h).symm⟩
  ·cases h
 ·cases h
theorem evOf_12 {E : Evl} {u : Nat} {l : List Res} {p : Res × Nat × Bool} (h : evOf E 12 u l = some p) : ∃ a x y, l = [a] ∧ a.pair = [x, y] ∧ p = (y, u, false) := by
 unfold evOf at h
 rw [if_neg (by decide), if_neg (by decide), if_neg (by decide), if_neg (by decide), if_neg (by decide), if_neg (by decide), if_neg (by decide), if_pos (by decide)] at h
 split at h
 ·split at h
  ·rename_i hp; exact ⟨_, _, _, rfl, hp, (Option.some.inj h).symm⟩
  ·cases h
 ·cases h
theorem evOf_0 {E : Evl} {u : Nat} {k : Int} {l : List Res} {p : Res × Nat × Bool} (h : evOf E k u l = some p) (h3 : (k == 3) = false) (h5 : (k == 5) = false) (h6 : (k == 6) = false) (h8 : (k == 8) = false)
  (h9 : (k == 9) = false) (h10 : (k == 10) = false) (h11 : (k == 11) = false) (h12 : (k == 12) = false) : p = (zeroR, u, false) := by
 unfold evOf at h
 simp only [h3, h5, h6, h8, h9, h10, h11, h12, Bool.false_eq_true, if_false, Option.some.injEq] at h
 exact h.symm
theorem numR_cells (n : Nat) : (numR n).cells = [.int .i64 n, .sl .any [], .sl .any [], .int .i64 0, .int .i64 0, .int .i64 0, .sl .any [], .sl .any [], .sl .any []] := by
 rw [numR, Res.mk_cells]; simp [natI, ints, zeroT, Tm.kind, Tm.index, Tm.type, Ty.kind, Ty.args, Tm.args]
theorem zeroR_cells : zeroR.cells = [.int .i64 0, .sl .any [], .sl .any [], .int .i64 0, .int .i64 0, .int .i64 0, .sl .any [], .sl .any [], .sl .any []] := numR_cells 0
theorem listR_cells (l : List Nat) : (listR l).cells = [.int .i64 0, .sl .any (natI l), .sl .any [], .int .i64 0, .int .i64 0, .int .i64 0, .sl .any [], .sl .any [], .sl .any []] := by
 rw [listR, Res.mk_cells]; simp [zeroT, Tm.kind, Tm.index, Tm.type, Ty.kind, Ty.args, Tm.args]
theorem pairR_cells (l : List Res) : (pairR l).cells = [.int .i64 0, .sl .any [], .sl .any (l.map Res.cells), .int .i64 0, .int .i64 0, .int .i64 0, .sl .any [], .sl .any [], .sl .any []] := by
 rw [pairR, Res.mk_cells]; simp [natI, ints, zeroT, Tm.kind, Tm.index, Tm.type, Ty.kind, Ty.args, Tm.args]
theorem cloR_cells (b : Tm) (e : List Res) : (cloR b e).cells = [.int .i64 0, .sl .any [], .sl .any [], .int .i64 b.kind, .int .i64 b.index, .int .i64 b.type.kind, .sl .any (b.type.args.map Ty.cells), .sl .any (b.args.map Tm.cells), .sl .any (e.map Res.cells)] := by
 rw [cloR, Res.mk_cells]; simp [natI, ints]
theorem natI_eq (l : List Nat) : natI l = l.map fun (n : Nat) => [V.int .i64 (n : Int)] := by simp [natI, ints, List.map_map, Function.comp_def]
theorem natI_len (l : List Nat) : (natI l).length = l.length := by simp [natI_eq]
theorem natI_get {l : List Nat} {j : Nat} (h : j < l.length) : (natI l)[j]? = some [V.int .i64 (l.getD j 0 : Nat)] := by
 rw [natI_eq, List.getElem?_map, List.getD_eq_getElem?_getD, List.getElem?_eq_getElem h]; rfl
theorem natI_all (l : List Nat) : (natI l).all (fun e => e.length == 1) = true := by simp [natI_eq]
theorem natI_take (l : List Nat) : List.take l.length (natI l) = natI l := List.take_of_length_le (by rw [natI_len]; exact Nat.le_refl _)
theorem natI_drop (l : List Nat) (k : Nat) : List.drop k (natI l) = natI (l.drop k) := by simp [natI_eq]
theorem natI_cons (a : Nat) (l : List Nat) : natI (a :: l) = [V.int .i64 (a : Int)] :: natI l := by simp [natI_eq]
theorem natI_one (l : List Nat) : (natI l).flatten.all oneV = true := by
 rw [natI_eq, List.all_eq_true]; intro v hv
 obtain ⟨c, hc, hv⟩ := List.mem_flatten.1 hv
 obtain ⟨x, _, rfl⟩ := List.mem_map.1 hc
 simp at hv; subst hv; rfl
theorem natI_weak (l : List Nat) : weakLL (natI l) = natI l := by rw [natI, weakLL_ints]
theorem natI_in {S : Id → Prop} (l : List Nat) : InLL S (natI l) := by rw [natI]; exact InLL_ints _
attribute [go_sem] natI_len natI_all natI_take natI_drop natI_one natI_weak natI_in
end GoAbs
namespace GoAbs
open Go
theorem Val.v0 {e : List Res} {x r : Res} (h : Val (tmVar 0) (e ++ [x]) r) : r = x := by
 have := (Val.var (i := 0) h).2
 simpa using this.symm
theorem Val.v1 {e : List Res} {x y r : Res} (h : Val (tmVar 1) (e ++ [x] ++ [y]) r) : r = x := by
 have := (Val.var (i := 1) h).2
 have e1 : (e ++ [x] ++ [y]).length - 1 - 1 = e.length := by simp
 rw [e1, List.getElem?_append_left (by simp), List.getElem?_append_right (by omega), Nat.sub_self] at this
 simpa using this.symm
theorem Val.one {B a : Tm} {e : List Res} {r : Res} (h : Val (tm0 3 [lamN B, a]) e r) : ∃ x, Val a e x ∧ Val B (e ++ [x]) r := by
 obtain ⟨g, x, hg, hx, h2⟩ := Val.app (ty := .mk 0 []) h
 have := Val.lam hg
 subst this
 exact ⟨x, hx, h2⟩
theorem Val.two {B a b : Tm} {e : List Res} {r : Res} (h : Val (tm0 3 [tm0 3 [lamN (lamN B), a], b]) e r) : ∃ x y, Val a e x ∧ Val b e y ∧ Val B (e ++ [x] ++ [y]) r := by
 obtain ⟨f, y, hf, hy, h1⟩ := Val.app (ty := .mk 0 []) h
 obtain ⟨x, hx, h2⟩ := Val.one hf
 have := Val.lam h2
 subst this
 exact ⟨x, y, hx, hy, h1⟩
end GoAbs
namespace GoAbs
open Go
inductive MkFree : Nat → Fm → Prop
 | eq {n : Nat} {x y : Tm} : MkTm 1 [] tNat x → MkTm 1 [] tNat y → MkFree n (fmEq x y)
 | two {n : Nat} {k : Int} {a b : Fm} (hk : k = 2 ∨ k = 3) : MkFree n a → MkFree n b → MkFree (n + 1) (fmTwo k a b)
/-- What is kept of a closed formula without quantifiers. -/
structure FreeC (f : Fm) : Prop where
 ty : FmTy TyG [] f
 gd : FmG true f
 fr : f.mfree = true
 ls : f.least 268435456 = true
theorem mfree_twoB {k : Int} {a b : Fm} (hk : k = 2 ∨ k = 3) (ha : a.mfree = true) (hb : b.mfree = true) : (fmTwo k a b).mfree = true := by
 rw [fmTwo, Fm.mfree, Fm.mfreeL_cons, Fm.mfreeL_cons, Fm.mfreeL_nil, ha, hb]
 rcases hk with rfl | rfl <;> rfl
theorem FreeC.eq {x y : Tm} (hx : MkTm 1 [] tNat x) (hy : MkTm 1 [] tNat y) : FreeC (fmEq x y) ∧ fmSz (fmEq x y) ≤ 49 := by
 have tx := hx.ty (by simp) ⟨.nat, by rw [tySz_nat]; omega⟩
 have ty := hy.ty (by simp) ⟨.nat, by rw [tySz_nat]; omega⟩
 have n2 := tySz_nat
 have lx := hx.least (M := 1) (m := 268435456) (by omega) (by omega) (by simp) (by omega) (by simp; omega)
 have ly := hy.least (M := 1) (m := 268435456) (by omega) (by omega) (by simp) (by omega) (by simp; omega)
 have zx := (hx.one (by simp)).1
 have zy := (hy.one (by simp)).1
 exact ⟨⟨.eq tx ty, .eq (hx.G (by simp) .nat) (hy.G (by simp) .nat), mfree_eqn, least_eqn (by simpa using lx) (by simpa using ly)⟩, by rw [fmSz_eq]; omega⟩
theorem FreeC.two {k : Int} {a b : Fm} (hk : k = 2 ∨ k = 3) (ha : FreeC a) (hb : FreeC b) : FreeC (fmTwo k a b) :=
 ⟨.two hk ha.ty hb.ty, .two hk ha.gd hb.gd, mfree_twoB hk ha.fr hb.fr, least_two ha.ls hb.ls⟩
theorem MkFree.all {n : Nat} {f : Fm} (h : MkFree n f) : FreeC f ∧ fmSz f + 1 ≤ 50 * 2 ^ n := by
 induction h with
 | @eq n x y hx hy =>
  obtain ⟨h1, h2⟩ := FreeC.eq hx hy
  have := Nat.pow_pos (n := n) (show 0 < 2 by omega)
  exact ⟨h1, by omega⟩
 | @two n k a b hk _ _ h1 h2 =>
  refine ⟨h1.1.two hk h2.1, ?_⟩
  rw [fmSz_two, Nat.pow_succ]
  omega
theorem FreeC.trF {f : Fm} (h : FreeC f) (hz : fmSz f ≤ 4096) : trF f = f.tr := by
 unfold GoAbs.trF
 rw [h.gd.err0 hz, if_neg (by simp), h.fr, if_neg (by simp), h.ls, if_neg (by simp)]
def botF : Fm := fmEq (tm0 4 []) oneT
theorem botF_C : FreeC botF := ⟨.eq (.num 0) oneT_ty, .eq (.t0 ar4 rfl) oneT_G, mfree_eqn, by decide⟩
theorem botF_sz : fmSz botF = 4 := by decide
theorem botF_tr : botF.tr = (eqT (tm0 4 []) oneT, 0) := by
 rw [botF, tr_eqn, cutT_G (eqT_G (.t0 ar4 rfl) oneT_G) (by rw [eqT_sz, tmSz_0, oneT, tmSz_1, tmSz_0]; omega), if_pos (by rw [eqT_sz, tmSz_0, oneT, tmSz_1, tmSz_0]; omega)]
theorem if_zero : ifF tNat (tm0 4 []) (tm0 4 []) (tm0 4 []) = (chooseT tNat (tm0 4 []) (tm0 4 []) (tm0 4 []), 0) := by
 have hG : TmG (tm0 4 []) := .t0 ar4 rfl
 have e0 := hG.err0 (by rw [tmSz_0]; omega)
 have hu : (tm0 4 []).up 2 0 = tm0 4 [] := rfl
 rw [ifF_6 TyG.nat.err e0 e0 e0 (by decide), hu, cutT_G (chooseT_G .nat hG hG hG) (by rw [chooseT_sz, tmSz_0]; omega), if_pos (by rw [chooseT_sz, tmSz_0]; omega)]
end GoAbs
namespace GoAbs
open Go
mutual
def Ty.cnt : Ty → Nat → Nat
 | .mk _ l, m => Ty.cntL m 1 l
def Ty.cntL (m : Nat) : Nat → List Ty → Nat
 | n, [] => n
 | n, t :: l => if n ≤ m then Ty.cntL m (n + t.cnt (m - n)) l else n
end
theorem Ty.cnt_eq (t : Ty) (m : Nat) : t.cnt m = Ty.cntL m 1 t.args := by cases t; rw [Ty.cnt]; rfl
theorem Ty.cntL_nil {m n : Nat} : Ty.cntL m n [] = n := by rw [Ty.cntL]
theorem Ty.cntL_cons {m n : Nat} {t : Ty} {l : List Ty} (h : n ≤ m) : Ty.cntL m n (t :: l) = Ty.cntL m (n + t.cnt (m - n)) l := by rw [Ty.cntL, if_pos h]
theorem Ty.cntL_stop {m n : Nat} {l : List Ty} (h : ¬ n ≤ m) : Ty.cntL m n l = n := by cases l <;> rw [Ty.cntL]; rw [if_neg h]
def tyCnt (t : Ty) (m : Nat) : Nat := if m = 0 then 1 else t.cnt (m - 1)
mutual
def Tm.cnt : Tm → Nat → Nat
 | .mk _ _ ty l, m => Tm.cntL m (1 + tyCnt ty m) l
def Tm.cntL (m : Nat) : Nat → List Tm → Nat
 | n, [] => n
 | n, t :: l => if n ≤ m then Tm.cntL m (n + t.cnt (m - n)) l else n
end
theorem Tm.cnt_eq (t : Tm) (m : Nat) : t.cnt m = Tm.cntL m (1 + tyCnt t.type m) t.args := by cases t; rw [Tm.cnt]; rfl
theorem Tm.cntL_nil {m n : Nat} : Tm.cntL m n [] = n := by rw [Tm.cntL]
theorem Tm.cntL_cons {m n : Nat} {t : Tm} {l : List Tm} (h : n ≤ m) : Tm.cntL m n (t :: l) = Tm.cntL m (n + t.cnt (m - n)) l := by rw [Tm.cntL, if_pos h]
theorem Tm.cntL_stop {m n : Nat} {l : List Tm} (h : ¬ n ≤ m) : Tm.cntL m n l = n := by cases l <;> rw [Tm.cntL]; rw [if_neg h]
theorem Ty.cntL_ge : ∀ (l : List Ty) (m n : Nat), n ≤ Ty.cntL m n l
 | [], m, n => by rw [Ty.cntL]; omega
 | t :: l, m, n => by
  rw [Ty.cntL]; split
  ·have := Ty.cntL_ge l m (n + t.cnt (m - n)); omega
  ·omega
theorem Ty.cnt_pos (t : Ty) (m : Nat) : 1 ≤ t.cnt m := by rw [Ty.cnt_eq]; exact Ty.cntL_ge _ _ _
mutual
theorem Ty.cnt_le : ∀ (t : Ty) (m : Nat), t.cnt m ≤ m + 2
 | .mk _ l, m => by rw [Ty.cnt]; exact Ty.cntL_le l m 1 (by omega)
theorem Ty.cntL_le : ∀ (l : List Ty) (m n : Nat), n ≤ m + 2 → Ty.cntL m n l ≤ m + 2
 | [], m, n, h => by rw [Ty.cntL]; exact h
 | t :: l, m, n, h => by
  rw [Ty.cntL]; split
  ·have := Ty.cnt_le t (m - n)
   exact Ty.cntL_le l m _ (by omega)
  ·exact h
end
theorem tyCnt_le (t : Ty) (m : Nat) : tyCnt t m ≤ m + 1 := by
 unfold tyCnt; split
 ·omega
 ·have := t.cnt_le (m - 1); omega
theorem tyCnt_pos (t : Ty) (m : Nat) : 1 ≤ tyCnt t m := by
 unfold tyCnt; split
 ·omega
 ·exact t.cnt_pos _
theorem Tm.cntL_ge : ∀ (l : List Tm) (m n : Nat), n ≤ Tm.cntL m n l
 | [], m, n => by rw [Tm.cntL]; omega
 | t :: l, m, n => by
  rw [Tm.cntL]; split
  ·have := Tm.cntL_ge l m (n + t.cnt (m - n)); omega
  ·omega
theorem Tm.cnt_pos (t : Tm) (m : Nat) : 1 ≤ t.cnt m := by rw [Tm.cnt_eq]; have := Tm.cntL_ge t.args m (1 + tyCnt t.type m); omega
mutual
theorem Tm.cnt_le : ∀ (t : Tm) (m : Nat), t.cnt m ≤ m + 2
 | .mk _ _ ty l, m => by rw [Tm.cnt]; exact Tm.cntL_le l m _ (by have := tyCnt_le ty m; omega)
theorem Tm.cntL_le : ∀ (l : List Tm) (m n : Nat), n ≤ m + 2 → Tm.cntL m n l ≤ m + 2
 | [], m, n, h => by rw [Tm.cntL]; exact h
 | t :: l, m, n, h => by
  rw [Tm.cntL]; split
  ·have := Tm.cnt_le t (m - n)
   exact Tm.cntL_le l m _ (by omega)
  ·exact h
end
theorem Ty.cntL_fits : ∀ (l : List Ty) (m n : Nat), Ty.cntL m n l ≤ m → (∀ x ∈ l, ∃ m', m' ≤ m ∧ x.cnt m' ≤ m') ∧ n + l.length ≤ m
 | [], m, n, h => by rw [Ty.cntL] at h; exact ⟨by simp, by simpa using h⟩
 | t :: l, m, n, h => by
  rw [Ty.cntL] at h
  split at h
  ·obtain ⟨h1, h2⟩ := Ty.cntL_fits l m _ h
   have := t.cnt_pos (m - n)
   refine ⟨fun x hx => ?_, by simp only [List.length_cons]; omega⟩
   rcases List.mem_cons.1 hx with rfl | hx
   ·exact ⟨m - n, by omega, by omega⟩
   ·exact h1 x hx
  ·omega
theorem Ty.cnt_W : ∀ (t : Ty) (m : Nat), m ≤ 100000 → t.cnt m ≤ m → TyW t := by
 intro t
 induction t using Ty.ind with | h t ih => ?_
 intro m hm h
 rw [Ty.cnt_eq] at h
 obtain ⟨h1, h2⟩ := Ty.cntL_fits _ _ _ h
 cases t with | mk k l =>
 refine .mk k l (show (Ty.mk k l).args.length ≤ 100000 by omega) fun x hx => ?_
 obtain ⟨m', a, b⟩ := h1 x hx
 exact ih x hx m' (by omega) b
theorem Tm.cntL_fits : ∀ (l : List Tm) (m n : Nat), Tm.cntL m n l ≤ m → (∀ x ∈ l, ∃ m', m' ≤ m ∧ x.cnt m' ≤ m') ∧ n + l.length ≤ m
 | [], m, n, h => by rw [Tm.cntL] at h; exact ⟨by simp, by simpa using h⟩
 | t :: l, m, n, h => by
  rw [Tm.cntL] at h
  split at h
  ·obtain ⟨h1, h2⟩ := Tm.cntL_fits l m _ h
   have := t.cnt_pos (m - n)
   refine ⟨fun x hx => ?_, by simp only [List.length_cons]; omega⟩
   rcases List.mem_cons.1 hx with rfl | hx
   ·exact ⟨m - n, by omega, by omega⟩
   ·exact h1 x hx
  ·omega
theorem Tm.cnt_W : ∀ (t : Tm) (m : Nat), m ≤ 100000 → t.cnt m ≤ m → TmW t := by
 intro t
 induction t using Tm.ind with | h t ih => ?_
 intro m hm h
 rw [Tm.cnt_eq] at h
 obtain ⟨h1, h2⟩ := Tm.cntL_fits _ _ _ h
 have hty : TyW t.type := by
  unfold tyCnt at h2
  split at h2
  ·omega
  ·exact Ty.cnt_W t.type (m - 1) (by omega) (by omega)
 cases t with | mk k i ty l =>
 refine .mk k i ty l hty (show (Tm.mk k i ty l).args.length ≤ 100000 by omega) fun x hx => ?_
 obtain ⟨m', a, b⟩ := h1 x hx
 exact ih x hx m' (by omega) b
/-- play.Count().Term(..). -/
def sumTm : Nat → List Tm → Nat
 | n, [] => n
 | n, t :: l => if n ≤ 20000 then sumTm (n + t.cnt 20000) l else n
theorem sumTm_cons {n : Nat} {t : Tm} {l : List Tm} (h : n ≤ 20000) : sumTm n (t :: l) = sumTm (n + t.cnt 20000) l := by rw [sumTm, if_pos h]
theorem sumTm_stop {n : Nat} {l : List Tm} (h : ¬ n ≤ 20000) : sumTm n l = n := by cases l <;> rw [sumTm]; rw [if_neg h]
theorem sumTm_ge : ∀ (l : List Tm) (n : Nat), n ≤ sumTm n l
 | [], n => by rw [sumTm]; omega
 | t :: l, n => by
  rw [sumTm]; split
  ·have := sumTm_ge l (n + t.cnt 20000); omega
  ·omega
end GoAbs
namespace GoAbs
open Go
mutual
def Fm.cnt : Fm → Nat → Nat
 | .mk _ ty ts l, m => Fm.cntL m (Tm.cntL m (1 + tyCnt ty m) ts) l
def Fm.cntL (m : Nat) : Nat → List Fm → Nat
 | n, [] => n
 | n, t :: l => if n ≤ m then Fm.cntL m (n + t.cnt (m - n)) l else n
end
theorem Fm.cnt_eq (t : Fm) (m : Nat) : t.cnt m = Fm.cntL m (Tm.cntL m (1 + tyCnt t.type m) t.terms) t.args := by cases t; rw [Fm.cnt]; rfl
theorem Fm.cntL_nil {m n : Nat} : Fm.cntL m n [] = n := by rw [Fm.cntL]
theorem Fm.cntL_cons {m n : Nat} {t : Fm} {l : List Fm} (h : n ≤ m) : Fm.cntL m n (t :: l) = Fm.cntL m (n + t.cnt (m - n)) l := by rw [Fm.cntL, if_pos h]
theorem Fm.cntL_stop {m n : Nat} {l : List Fm} (h : ¬ n ≤ m) : Fm.cntL m n l = n := by cases l <;> rw [Fm.cntL]; rw [if_neg h]
theorem Fm.cntL_ge : ∀ (l : List Fm) (m n : Nat), n ≤ Fm.cntL m n l
 | [], m, n => by rw [Fm.cntL]; omega
 | t :: l, m, n => by
  rw [Fm.cntL]; split
  ·have := Fm.cntL_ge l m (n + t.cnt (m - n)); omega
  ·omega
theorem Fm.cnt_pos (t : Fm) (m : Nat) : 1 ≤ t.cnt m := by
 rw [Fm.cnt_eq]
 have h1 := Fm.cntL_ge t.args m (Tm.cntL m (1 + tyCnt t.type m) t.terms)
 have h2 := Tm.cntL_ge t.terms m (1 + tyCnt t.type m)
 omega
mutual
theorem Fm.cnt_le : ∀ (t : Fm) (m : Nat), t.cnt m ≤ m + 2
 | .mk _ ty ts l, m => by
  rw [Fm.cnt]
  exact Fm.cntL_le l m _ (Tm.cntL_le ts m _ (by have := tyCnt_le ty m; omega))
theorem Fm.cntL_le : ∀ (l : List Fm) (m n : Nat), n ≤ m + 2 → Fm.cntL m n l ≤ m + 2
 | [], m, n, h => by rw [Fm.cntL]; exact h
 | t :: l, m, n, h => by
  rw [Fm.cntL]; split
  ·have := Fm.cnt_le t (m - n)
   exact Fm.cntL_le l m _ (by omega)
  ·exact h
end
theorem Fm.cntL_fits : ∀ (l : List Fm) (m n : Nat), Fm.cntL m n l ≤ m → (∀ x ∈ l, ∃ m', m' ≤ m ∧ x.cnt m' ≤ m') ∧ n + l.length ≤ m
 | [], m, n, h => by rw [Fm.cntL] at h; exact ⟨by simp, by simpa using h⟩
 | t :: l, m, n, h => by
  rw [Fm.cntL] at h
  split at h
  ·obtain ⟨h1, h2⟩ := Fm.cntL_fits l m _ h
   have := t.cnt_pos (m - n)
   refine ⟨fun x hx => ?_, by simp only [List.length_cons]; omega⟩
   rcases List.mem_cons.1 hx with rfl | hx
   ·exact ⟨m - n, by omega, by omega⟩
   ·exact h1 x hx
  ·omega
theorem Fm.cnt_W : ∀ (t : Fm) (m : Nat), m ≤ 100000 → t.cnt m ≤ m → FmW t := by
 intro t
 induction t using Fm.ind with | h t ih => ?_
 intro m hm h
 rw [Fm.cnt_eq] at h
 obtain ⟨h1, h2⟩ := Fm.cntL_fits _ _ _ h
 obtain ⟨h3, h4⟩ := Tm.cntL_fits t.terms m (1 + tyCnt t.type m) (by omega)
 have hty : TyW t.type := by
  unfold tyCnt at h4
  split at h4
  ·omega
  ·refine Ty.cnt_W t.type (m - 1) (by omega) (by omega)
 cases t with | mk k ty ts l =>
 refine .mk k ty ts l hty (show (Fm.mk k ty ts l).terms.length ≤ 100000 by omega) (fun x hx => ?_) (show (Fm.mk k ty ts l).args.length ≤ 100000 by omega) fun x hx => ?_
 ·obtain ⟨m', a, b⟩ := h3 x hx
  exact Tm.cnt_W x m' (by omega) b
 ·obtain ⟨m', a, b⟩ := h1 x hx
  exact ih x hx m' (by omega) b
end GoAbs
namespace GoAbs
open Go
mutual
theorem Ty.cnt_sz : ∀ (t : Ty) (m : Nat), t.cnt m ≤ m → tySz t ≤ t.cnt m
 | .mk _ l, m, h => by
  rw [Ty.cnt] at h ⊢
  rw [tySz]
  have := Ty.cntL_sz l m 1 h; omega
theorem Ty.cntL_sz : ∀ (l : List Ty) (m n : Nat), Ty.cntL m n l ≤ m → n + tySzL l ≤ Ty.cntL m n l
 | [], m, n, h => by rw [Ty.cntL, tySzL]; omega
 | t :: l, m, n, h => by
  rw [Ty.cntL] at h ⊢
  split at h
  ·rename_i h1
   rw [if_pos h1]
   have h2 := Ty.cntL_sz l m _ h
   have h3 := Ty.cnt_sz t (m - n) (by omega)
   rw [tySzL]; omega
  ·omega
end
mutual
theorem Tm.cnt_sz : ∀ (t : Tm) (m : Nat), t.cnt m ≤ m → tmSz t ≤ t.cnt m
 | .mk _ _ ty l, m, h => by
  rw [Tm.cnt] at h ⊢
  rw [tmSz]
  have := Tm.cntL_sz l m _ h; omega
theorem Tm.cntL_sz : ∀ (l : List Tm) (m n : Nat), Tm.cntL m n l ≤ m → n + tmSzL l ≤ Tm.cntL m n l
 | [], m, n, h => by rw [Tm.cntL, tmSzL]; omega
 | t :: l, m, n, h => by
  rw [Tm.cntL] at h ⊢
  split at h
  ·rename_i h1
   rw [if_pos h1]
   have h2 := Tm.cntL_sz l m _ h
   have h3 := Tm.cnt_sz t (m - n) (by omega)
   rw [tmSzL]; omega
  ·omega
end
mutual
theorem Fm.cnt_sz : ∀ (t : Fm) (m : Nat), t.cnt m ≤ m → fmSz t ≤ t.cnt m
 | .mk _ ty ts l, m, h => by
  rw [Fm.cnt] at h ⊢
  rw [fmSz]
  have h1 := Fm.cntL_sz l m _ h
  have h2 := Tm.cntL_sz ts m (1 + tyCnt ty m) (by omega)
  omega
theorem Fm.cntL_sz : ∀ (l : List Fm) (m n : Nat), Fm.cntL m n l ≤ m → n + fmSzL l ≤ Fm.cntL m n l
 | [], m, n, h => by rw [Fm.cntL, fmSzL]; omega
 | t :: l, m, n, h => by
  rw [Fm.cntL] at h ⊢
  split at h
  ·rename_i h1
   rw [if_pos h1]
   have h2 := Fm.cntL_sz l m _ h
   have h3 := Fm.cnt_sz t (m - n) (by omega)
   rw [fmSzL]; omega
  ·omega
end
theorem tyWant_cases {k w : Int} (h : tyWant k = some w) : (w = 0 ∧ (k = 1 ∨ k = 2 ∨ k = 5)) ∨ (w = 2 ∧ (k = 3 ∨ k = 4)) := by
 unfold tyWant at h
 split at h
 ·rename_i h1
  simp only [Option.some.injEq] at h
  simp only [Bool.or_eq_true, beq_iff_eq] at h1
  omega
 ·split at h
  ·rename_i h1
   simp only [Option.some.injEq] at h
   simp only [Bool.or_eq_true, beq_iff_eq] at h1
   omega
  ·cases h
theorem ilen0 {α : Type} {l : List α} (h : (l.length : Int) = 0) : l = [] := List.length_eq_zero_iff.1 (by omega)
theorem ilen1 {α : Type} {l : List α} (h : (l.length : Int) = 1) : ∃ a, l = [a] := lst1 (by omega)
theorem ilen2 {α : Type} {l : List α} (h : (l.length : Int) = 2) : ∃ a b, l = [a, b] := by
 match l, h with
 | [a, b], _ => exact ⟨a, b, rfl⟩
 | [], h => simp at h
 | [_], h => simp at h
 | _ :: _ :: _ :: _, h => simp at h; omega
theorem TyF_good : ∀ t : Ty, t.good = true → TyF t := by
 intro t
 induction t using Ty.ind with | h t ih => ?_
 intro h
 rw [Ty.good_eq] at h
 cases t with | mk k l =>
 simp only [Ty.kind, Ty.args] at h ih
 cases hw : tyWant k with
 | none => rw [hw] at h; cases h
 | some w =>
  rw [hw] at h
  simp only [Bool.and_eq_true, beq_iff_eq, List.all_eq_true] at h
  obtain ⟨h1, h2⟩ := h
  rcases tyWant_cases hw with ⟨rfl, hk⟩ | ⟨rfl, hk⟩
  ·obtain rfl := ilen0 h1
   rcases hk with rfl | rfl | rfl
   ·exact .nat
   ·exact .list
   ·exact .unit
  ·obtain ⟨a, b, rfl⟩ := ilen2 h1
   have ha := ih a (by simp) (h2 a (by simp))
   have hb := ih b (by simp) (h2 b (by simp))
   rcases hk with rfl | rfl
   ·exact .pair ha hb
   ·exact .func ha hb
theorem chk_good {m : Int} {o : Option Int} (h : (chk m o).2 = 0) : o.isSome = true := by
 cases o with
 | none => simp [chk] at h
 | some _ => rfl
theorem tyErr0 {t : Ty} {m : Nat} (hm : m ≤ 100000) (hc : t.cnt m ≤ m) (h : tyErr t = 0) : TyG t := by
 have h1 := TyF_good t (chk_good h)
 have h2 := Ty.cnt_sz t m hc
 rw [h1.err (by omega)] at h
 split at h
 ·exact ⟨h1, by assumption⟩
 ·cases h
theorem noType_eq {t : Ty} (h : noType t = true) : t = .mk 0 [] := by
 cases t with | mk k l =>
 simp only [noType, Ty.kind, Ty.args, Bool.and_eq_true, beq_iff_eq] at h
 obtain ⟨rfl, h2⟩ := h
 rw [ilen0 h2]
theorem TmG_good : ∀ (t : Tm) (m : Nat), m ≤ 100000 → t.cnt m ≤ m → t.good = true → TmG t := by
 intro t
 induction t using Tm.ind with | h t ih => ?_
 intro m hm hc h
 rw [Tm.cnt_eq] at hc
 obtain ⟨h1, h2⟩ := Tm.cntL_fits _ _ _ hc
 rw [Tm.good_eq] at h
 cases t with | mk k i ty l =>
 simp only [Tm.kind, Tm.index, Tm.type, Tm.args, Bool.and_eq_true, List.all_eq_true] at h ih h1 h2
 obtain ⟨hh, hr⟩ := h
 have hl : ∀ x ∈ l, TmG x := fun x hx => by
  obtain ⟨m', a, b⟩ := h1 x hx
  exact ih x hx m' (by omega) b (hr x hx)
 unfold tmHead at hh
 cases ha : arity k with
 | none => rw [ha] at hh; cases hh
 | some a =>
  rw [ha] at hh
  simp only [Bool.and_eq_true, Bool.or_eq_true, beq_iff_eq, decide_eq_true_eq] at hh
  obtain ⟨⟨⟨hn, h0⟩, hi⟩, ht⟩ := hh
  cases hty : typed k with
  | true =>
   rw [hty] at ht
   simp only [if_true, beq_iff_eq] at ht
   have hk : k ≠ 1 := by rintro rfl; cases hty
   obtain rfl : i = 0 := by rcases hi with h | h <;> omega
   have hg : TyG ty := by
    have hcc : tyCnt ty m ≤ m := by omega
    unfold tyCnt at h2 hcc
    split at h2
    ·omega
    ·exact tyErr0 (m := m - 1) (by omega) (by omega) ht
   exact .typd ha hn hty hg hl
  | false =>
   rw [hty] at ht
   simp only [Bool.false_eq_true, if_false] at ht
   obtain rfl := noType_eq ht
   by_cases hk : k = 1
   ·subst hk
    have : a = 0 := by rw [show arity 1 = some 0 from rfl] at ha; simpa using ha.symm
    subst this
    obtain rfl := ilen0 hn
    exact .var h0
   ·obtain rfl : i = 0 := by rcases hi with h | h <;> omega
    exact .plain ha hn hty hl
theorem tmErr0 {t : Tm} {m : Nat} (hm : m ≤ 100000) (hc : t.cnt m ≤ m) (h : tmErr t = 0) : TmG t ∧ tmSz t ≤ 4096 := by
 have h1 := TmG_good t m hm hc (chk_good h)
 have h2 := Tm.cnt_sz t m hc
 rw [h1.err_val (by omega)] at h
 split at h
 ·exact ⟨h1, by assumption⟩
 ·cases h
theorem fmWant_cases {k : Int} {p : Int × Int × Bool} (h : fmWant k = some p) : (k = 1 ∧ p = (2, 0, false)) ∨ ((k = 2 ∨ k = 3) ∧ p = (0, 2, false)) ∨ ((k = 4 ∨ k = 5 ∨ k = 6 ∨ k = 7) ∧ p = (0, 1, true)) := by
 unfold fmWant at h
 split at h
 ·rename_i h1
  simp only [Option.some.injEq] at h
  exact .inl ⟨by simpa using h1, h.symm⟩
 ·split at h
  ·rename_i h1
   simp only [Option.some.injEq] at h
   exact .inr (.inl ⟨by simpa using h1, h.symm⟩)
  ·split at h
   ·rename_i h1
    simp only [Option.some.injEq] at h
    refine .inr (.inr ⟨?_, h.symm⟩)
    simp only [Bool.or_eq_true, beq_iff_eq] at h1
    omega
   ·cases h
theorem FmG_good : ∀ (t : Fm) (m : Nat), m ≤ 100000 → t.cnt m ≤ m → t.good = true → FmG true t := by
 intro t
 induction t using Fm.ind with | h t ih => ?_
 intro m hm hc h
 rw [Fm.cnt_eq] at hc
 obtain ⟨h1, h2⟩ := Fm.cntL_fits _ _ _ hc
 obtain ⟨h3, h4⟩ := Tm.cntL_fits t.terms m (1 + tyCnt t.type m) (by omega)
 rw [Fm.good_eq] at h
 cases t with | mk k ty ts l =>
 simp only [Fm.kind, Fm.type, Fm.terms, Fm.args, Bool.and_eq_true, List.all_eq_true] at h ih h1 h2 h3 h4
 obtain ⟨⟨hh, hs⟩, hr⟩ := h
 have hl : ∀ x ∈ l, FmG true x := fun x hx => by
  obtain ⟨m', a, b⟩ := h1 x hx
  exact ih x hx m' (by omega) b (hr x hx)
 have ht : ∀ x ∈ ts, TmG x := fun x hx => by
  obtain ⟨m', a, b⟩ := h3 x hx
  exact TmG_good x m' (by omega) b (hs x hx)
 unfold formed at hh
 cases hw : fmWant k with
 | none => rw [hw] at hh; cases hh
 | some p =>
  rw [hw] at hh
  rcases fmWant_cases hw with ⟨hk, rfl⟩ | ⟨hk, rfl⟩ | ⟨hk, rfl⟩
  ·simp only [Bool.false_eq_true, if_false, Bool.and_eq_true, beq_iff_eq] at hh
   obtain ⟨⟨e1, e2⟩, e3⟩ := hh
   obtain rfl := noType_eq e1
   obtain ⟨x, y, rfl⟩ := ilen2 e2
   obtain rfl := ilen0 e3
   subst hk
   exact .eq (ht x (by simp)) (ht y (by simp))
  ·simp only [Bool.false_eq_true, if_false, Bool.and_eq_true, beq_iff_eq] at hh
   obtain ⟨⟨e1, e2⟩, e3⟩ := hh
   obtain rfl := noType_eq e1
   obtain rfl := ilen0 e2
   obtain ⟨x, y, rfl⟩ := ilen2 e3
   exact .two hk (hl x (by simp)) (hl y (by simp))
  ·simp only [if_true, Bool.and_eq_true, beq_iff_eq] at hh
   obtain ⟨⟨e1, e2⟩, e3⟩ := hh
   obtain rfl := ilen0 e2
   obtain ⟨x, rfl⟩ := ilen1 e3
   have hg : TyG ty := by
    have hcc : tyCnt ty m ≤ m := by omega
    unfold tyCnt at h4 hcc
    split at h4
    ·omega
    ·exact tyErr0 (m := m - 1) (by omega) (by omega) e1
   refine .q ?_ hg (hl x (by simp))
   rcases hk with h | h | h | h
   ·exact .inl h
   ·exact .inr (.inl h)
   ·exact .inr (.inr ⟨rfl, .inl h⟩)
   ·exact .inr (.inr ⟨rfl, .inr h⟩)
theorem fmErr0 {t : Fm} {m : Nat} (hm : m ≤ 100000) (hc : t.cnt m ≤ m) (h : fmErr t = 0) : FmG true t ∧ fmSz t ≤ 4096 := by
 have h1 := FmG_good t m hm hc (chk_good h)
 have h2 := Fm.cnt_sz t m hc
 rw [h1.err_val (by omega)] at h
 split at h
 ·exact ⟨h1, by assumption⟩
 ·cases h
def sumFm : Nat → List Fm → Nat
 | n, [] => n
 | n, t :: l => if n ≤ 20000 then sumFm (n + t.cnt 20000) l else n
theorem sumFm_cons {n : Nat} {t : Fm} {l : List Fm} (h : n ≤ 20000) : sumFm n (t :: l) = sumFm (n + t.cnt 20000) l := by rw [sumFm, if_pos h]
theorem sumFm_stop {n : Nat} {l : List Fm} (h : ¬ n ≤ 20000) : sumFm n l = n := by cases l <;> rw [sumFm]; rw [if_neg h]
def sumTy : Nat → List Ty → Nat
 | n, [] => n
 | n, t :: l => if n ≤ 20000 then sumTy (n + t.cnt 20000) l else n
theorem sumTy_cons {n : Nat} {t : Ty} {l : List Ty} (h : n ≤ 20000) : sumTy n (t :: l) = sumTy (n + t.cnt 20000) l := by rw [sumTy, if_pos h]
theorem sumTy_stop {n : Nat} {l : List Ty} (h : ¬ n ≤ 20000) : sumTy n l = n := by cases l <;> rw [sumTy]; rw [if_neg h]
theorem sum_one {f : Fm} {s : Ty} : sumFm 0 [f] = f.cnt 20000 ∧ (f.cnt 20000 ≤ 20000 → sumTy (f.cnt 20000) [s] = f.cnt 20000 + s.cnt 20000) := by
 refine ⟨by rw [sumFm_cons (by omega), sumFm]; omega, fun h => by rw [sumTy_cons h, sumTy]⟩
/-- What is not too much to be looked at. -/
theorem sum_fits {f : Fm} {s : Ty} {c a b : Tm} (h : sumTm (sumTy (sumFm 0 [f]) [s]) [c, a, b] ≤ 20000) :
  f.cnt 20000 ≤ 20000 ∧ s.cnt 20000 ≤ 20000 ∧ c.cnt 20000 ≤ 20000 ∧ a.cnt 20000 ≤ 20000 ∧ b.cnt 20000 ≤ 20000 := by
 have g1 := sumTm_ge [c, a, b] (sumTy (sumFm 0 [f]) [s])
 rw [(sum_one (f := f) (s := s)).1] at h g1
 by_cases h1 : f.cnt 20000 ≤ 20000
 ·rw [(sum_one (s := s)).2 h1] at h g1
  rw [sumTm_cons (by omega)] at h
  have g2 := sumTm_ge [a, b] (f.cnt 20000 + s.cnt 20000 + c.cnt 20000)
  rw [sumTm_cons (by omega)] at h
  have g3 := sumTm_ge [b] (f.cnt 20000 + s.cnt 20000 + c.cnt 20000 + a.cnt 20000)
  rw [sumTm_cons (by omega), sumTm] at h
  omega
 ·rw [sumTy_stop h1] at g1 h
  omega
/-- What is asked of a raw tree. -/
def TyX (t : Ty) : Prop := TyW t ∧ (tyErr t = 0 → TyG t)
def TmX (t : Tm) : Prop := TmW t ∧ (tmErr t = 0 → TmG t ∧ tmSz t ≤ 4096)
def FmX (f : Fm) : Prop := FmW f ∧ (fmErr f = 0 → FmG true f ∧ fmSz f ≤ 4096)
theorem TyX.raw {t : Ty} (h : t.cnt 20000 ≤ 20000) : TyX t := ⟨Ty.cnt_W t 20000 (by omega) h, tyErr0 (by omega) h⟩
theorem TmX.raw {t : Tm} (h : t.cnt 20000 ≤ 20000) : TmX t := ⟨Tm.cnt_W t 20000 (by omega) h, tmErr0 (by omega) h⟩
theorem FmX.raw {f : Fm} (h : f.cnt 20000 ≤ 20000) : FmX f := ⟨Fm.cnt_W f 20000 (by omega) h, fmErr0 (by omega) h⟩
theorem TmX.far {i : Int} (h : 0 ≤ i) : TmX (tmVar i) := ⟨tmVar_W i, fun _ => ⟨.var h, by rw [tmSz_v]; omega⟩⟩
theorem FmX.of {f : Fm} (hG : FmG true f) (hz : fmSz f ≤ 100000) (hw : FmW f) : FmX f := ⟨hw, fun h => ⟨hG, by
 rw [hG.err_val (by omega)] at h
 split at h
 ·assumption
 ·cases h⟩⟩
theorem trF_W {f : Fm} (h : FmX f) : TmW (trF f).1 := by
 unfold trF
 split
 ·exact zeroT_W
 ·rename_i h0
  split
  ·exact zeroT_W
  ·rename_i h1
   split
   ·exact zeroT_W
   ·exact tr_W (h.2 (by simpa using h0)).1 h.1 (by simpa using h1)
theorem ifF_W {t : Ty} {c a b : Tm} (ht : TyX t) (hc : TmX c) (ha : TmX a) (hb : TmX b) : TmW (ifF t c a b).1 := by
 unfold ifF
 split
 ·exact zeroT_W
 split
 ·exact zeroT_W
 split
 ·exact zeroT_W
 split
 ·exact zeroT_W
 split
 ·exact zeroT_W
 ·exact cutT_W (chooseT_W ht.1 hc.1 (tm_upW _ _ ha.1) hb.1)
end GoAbs
namespace GoAbs
open Go Go.ChangeShapes Go.WideShapes Go.RowKit
def I64 (n : Int) : Prop := (Lit.int .i64 n).wf = true
inductive TyN : Ty → Prop
 | mk {k : Int} {l : List Ty} (h : I64 k) (r : ∀ x ∈ l, TyN x) : TyN (.mk k l)
inductive TmN : Tm → Prop
 | mk {k i : Int} {t : Ty} {l : List Tm} (h : I64 k) (h' : I64 i) (ht : TyN t) (r : ∀ x ∈ l, TmN x) : TmN (.mk k i t l)
inductive FmN : Fm → Prop
 | mk {k : Int} {t : Ty} {ts : List Tm} {l : List Fm} (h : I64 k) (ht : TyN t) (hs : ∀ x ∈ ts, TmN x) (r : ∀ x ∈ l, FmN x) : FmN (.mk k t ts l)
theorem I64_0 : I64 0 := by unfold I64; decide
instance : Inhabited {t : Ty // TyN t} := ⟨⟨.mk 0 [], .mk I64_0 (by simp)⟩⟩
instance : Inhabited {t : Tm // TmN t} := ⟨⟨.mk 0 0 (.mk 0 []) [], .mk I64_0 I64_0 (.mk I64_0 (by simp)) (by simp)⟩⟩
instance : Inhabited {t : Fm // FmN t} := ⟨⟨.mk 0 (.mk 0 []) [] [], .mk I64_0 (.mk I64_0 (by simp)) (by simp) (by simp)⟩⟩
theorem val_map {T : Type} {p : T → Prop} (ec : T → List V) (l : List {t : T // p t}) : (l.map fun y => ec y.1) = (l.map Subtype.val).map ec := by rw [List.map_map]; rfl
theorem val_mem {T : Type} {p : T → Prop} (l : List {t : T // p t}) : ∀ x ∈ l.map Subtype.val, p x := by
 intro x hx
 obtain ⟨y, _, rfl⟩ := List.mem_map.1 hx
 exact y.2
section
variable {H' : Type} {enc : TypeId × Value → H'} {P : Program} {W : World} {base : Nat} {sp : Nat → Bool} {held : Bool}
theorem raw_TyN {tI tT tTs : TypeId} {n0 n1 : Field} (hI : P.underlying tI = some (.int .i64)) (hT : P.underlying tT = some (.struct #[n0, n1])) (hs : P.underlying tTs = some (.slice tT))
  (f0 : n0.type = tI) (f1 : n1.type = tTs) (o0 : n0.offset = 0) (o1 : n1.offset = 1) (cI : P.cellsOf tI = 1) (cT : P.cellsOf tT = 2) (cs : P.cellsOf tTs = 1) :
  ∀ (fuel : Nat) (l : List Value) (x : DataW H' × List MemPlace), DataW.trod enc P W base sp held fuel tT l = some x → ∃ y : {t : Ty // TyN t}, CellsRV W l y.1.cells := by
 intro fuel
 induction fuel using Nat.strongRecOn with
 | _ fuel ih =>
  intro l x h
  obtain ⟨xs, n, hn, _, hl, hlen, hf⟩ := DataW.trod_struct hT h
  rw [cT] at hl
  match l, hl with
  | [a, b], _ =>
   have h0 := hf 0 n0 rfl
   have h1 := hf 1 n1 rfl
   rw [f0, o0, cI] at h0
   rw [f1, o1, cs] at h1
   simp only [List.drop_zero, List.take_succ_cons, List.take_zero, List.drop_succ_cons] at h0 h1
   obtain ⟨x0, e0⟩ : ∃ y, xs[0]? = some y := ⟨_, List.getElem?_eq_getElem (by rw [hlen]; simp)⟩
   obtain ⟨x1, e1⟩ : ∃ y, xs[1]? = some y := ⟨_, List.getElem?_eq_getElem (by rw [hlen]; simp)⟩
   rw [e0] at h0
   rw [e1] at h1
   obtain ⟨m, hm, _, hwf⟩ := DataW.trod_int hI h0
   cases hm
   obtain ⟨r, c, hc, hr⟩ := raw_slice (fun y : {t : Ty // TyN t} => y.1.cells) (by omega) hs cT (fun y => Ty.cells_len y.1) (fun m hm => ih m (by omega)) h1
   cases hc
   rw [val_map Ty.cells r] at hr
   refine ⟨⟨.mk m (r.map Subtype.val), .mk hwf (val_mem r)⟩, rfl, ?_⟩
   simp only
   rw [Ty.mk_cells]
   intro i c v hc hv
   match i with
   | 0 => simp at hc hv; subst hc hv; exact .int .i64 m
   | 1 => simp at hc hv; subst hc hv; exact hr
   | i + 2 => simp at hc
theorem raw_TmN {tI tT tTs tM tMs : TypeId} {n0 n1 m0 m1 m2 m3 : Field} (hI : P.underlying tI = some (.int .i64)) (hT : P.underlying tT = some (.struct #[n0, n1])) (hs : P.underlying tTs = some (.slice tT))
  (f0 : n0.type = tI) (f1 : n1.type = tTs) (o0 : n0.offset = 0) (o1 : n1.offset = 1) (cI : P.cellsOf tI = 1) (cT : P.cellsOf tT = 2) (cs : P.cellsOf tTs = 1)
  (hM : P.underlying tM = some (.struct #[m0, m1, m2, m3])) (hMs : P.underlying tMs = some (.slice tM)) (g0 : m0.type = tI) (g1 : m1.type = tI) (g2 : m2.type = tT) (g3 : m3.type = tMs)
  (q0 : m0.offset = 0) (q1 : m1.offset = 1) (q2 : m2.offset = 2) (q3 : m3.offset = 4) (cM : P.cellsOf tM = 5) (cMs : P.cellsOf tMs = 1) :
  ∀ (fuel : Nat) (l : List Value) (x : DataW H' × List MemPlace), DataW.trod enc P W base sp held fuel tM l = some x → ∃ y : {t : Tm // TmN t}, CellsRV W l y.1.cells := by
 intro fuel
 induction fuel using Nat.strongRecOn with
 | _ fuel ih =>
  intro l x h
  obtain ⟨xs, n, hn, _, hl, hlen, hf⟩ := DataW.trod_struct hM h
  rw [cM] at hl
  match l, hl with
  | [a, b, c, d, e], _ =>
   have h0 := hf 0 m0 rfl
   have h1 := hf 1 m1 rfl
   have h2 := hf 2 m2 rfl
   have h3 := hf 3 m3 rfl
   rw [g0, q0, cI] at h0
   rw [g1, q1, cI] at h1
   rw [g2, q2, cT] at h2
   rw [g3, q3, cMs] at h3
   simp only [List.drop_zero, List.take_succ_cons, List.take_zero, List.drop_succ_cons] at h0 h1 h2 h3
   obtain ⟨x0, e0⟩ : ∃ y, xs[0]? = some y := ⟨_, List.getElem?_eq_getElem (by rw [hlen]; simp)⟩
   obtain ⟨x1, e1⟩ : ∃ y, xs[1]? = some y := ⟨_, List.getElem?_eq_getElem (by rw [hlen]; simp)⟩
   obtain ⟨x2, e2⟩ : ∃ y, xs[2]? = some y := ⟨_, List.getElem?_eq_getElem (by rw [hlen]; simp)⟩
   obtain ⟨x3, e3⟩ : ∃ y, xs[3]? = some y := ⟨_, List.getElem?_eq_getElem (by rw [hlen]; simp)⟩
   rw [e0] at h0
   rw [e1] at h1
   rw [e2] at h2
   rw [e3] at h3
   obtain ⟨k, hk, _, kwf⟩ := DataW.trod_int hI h0
   cases hk
   obtain ⟨j, hj, _, jwf⟩ := DataW.trod_int hI h1
   cases hj
   obtain ⟨⟨ty, tyI⟩, _, hty⟩ := raw_TyN hI hT hs f0 f1 o0 o1 cI cT cs _ _ _ h2
   obtain ⟨r, c, hc, hr⟩ := raw_slice (fun y : {t : Tm // TmN t} => y.1.cells) (by omega) hMs cM (fun y => Tm.cells_len y.1) (fun m hm => ih m (by omega)) h3
   cases hc
   rw [val_map Tm.cells r] at hr
   refine ⟨⟨.mk k j ty (r.map Subtype.val), .mk kwf jwf tyI (val_mem r)⟩, by simp only; rw [Tm.mk_cells]; rfl, ?_⟩
   simp only at hty ⊢
   rw [Tm.mk_cells]
   rw [Ty.cells_eq] at hty
   intro i c v hc hv
   match i with
   | 0 => simp at hc hv; subst hc hv; exact .int .i64 k
   | 1 => simp at hc hv; subst hc hv; exact .int .i64 j
   | 2 => exact hty 0 c v (by simpa using hc) (by simpa using hv)
   | 3 => exact hty 1 c v (by simpa using hc) (by simpa using hv)
   | 4 => simp at hc hv; subst hc hv; exact hr
   | i + 5 => simp at hc
/-- A raw term that came in. -/
theorem rv_TmN {tI tT tTs tM tMs : TypeId} {n0 n1 m0 m1 m2 m3 : Field} (hI : P.underlying tI = some (.int .i64)) (hT : P.underlying tT = some (.struct #[n0, n1])) (hs : P.underlying tTs = some (.slice tT))
  (f0 : n0.type = tI) (f1 : n1.type = tTs) (o0 : n0.offset = 0) (o1 : n1.offset = 1) (cI : P.cellsOf tI = 1) (cT : P.cellsOf tT = 2) (cs : P.cellsOf tTs = 1)
  (hM : P.underlying tM = some (.struct #[m0, m1, m2, m3])) (hMs : P.underlying tMs = some (.slice tM)) (g0 : m0.type = tI) (g1 : m1.type = tI) (g2 : m2.type = tT) (g3 : m3.type = tMs)
  (q0 : m0.offset = 0) (q1 : m1.offset = 1) (q2 : m2.offset = 2) (q3 : m3.offset = 4) (cM : P.cellsOf tM = 5) (cMs : P.cellsOf tMs = 1)
  {base' : Nat} {v : Value} {d : DataW H'} {ps : List MemPlace} (hk : Value.okWide P W .any base' tM v) (h : DataW.Trod enc P W base sp held tM v d ps) : ∃ y : Tm, TmN y ∧ RV (G0 W) W v (.agg y.cells) := by
 obtain ⟨fuel, h⟩ := h
 simp only [Value.okWide, hM] at hk
 obtain ⟨vs, rfl, hvs, _⟩ := hk
 obtain ⟨⟨y, yI⟩, hy1, hy2⟩ := raw_TmN hI hT hs f0 f1 o0 o1 cI cT cs hM hMs g0 g1 g2 g3 q0 q1 q2 q3 cM cMs _ _ _ h
 simp only at hy1 hy2
 refine ⟨y, yI, .agg vs _ (by simpa [Value.cells] using hy1) fun i c v hc hv => hy2 i c v (by simpa [Value.cells] using hc) hv⟩
theorem raw_FmN {tI tT tTs tM tMs tF tFs : TypeId} {n0 n1 m0 m1 m2 m3 p0 p1 p2 p3 : Field} (hI : P.underlying tI = some (.int .i64)) (hT : P.underlying tT = some (.struct #[n0, n1])) (hs : P.underlying tTs = some (.slice tT))
  (f0 : n0.type = tI) (f1 : n1.type = tTs) (o0 : n0.offset = 0) (o1 : n1.offset = 1) (cI : P.cellsOf tI = 1) (cT : P.cellsOf tT = 2) (cs : P.cellsOf tTs = 1)
  (hM : P.underlying tM = some (.struct #[m0, m1, m2, m3])) (hMs : P.underlying tMs = some (.slice tM)) (g0 : m0.type = tI) (g1 : m1.type = tI) (g2 : m2.type = tT) (g3 : m3.type = tMs)
  (q0 : m0.offset = 0) (q1 : m1.offset = 1) (q2 : m2.offset = 2) (q3 : m3.offset = 4) (cM : P.cellsOf tM = 5) (cMs : P.cellsOf tMs = 1)
  (hF : P.underlying tF = some (.struct #[p0, p1, p2, p3])) (hFs : P.underlying tFs = some (.slice tF)) (w0 : p0.type = tI) (w1 : p1.type = tT) (w2 : p2.type = tMs) (w3 : p3.type = tFs)
  (u0 : p0.offset = 0) (u1 : p1.offset = 1) (u2 : p2.offset = 3) (u3 : p3.offset = 4) (cF : P.cellsOf tF = 5) (cFs : P.cellsOf tFs = 1) :
  ∀ (fuel : Nat) (l : List Value) (x : DataW H' × List MemPlace), DataW.trod enc P W base sp held fuel tF l = some x → ∃ y : {t : Fm // FmN t}, CellsRV W l y.1.cells := by
 intro fuel
 induction fuel using Nat.strongRecOn with
 | _ fuel ih =>
  intro l x h
  obtain ⟨xs, n, hn, _, hl, hlen, hf⟩ := DataW.trod_struct hF h
  rw [cF] at hl
  match l, hl with
  | [a, b, c, d, e], _ =>
   have h0 := hf 0 p0 rfl
   have h1 := hf 1 p1 rfl
   have h2 := hf 2 p2 rfl
   have h3 := hf 3 p3 rfl
   rw [w0, u0, cI] at h0
   rw [w1, u1, cT] at h1
   rw [w2, u2, cMs] at h2
   rw [w3, u3, cFs] at h3
   simp only [List.drop_zero, List.take_succ_cons, List.take_zero, List.drop_succ_cons] at h0 h1 h2 h3
   obtain ⟨x0, e0⟩ : ∃ y, xs[0]? = some y := ⟨_, List.getElem?_eq_getElem (by rw [hlen]; simp)⟩
   obtain ⟨x1, e1⟩ : ∃ y, xs[1]? = some y := ⟨_, List.getElem?_eq_getElem (by rw [hlen]; simp)⟩
   obtain ⟨x2, e2⟩ : ∃ y, xs[2]? = some y := ⟨_, List.getElem?_eq_getElem (by rw [hlen]; simp)⟩
   obtain ⟨x3, e3⟩ : ∃ y, xs[3]? = some y := ⟨_, List.getElem?_eq_getElem (by rw [hlen]; simp)⟩
   rw [e0] at h0
   rw [e1] at h1
   rw [e2] at h2
   rw [e3] at h3
   obtain ⟨k, hk, _, kwf⟩ := DataW.trod_int hI h0
   cases hk
   obtain ⟨⟨ty, tyI⟩, hty⟩ := raw_TyN hI hT hs f0 f1 o0 o1 cI cT cs _ _ _ h1
   obtain ⟨ts, c1, hc1, hr1⟩ := raw_slice (fun y : {t : Tm // TmN t} => y.1.cells) (by omega) hMs cM (fun y => Tm.cells_len y.1) (fun m hm => raw_TmN hI hT hs f0 f1 o0 o1 cI cT cs hM hMs g0 g1 g2 g3 q0 q1 q2 q3 cM cMs m) h2
   obtain ⟨r, c, hc, hr⟩ := raw_slice (fun y : {t : Fm // FmN t} => y.1.cells) (by omega) hFs cF (fun y => Fm.cells_len y.1) (fun m hm => ih m (by omega)) h3
   cases hc
   cases hc1
   rw [val_map Tm.cells ts] at hr1
   rw [val_map Fm.cells r] at hr
   refine ⟨⟨.mk k ty (ts.map Subtype.val) (r.map Subtype.val), .mk kwf tyI (val_mem ts) (val_mem r)⟩, by simp only; rw [Fm.mk_cells]; rfl, ?_⟩
   simp only at hty ⊢
   rw [Fm.mk_cells]
   rw [Ty.cells_eq] at hty
   intro i c v hc hv
   match i with
   | 0 => simp at hc hv; subst hc hv; exact .int .i64 k
   | 1 => exact hty.2 0 c v (by simpa using hc) (by simpa using hv)
   | 2 => exact hty.2 1 c v (by simpa using hc) (by simpa using hv)
   | 3 => simp at hc hv; subst hc hv; exact hr1
   | 4 => simp at hc hv; subst hc hv; exact hr
   | i + 5 => simp at hc
/-- A raw formula that came in. -/
theorem rv_FmN {tI tT tTs tM tMs tF tFs : TypeId} {n0 n1 m0 m1 m2 m3 p0 p1 p2 p3 : Field} (hI : P.underlying tI = some (.int .i64)) (hT : P.underlying tT = some (.struct #[n0, n1])) (hs : P.underlying tTs = some (.slice tT))
  (f0 : n0.type = tI) (f1 : n1.type = tTs) (o0 : n0.offset = 0) (o1 : n1.offset = 1) (cI : P.cellsOf tI = 1) (cT : P.cellsOf tT = 2) (cs : P.cellsOf tTs = 1)
  (hM : P.underlying tM = some (.struct #[m0, m1, m2, m3])) (hMs : P.underlying tMs = some (.slice tM)) (g0 : m0.type = tI) (g1 : m1.type = tI) (g2 : m2.type = tT) (g3 : m3.type = tMs)
  (q0 : m0.offset = 0) (q1 : m1.offset = 1) (q2 : m2.offset = 2) (q3 : m3.offset = 4) (cM : P.cellsOf tM = 5) (cMs : P.cellsOf tMs = 1)
  (hF : P.underlying tF = some (.struct #[p0, p1, p2, p3])) (hFs : P.underlying tFs = some (.slice tF)) (w0 : p0.type = tI) (w1 : p1.type = tT) (w2 : p2.type = tMs) (w3 : p3.type = tFs)
  (u0 : p0.offset = 0) (u1 : p1.offset = 1) (u2 : p2.offset = 3) (u3 : p3.offset = 4) (cF : P.cellsOf tF = 5) (cFs : P.cellsOf tFs = 1)
  {base' : Nat} {v : Value} {d : DataW H'} {ps : List MemPlace} (hk : Value.okWide P W .any base' tF v) (h : DataW.Trod enc P W base sp held tF v d ps) : ∃ y : Fm, FmN y ∧ RV (G0 W) W v (.agg y.cells) := by
 obtain ⟨fuel, h⟩ := h
 simp only [Value.okWide, hF] at hk
 obtain ⟨vs, rfl, hvs, _⟩ := hk
 obtain ⟨⟨y, yI⟩, hy1, hy2⟩ := raw_FmN hI hT hs f0 f1 o0 o1 cI cT cs hM hMs g0 g1 g2 g3 q0 q1 q2 q3 cM cMs hF hFs w0 w1 w2 w3 u0 u1 u2 u3 cF cFs _ _ _ h
 simp only at hy1 hy2
 refine ⟨y, yI, .agg vs _ (by simpa [Value.cells] using hy1) fun i c v hc hv => hy2 i c v (by simpa [Value.cells] using hc) hv⟩
end
end GoAbs
namespace GoAbs
open Go Go.ChangeShapes Go.WideShapes Go.RowKit
section
variable {H' : Type} {enc : TypeId × Value → H'} {P : Program} {W : World} {base : Nat} {sp : Nat → Bool} {held : Bool}
/-- A raw type that came in. -/
theorem rv_TyN {tI tT tTs : TypeId} {n0 n1 : Field} (hI : P.underlying tI = some (.int .i64)) (hT : P.underlying tT = some (.struct #[n0, n1])) (hs : P.underlying tTs = some (.slice tT))
  (f0 : n0.type = tI) (f1 : n1.type = tTs) (o0 : n0.offset = 0) (o1 : n1.offset = 1) (cI : P.cellsOf tI = 1) (cT : P.cellsOf tT = 2) (cs : P.cellsOf tTs = 1)
  {base' : Nat} {v : Value} {d : DataW H'} {ps : List MemPlace} (hk : Value.okWide P W .any base' tT v) (h : DataW.Trod enc P W base sp held tT v d ps) : ∃ y : Ty, TyN y ∧ RV (G0 W) W v (.agg y.cells) := by
 obtain ⟨fuel, h⟩ := h
 simp only [Value.okWide, hT] at hk
 obtain ⟨vs, rfl, hvs, _⟩ := hk
 obtain ⟨⟨y, yI⟩, hy1, hy2⟩ := raw_TyN hI hT hs f0 f1 o0 o1 cI cT cs _ _ _ h
 simp only at hy1 hy2
 refine ⟨y, yI, .agg vs _ (by simpa [Value.cells] using hy1) fun i c v hc hv => hy2 i c v (by simpa [Value.cells] using hc) hv⟩
theorem trodAll_six {t0 t1 t2 t3 t4 t5 : TypeId} {args : Array Value} {ds : List (DataW H')} {ps : List MemPlace} (h : DataW.TrodAll enc P W base sp held [t0, t1, t2, t3, t4, t5] args.toList ds ps) :
  ∃ v0 v1 v2 v3 v4 v5 d0 d1 d2 d3 d4 d5 p0 p1 p2 p3 p4 p5, args = #[v0, v1, v2, v3, v4, v5] ∧ ds = [d0, d1, d2, d3, d4, d5] ∧ ps = p0 ++ p1 ++ p2 ++ p3 ++ p4 ++ p5 ∧
   DataW.Trod enc P W base sp held t0 v0 d0 p0 ∧ DataW.Trod enc P W base sp held t1 v1 d1 p1 ∧ DataW.Trod enc P W base sp held t2 v2 d2 p2 ∧
   DataW.Trod enc P W base sp held t3 v3 d3 p3 ∧ DataW.Trod enc P W base sp held t4 v4 d4 p4 ∧ DataW.Trod enc P W base sp held t5 v5 d5 p5 := by
 obtain ⟨v0, vs0, d0, ds0, p0, q0, hargs, rfl, rfl, h0, r0⟩ := trodAll_cons h
 obtain ⟨v1, vs1, d1, ds1, p1, q1, rfl, rfl, rfl, h1, r1⟩ := trodAll_cons r0
 obtain ⟨v2, vs2, d2, ds2, p2, q2, rfl, rfl, rfl, h2, r2⟩ := trodAll_cons r1
 obtain ⟨v3, vs3, d3, ds3, p3, q3, rfl, rfl, rfl, h3, r3⟩ := trodAll_cons r2
 obtain ⟨v4, vs4, d4, ds4, p4, q4, rfl, rfl, rfl, h4, r4⟩ := trodAll_cons r3
 obtain ⟨v5, vs5, d5, ds5, p5, q5, rfl, rfl, rfl, h5, r5⟩ := trodAll_cons r4
 obtain ⟨rfl, rfl, rfl⟩ := trodAll_nil r5
 exact ⟨v0, v1, v2, v3, v4, v5, d0, d1, d2, d3, d4, d5, p0, p1, p2, p3, p4, p5, by cases args; simp_all, rfl, by simp, h0, h1, h2, h3, h4, h5⟩
end
theorem rvl_six {g : G} {w : World} {c0 c1 c2 c3 c4 c5 : Value} {v0 v1 v2 v3 v4 v5 : V} (h0 : RV g w c0 v0) (h1 : RV g w c1 v1) (h2 : RV g w c2 v2) (h3 : RV g w c3 v3) (h4 : RV g w c4 v4) (h5 : RV g w c5 v5) :
  RVL g w #[c0, c1, c2, c3, c4, c5] [v0, v1, v2, v3, v4, v5] :=
 ⟨rfl, fun i a b e1 e2 => by
  match i with
  | 0 => simp at e1 e2; subst e1; subst e2; exact h0
  | 1 => simp at e1 e2; subst e1; subst e2; exact h1
  | 2 => simp at e1 e2; subst e1; subst e2; exact h2
  | 3 => simp at e1 e2; subst e1; subst e2; exact h3
  | 4 => simp at e1 e2; subst e1; subst e2; exact h4
  | 5 => simp at e1 e2; subst e1; subst e2; exact h5
  | i + 6 => simp at e2⟩
end GoAbs
