/-
  The abstract layer: plain laws, further ones.
-/
import Derived.Test.YtpnjamplciaopaaGreatDoorAbsDb
import Derived.Test.YtpnjamplciaopaaGreatDoorAbsD
set_option linter.unusedSimpArgs false
set_option linter.unusedVariables false
set_option linter.unusedSectionVars false
namespace GoAbs
open Go

end GoAbs

namespace GoAbs
open Go

theorem tm_upW {b : Int} : ∀ (t : Tm) (fr : Int), TmW t → TmW (t.up b fr) := by
  intro t
  induction t using Tm.ind with | h t ih => ?_
  intro fr ht
  rw [Tm.up_eq]
  refine .mk _ _ _ _ ht.ty (by rw [List.length_map]; exact ht.len) ?_
  intro x hx
  obtain ⟨y, hy, rfl⟩ := List.mem_map.1 hx
  exact ih y hy _ (ht.arg hy)
theorem HasTy.args {Q : Ty → Prop} {g : List Ty} {t : Tm} {s : Ty} (h : HasTy Q g t s) : ∀ x ∈ t.args, ∃ g' s', HasTy Q g' x s' := by
  cases h with
  | var => intro x hx; simp [tmVar, Tm.args] at hx
  | lam _ h1 => intro x hx; simp [tmT, Tm.args] at hx; subst hx; exact ⟨_, _, h1⟩
  | n0 => intro x hx; simp [tmT, Tm.args] at hx
  | n1 _ h1 => intro x hx; simp [tmT, Tm.args] at hx; subst hx; exact ⟨_, _, h1⟩
  | n2 _ h1 h2 => intro x hx; simp [tmT, Tm.args] at hx; rcases hx with rfl | rfl; exact ⟨_, _, h1⟩; exact ⟨_, _, h2⟩
  | n3 _ h1 h2 h3 => intro x hx; simp [tmT, Tm.args] at hx; rcases hx with rfl | rfl | rfl; exact ⟨_, _, h1⟩; exact ⟨_, _, h2⟩; exact ⟨_, _, h3⟩

end GoAbs
namespace GoAbs
end GoAbs

namespace GoAbs
open Go

theorem TmG.re {k : Int} {t : Ty} {l l' : List Tm} (h : TmG (tmT k t l)) (hl : l'.length = l.length) (ha : ∀ x ∈ l', TmG x) : TmG (tmT k t l') := by
  generalize e : tmT k t l = u at h
  cases h with
  | plain hA hB hC _ =>
    simp only [tmT, tm0, Tm.mk.injEq] at e
    obtain ⟨rfl, _, rfl, rfl⟩ := e
    exact .plain hA (by rw [hl]; exact hB) hC ha
  | var hi =>
    simp only [tmT, tmVar, Tm.mk.injEq] at e
    obtain ⟨rfl, rfl, rfl, rfl⟩ := e
    have : l' = [] := by cases l' with
      | nil => rfl
      | cons _ _ => simp at hl
    subst this
    exact .var (by omega)
  | typd hA hB hC hg _ =>
    simp only [tmT, Tm.mk.injEq] at e
    obtain ⟨rfl, _, rfl, rfl⟩ := e
    exact .typd hA (by rw [hl]; exact hB) hC hg ha
theorem TmG.subs {k : Int} {t : Ty} {l : List Tm} (h : TmG (tmT k t l)) : ∀ x ∈ l, TmG x := fun x hx => h.arg (by simpa [tmT, Tm.args] using hx)

theorem pUp_G {b : Int} (hb : 0 ≤ b) {t : Tm} (h : TmG t) : ∀ c : Int, 0 ≤ c → TmG (pUp b t c) := by
  refine TmG.nd (P := fun t _ => ∀ c : Int, 0 ≤ c → TmG (pUp b t c)) ?_ ?_ h
  · intro i hi c hc
    rw [pUp_var]
    split
    · exact .var (by omega)
    · exact .var hi
  · intro k t l hk hl ht ih c hc
    rw [pUp_node hk]
    have := below_nn k
    refine ht.re (by simp) fun x hx => ?_
    obtain ⟨y, hy, rfl⟩ := List.mem_map.1 hx
    exact ih y hy _ (by omega)
theorem pIn_G {s : Tm} (hs : TmG s) {t : Tm} (h : TmG t) : ∀ e : Int, 0 ≤ e → TmG (pIn s t e) := by
  refine TmG.nd (P := fun t _ => ∀ e : Int, 0 ≤ e → TmG (pIn s t e)) ?_ ?_ h
  · intro i hi e he
    rw [pIn_var]
    split
    · exact pUp_G he hs 0 (by omega)
    · split
      · exact .var (by omega)
      · exact .var hi
  · intro k t l hk hl ht ih e he
    rw [pIn_node hk]
    have := below_nn k
    refine ht.re (by simp) fun x hx => ?_
    obtain ⟨y, hy, rfl⟩ := List.mem_map.1 hx
    exact ih y hy _ (by omega)

theorem pUp_swap {a b : Int} (ha : 0 ≤ a) (hb : 0 ≤ b) {t : Tm} (h : TmG t) : ∀ d c : Int, 0 ≤ d → d ≤ c → pUp b (pUp a t d) (c + a) = pUp a (pUp b t c) d := by
  refine TmG.nd (P := fun t _ => ∀ d c : Int, 0 ≤ d → d ≤ c → pUp b (pUp a t d) (c + a) = pUp a (pUp b t c) d) ?_ ?_ h
  · intro i hi d c hd hc
    rw [pUp_var, pUp_var, pUp_var, pUp_var]
    congr 1
    repeat' split
    all_goals omega
  · intro k t l hk hl ht ih d c hd hc
    rw [pUp_node hk, pUp_node hk, pUp_node hk, pUp_node hk, List.map_map, List.map_map]
    congr 1
    refine List.map_congr_left fun x hx => ?_
    have := below_nn k
    simp only [Function.comp]
    have e : c + a + tmBelow k = c + tmBelow k + a := by omega
    rw [e]
    exact ih x hx _ _ (by omega) (by omega)
theorem pUp_inU {b : Int} (hb : 0 ≤ b) {s : Tm} (hs : TmG s) {t : Tm} (h : TmG t) : ∀ c e : Int, 0 ≤ e → e ≤ c → pUp b (pIn s t e) c = pIn (pUp b s (c - e)) (pUp b t (c + 1)) e := by
  refine TmG.nd (P := fun t _ => ∀ c e : Int, 0 ≤ e → e ≤ c → pUp b (pIn s t e) c = pIn (pUp b s (c - e)) (pUp b t (c + 1)) e) ?_ ?_ h
  · intro i hi c e he hc
    rw [pIn_var, pUp_var, pIn_var]
    by_cases h1 : i = e
    · subst h1
      rw [if_pos rfl, if_neg (show ¬ i ≥ c + 1 by omega), if_pos rfl]
      have := pUp_swap (a := i) (b := b) he hb hs 0 (c - i) (by omega) (by omega)
      rw [show c - i + i = c by omega] at this
      exact this
    · rw [if_neg h1]
      by_cases h2 : i > e
      · rw [if_pos h2, pUp_var]
        by_cases h3 : i ≥ c + 1
        · rw [if_pos h3, if_pos (by omega), if_neg (by omega), if_pos (by omega)]
          congr 1; omega
        · rw [if_neg h3, if_neg (by omega), if_neg h1, if_pos h2]
      · rw [if_neg h2, pUp_var, if_neg (show ¬ i ≥ c by omega), if_neg (show ¬ i ≥ c + 1 by omega), if_neg h1, if_neg h2]
  · intro k t l hk hl ht ih c e he hc
    rw [pIn_node hk, pUp_node hk, pUp_node hk, pIn_node hk, List.map_map, List.map_map]
    congr 1
    refine List.map_congr_left fun x hx => ?_
    have := below_nn k
    simp only [Function.comp]
    have := ih x hx (c + tmBelow k) (e + tmBelow k) (by omega) (by omega)
    rw [show c + tmBelow k - (e + tmBelow k) = c - e by omega] at this
    rw [this]
    congr 2; omega

/-- What a redex becomes. -/
inductive Rdx : Int → Ty → List Tm → Tm → Prop
  | beta {ty ty' : Ty} {b a : Tm} : Rdx 3 ty [tmT 2 ty' [b], a] (pIn a b 0)
  | rec0 {ty ty' : Ty} {z f : Tm} : Rdx 6 ty [z, f, tmT 4 ty' []] z
  | recS {ty ty' : Ty} {z f n : Tm} : Rdx 6 ty [z, f, tmT 5 ty' [n]] (tm0 3 [tm0 3 [f, n], tmT 6 ty [z, f, n]])
  | fold0 {ty ty' : Ty} {z f : Tm} : Rdx 9 ty [z, f, tmT 7 ty' []] z
  | foldS {ty ty' : Ty} {z f h l : Tm} : Rdx 9 ty [z, f, tmT 8 ty' [h, l]] (tm0 3 [tm0 3 [tm0 3 [f, h], l], tmT 9 ty [z, f, l]])
  | fst {ty ty' : Ty} {x y : Tm} : Rdx 11 ty [tmT 10 ty' [x, y]] x
  | snd {ty ty' : Ty} {x y : Tm} : Rdx 12 ty [tmT 10 ty' [x, y]] y

/-- Redexes that stand side by side are reduced at once. -/
inductive Par : Tm → Tm → Prop
  | var (i : Int) : Par (tmVar i) (tmVar i)
  | cong {k : Int} {ty : Ty} {l l' : List Tm} (hk : k ≠ 1) (hl : l.length = l'.length) (h : ∀ (i : Nat) x x', l[i]? = some x → l'[i]? = some x' → Par x x') : Par (tmT k ty l) (tmT k ty l')
  | red {k : Int} {ty : Ty} {l l' : List Tm} {r r' : Tm} (hl : l.length = l'.length) (h : ∀ (i : Nat) x x', l[i]? = some x → l'[i]? = some x' → Par x x')
      (hr : Rdx k ty l r) (hr' : Rdx k ty l' r') : Par (tmT k ty l) r'

theorem Par.refl {t : Tm} (h : TmG t) : Par t t := by
  refine TmG.nd (P := fun t _ => Par t t) ?_ ?_ h
  · intro i hi; exact .var i
  · intro k t l hk hl ht ih
    refine .cong hk rfl fun i x x' h1 h2 => ?_
    rw [h1] at h2; cases h2
    exact ih x (List.mem_of_getElem? h1)

theorem Rdx.kind {k : Int} {ty : Ty} {l : List Tm} {r : Tm} (h : Rdx k ty l r) : k = 3 ∨ k = 6 ∨ k = 9 ∨ k = 11 ∨ k = 12 := by cases h <;> simp
theorem Rdx.below {k : Int} {ty : Ty} {l : List Tm} {r : Tm} (h : Rdx k ty l r) : tmBelow k = 0 := by cases h <;> rfl
theorem Rdx.ne {k : Int} {ty : Ty} {l : List Tm} {r : Tm} (h : Rdx k ty l r) : k ≠ 1 := by cases h <;> decide
theorem G2 {f a : Tm} (hf : TmG f) (ha : TmG a) : TmG (tm0 3 [f, a]) := .plain (a := 2) rfl rfl rfl (by simp [hf, ha])
theorem Rdx.G {k : Int} {ty : Ty} {l : List Tm} {r : Tm} (h : Rdx k ty l r) (hG : TmG (tmT k ty l)) : TmG r := by
  have hs := hG.subs
  cases h with
  | @beta _ ty' b a =>
    simp only [List.mem_cons, List.not_mem_nil, or_false, forall_eq_or_imp, forall_eq] at hs
    exact pIn_G hs.2 (hs.1.subs b (by simp)) 0 (by omega)
  | rec0 => exact hs _ (by simp)
  | @recS _ ty' z f n =>
    simp only [List.mem_cons, List.not_mem_nil, or_false, forall_eq_or_imp, forall_eq] at hs
    have hn := hs.2.2.subs n (by simp)
    exact G2 (G2 hs.2.1 hn) (hG.re rfl (by simp [hs.1, hs.2.1, hn]))
  | fold0 => exact hs _ (by simp)
  | foldS =>
    simp only [List.mem_cons, List.not_mem_nil, or_false, forall_eq_or_imp, forall_eq] at hs
    have hh := hs.2.2.subs
    simp only [List.mem_cons, List.not_mem_nil, or_false, forall_eq_or_imp, forall_eq] at hh
    exact G2 (G2 (G2 hs.2.1 hh.1) hh.2) (hG.re rfl (by simp [hs.1, hs.2.1, hh.2]))
  | @fst _ ty' x y => exact (hs (tmT 10 ty' [r, y]) (by simp)).subs r (by simp)
  | @snd _ ty' x y => exact (hs (tmT 10 ty' [x, r]) (by simp)).subs r (by simp)

theorem Par.G {t u : Tm} (h : Par t u) : TmG t → TmG u := by
  have key : ∀ {l l' : List Tm}, l.length = l'.length → (∀ (i : Nat) x x', l[i]? = some x → l'[i]? = some x' → TmG x → TmG x') → (∀ x ∈ l, TmG x) → ∀ x ∈ l', TmG x := by
    intro l l' hl hp hx y hy
    obtain ⟨i, hi, e⟩ := List.mem_iff_getElem.1 hy
    have h1 : l'[i]? = some y := by rw [List.getElem?_eq_getElem hi, e]
    have h2 : l[i]? = some l[i] := List.getElem?_eq_getElem (by omega)
    exact hp i _ _ h2 h1 (hx _ (List.getElem_mem _))
  induction h with
  | var i => exact id
  | cong hk hl hp ih => exact fun hG => hG.re hl.symm (key hl ih hG.subs)
  | red hl hp hr hr' ih => exact fun hG => hr'.G (hG.re hl.symm (key hl ih hG.subs))

theorem map_pt {f g : Tm → Tm} {R : Tm → Tm → Prop} {l l' : List Tm} (hl : l.length = l'.length) (hp : ∀ (i : Nat) x x', l[i]? = some x → l'[i]? = some x' → R (f x) (g x')) :
    (l.map f).length = (l'.map g).length ∧ ∀ (i : Nat) x x', (l.map f)[i]? = some x → (l'.map g)[i]? = some x' → R x x' := by
  refine ⟨by simp [hl], fun i x x' h1 h2 => ?_⟩
  rw [List.getElem?_map] at h1 h2
  cases a1 : l[i]? with
  | none => rw [a1] at h1; cases h1
  | some y =>
    cases a2 : l'[i]? with
    | none => rw [a2] at h2; cases h2
    | some z =>
      rw [a1] at h1; rw [a2] at h2
      cases h1; cases h2
      exact hp i y z a1 a2

theorem pUp_tm0 {b k c : Int} {l : List Tm} (hk : k ≠ 1) : pUp b (tm0 k l) c = tm0 k (l.map fun x => pUp b x (c + tmBelow k)) := pUp_node hk
theorem pIn_tm0 {s : Tm} {k e : Int} {l : List Tm} (hk : k ≠ 1) : pIn s (tm0 k l) e = tm0 k (l.map fun x => pIn s x (e + tmBelow k)) := pIn_node hk
theorem bel2 : tmBelow 2 = 1 := rfl
theorem Rdx.up {b : Int} (hb : 0 ≤ b) {k : Int} {ty : Ty} {l : List Tm} {r : Tm} (h : Rdx k ty l r) (hG : TmG (tmT k ty l)) {c : Int} (hc : 0 ≤ c) : Rdx k ty (l.map fun x => pUp b x c) (pUp b r c) := by
  have hs := hG.subs
  cases h with
  | @beta _ ty' b0 a =>
    simp only [List.mem_cons, List.not_mem_nil, or_false, forall_eq_or_imp, forall_eq] at hs
    rw [pUp_inU hb hs.2 (hs.1.subs b0 (by simp)) c 0 (by omega) hc]
    simp only [List.map_cons, List.map_nil]
    rw [pUp_node (by decide), bel2, Int.sub_zero]
    exact .beta
  | rec0 => simp only [List.map_cons, List.map_nil]; rw [pUp_node (k := 4) (by decide)]; exact .rec0
  | recS =>
    simp only [List.map_cons, List.map_nil]
    rw [pUp_node (k := 5) (by decide), pUp_tm0 (by decide)]
    simp only [List.map_cons, List.map_nil]
    rw [pUp_tm0 (by decide), pUp_node (k := 6) (by decide)]
    simp only [List.map_cons, List.map_nil]
    have e3 : tmBelow 3 = 0 := rfl
    have e5 : tmBelow 5 = 0 := rfl
    have e6 : tmBelow 6 = 0 := rfl
    simp only [e3, e5, e6, Int.add_zero]
    exact .recS
  | fold0 => simp only [List.map_cons, List.map_nil]; rw [pUp_node (k := 7) (by decide)]; exact .fold0
  | foldS =>
    simp only [List.map_cons, List.map_nil]
    rw [pUp_node (k := 8) (by decide), pUp_tm0 (by decide)]
    simp only [List.map_cons, List.map_nil]
    rw [pUp_tm0 (by decide), pUp_node (k := 9) (by decide)]
    simp only [List.map_cons, List.map_nil]
    rw [pUp_tm0 (by decide)]
    simp only [List.map_cons, List.map_nil]
    have e3 : tmBelow 3 = 0 := rfl
    have e5 : tmBelow 8 = 0 := rfl
    have e6 : tmBelow 9 = 0 := rfl
    simp only [e3, e5, e6, Int.add_zero]
    exact .foldS
  | fst =>
    simp only [List.map_cons, List.map_nil]
    rw [pUp_node (k := 10) (by decide)]
    simp only [List.map_cons, List.map_nil, (show tmBelow 10 = 0 from rfl), Int.add_zero]
    exact .fst
  | snd =>
    simp only [List.map_cons, List.map_nil]
    rw [pUp_node (k := 10) (by decide)]
    simp only [List.map_cons, List.map_nil, (show tmBelow 10 = 0 from rfl), Int.add_zero]
    exact .snd
theorem Rdx.inn {s : Tm} (hsG : TmG s) {k : Int} {ty : Ty} {l : List Tm} {r : Tm} (h : Rdx k ty l r) (hG : TmG (tmT k ty l)) {e : Int} (he : 0 ≤ e) : Rdx k ty (l.map fun x => pIn s x e) (pIn s r e) := by
  have hs := hG.subs
  cases h with
  | @beta _ ty' b a =>
    simp only [List.mem_cons, List.not_mem_nil, or_false, forall_eq_or_imp, forall_eq] at hs
    have := pIn_inD he hsG hs.2 (hs.1.subs b (by simp)) 0 (by omega)
    simp only [Int.zero_add] at this
    rw [this]
    simp only [List.map_cons, List.map_nil]
    rw [pIn_node (by decide), bel2]
    exact .beta
  | rec0 => simp only [List.map_cons, List.map_nil]; rw [pIn_node (k := 4) (by decide)]; exact .rec0
  | recS =>
    simp only [List.map_cons, List.map_nil]
    rw [pIn_node (k := 5) (by decide), pIn_tm0 (by decide)]
    simp only [List.map_cons, List.map_nil]
    rw [pIn_tm0 (by decide), pIn_node (k := 6) (by decide)]
    simp only [List.map_cons, List.map_nil]
    have e3 : tmBelow 3 = 0 := rfl
    have e5 : tmBelow 5 = 0 := rfl
    have e6 : tmBelow 6 = 0 := rfl
    simp only [e3, e5, e6, Int.add_zero]
    exact .recS
  | fold0 => simp only [List.map_cons, List.map_nil]; rw [pIn_node (k := 7) (by decide)]; exact .fold0
  | foldS =>
    simp only [List.map_cons, List.map_nil]
    rw [pIn_node (k := 8) (by decide), pIn_tm0 (by decide)]
    simp only [List.map_cons, List.map_nil]
    rw [pIn_tm0 (by decide), pIn_node (k := 9) (by decide)]
    simp only [List.map_cons, List.map_nil]
    rw [pIn_tm0 (by decide)]
    simp only [List.map_cons, List.map_nil]
    have e3 : tmBelow 3 = 0 := rfl
    have e5 : tmBelow 8 = 0 := rfl
    have e6 : tmBelow 9 = 0 := rfl
    simp only [e3, e5, e6, Int.add_zero]
    exact .foldS
  | fst =>
    simp only [List.map_cons, List.map_nil]
    rw [pIn_node (k := 10) (by decide)]
    simp only [List.map_cons, List.map_nil, (show tmBelow 10 = 0 from rfl), Int.add_zero]
    exact .fst
  | snd =>
    simp only [List.map_cons, List.map_nil]
    rw [pIn_node (k := 10) (by decide)]
    simp only [List.map_cons, List.map_nil, (show tmBelow 10 = 0 from rfl), Int.add_zero]
    exact .snd

theorem Par.up {b : Int} (hb : 0 ≤ b) {t u : Tm} (h : Par t u) : TmG t → ∀ c : Int, 0 ≤ c → Par (pUp b t c) (pUp b u c) := by
  induction h with
  | var i => intro _ c hc; rw [pUp_var]; exact .var _
  | @cong k ty l l' hk hl hp ih =>
    intro hG c hc
    rw [pUp_node hk, pUp_node hk]
    have := below_nn k
    obtain ⟨h1, h2⟩ := map_pt (f := fun x => pUp b x (c + tmBelow k)) (g := fun x => pUp b x (c + tmBelow k)) (R := Par) hl (fun i x x' a1 a2 => ih i x x' a1 a2 (hG.subs _ (List.mem_of_getElem? a1)) _ (by omega))
    exact .cong hk h1 h2
  | @red k ty l l' r r' hl hp hr hr' ih =>
    intro hG c hc
    rw [pUp_node hr.ne, hr.below, Int.add_zero]
    obtain ⟨h1, h2⟩ := map_pt (f := fun x => pUp b x c) (g := fun x => pUp b x c) (R := Par) hl (fun i x x' a1 a2 => ih i x x' a1 a2 (hG.subs _ (List.mem_of_getElem? a1)) _ hc)
    exact .red h1 h2 (hr.up hb hG hc) (hr'.up hb ((Par.cong hr.ne hl hp).G hG) hc)
theorem Par.inn {s s' : Tm} (hs : Par s s') (hsG : TmG s) {t u : Tm} (h : Par t u) : TmG t → ∀ e : Int, 0 ≤ e → Par (pIn s t e) (pIn s' u e) := by
  induction h with
  | var i =>
    intro hG e he
    rw [pIn_var, pIn_var]
    repeat' split
    · exact hs.up he hsG 0 (by omega)
    · exact .var _
    · exact .var _
  | @cong k ty l l' hk hl hp ih =>
    intro hG e he
    rw [pIn_node hk, pIn_node hk]
    have := below_nn k
    obtain ⟨h1, h2⟩ := map_pt (f := fun x => pIn s x (e + tmBelow k)) (g := fun x => pIn s' x (e + tmBelow k)) (R := Par) hl (fun i x x' a1 a2 => ih i x x' a1 a2 (hG.subs _ (List.mem_of_getElem? a1)) _ (by omega))
    exact .cong hk h1 h2
  | @red k ty l l' r r' hl hp hr hr' ih =>
    intro hG e he
    rw [pIn_node hr.ne, hr.below, Int.add_zero]
    obtain ⟨h1, h2⟩ := map_pt (f := fun x => pIn s x e) (g := fun x => pIn s' x e) (R := Par) hl (fun i x x' a1 a2 => ih i x x' a1 a2 (hG.subs _ (List.mem_of_getElem? a1)) _ he)
    exact .red h1 h2 (hr.inn hsG hG he) (hr'.inn (hs.G hsG) ((Par.cong hr.ne hl hp).G hG) he)

theorem par2 {k : Int} {ty : Ty} {a a' b b' : Tm} (hk : k ≠ 1) (h1 : Par a a') (h2 : Par b b') : Par (tmT k ty [a, b]) (tmT k ty [a', b']) :=
  .cong hk rfl fun i x x' e1 e2 => by
    match i with
    | 0 => simp at e1 e2; subst e1; subst e2; exact h1
    | 1 => simp at e1 e2; subst e1; subst e2; exact h2
    | i + 2 => simp at e1
theorem par1 {k : Int} {ty : Ty} {a a' : Tm} (hk : k ≠ 1) (h1 : Par a a') : Par (tmT k ty [a]) (tmT k ty [a']) :=
  .cong hk rfl fun i x x' e1 e2 => by
    match i with
    | 0 => simp at e1 e2; subst e1; subst e2; exact h1
    | i + 1 => simp at e1
inductive Star : Tm → Tm → Prop
  | refl (t : Tm) : Star t t
  | step {t u v : Tm} : Par t u → Star u v → Star t v
theorem Star.one {t u : Tm} (h : Par t u) : Star t u := .step h (.refl _)
theorem Star.trans {t u v : Tm} (h : Star t u) : Star u v → Star t v := by
  induction h with
  | refl => exact id
  | step hp _ ih => exact fun h => .step hp (ih h)
theorem Star.G {t u : Tm} (h : Star t u) : TmG t → TmG u := by
  induction h with
  | refl => exact id
  | step hp _ ih => exact fun hG => ih (hp.G hG)
theorem Rdx.root {k : Int} {ty : Ty} {l : List Tm} {r : Tm} (h : Rdx k ty l r) : (tmT k ty l).root = true := by cases h <;> rfl
end GoAbs

namespace GoAbs
open Go

end GoAbs

namespace GoAbs
open Go

end GoAbs

namespace GoAbs
open Go

end GoAbs

namespace GoAbs
open Go

theorem Star.up {b : Int} (hb : 0 ≤ b) {t u : Tm} (h : Star t u) : TmG t → ∀ c : Int, 0 ≤ c → Star (pUp b t c) (pUp b u c) := by
  induction h with
  | refl t => exact fun _ c _ => .refl _
  | step hp _ ih => exact fun hG c hc => .step (hp.up hb hG c hc) (ih (hp.G hG) c hc)
theorem Star.inn1 {s : Tm} (hs : TmG s) {t u : Tm} (h : Star t u) : TmG t → ∀ e : Int, 0 ≤ e → Star (pIn s t e) (pIn s u e) := by
  induction h with
  | refl t => exact fun _ e _ => .refl _
  | step hp _ ih => exact fun hG e he => .step (Par.inn (Par.refl hs) hs hp hG e he) (ih (hp.G hG) e he)
theorem Star.inn2 {s s' : Tm} (h : Star s s') {t : Tm} (ht : TmG t) : TmG s → ∀ e : Int, 0 ≤ e → Star (pIn s t e) (pIn s' t e) := by
  induction h with
  | refl s => exact fun _ e _ => .refl _
  | step hp _ ih => exact fun hG e he => .step (Par.inn hp hG (Par.refl ht) ht e he) (ih (hp.G hG) e he)
theorem Star.inn {s s' t u : Tm} (hs : Star s s') (gs : TmG s) (h : Star t u) (gt : TmG t) {e : Int} (he : 0 ≤ e) : Star (pIn s t e) (pIn s' u e) :=
  (h.inn1 gs gt e he).trans (hs.inn2 (h.G gt) gs e he)
theorem Star.t1 {k : Int} {ty : Ty} (hk : k ≠ 1) {x x' : Tm} (h : Star x x') : Star (tmT k ty [x]) (tmT k ty [x']) := by
  induction h with
  | refl => exact .refl _
  | step hp _ ih => exact .step (par1 hk hp) ih
theorem Star.t2 {k : Int} {ty : Ty} (hk : k ≠ 1) {x x' y : Tm} (hy : TmG y) (h : Star x x') : Star (tmT k ty [x, y]) (tmT k ty [x', y]) := by
  induction h with
  | refl => exact .refl _
  | step hp _ ih => exact .step (par2 hk hp (Par.refl hy)) ih

/-- Formulas whose terms are reduced. -/
inductive FmR : Fm → Fm → Prop
  | eq {x y x' y' : Tm} : Star x x' → Star y y' → FmR (fmEq x y) (fmEq x' y')
  | two {k : Int} {a b a' b' : Fm} (hk : k = 2 ∨ k = 3) : FmR a a' → FmR b b' → FmR (fmTwo k a b) (fmTwo k a' b')
  | q {k : Int} {s : Ty} {a a' : Fm} (hk : k = 4 ∨ k = 5 ∨ k = 6 ∨ k = 7) : FmR a a' → FmR (fmQ k s a) (fmQ k s a')

theorem FmR.refl {u : Bool} {f : Fm} (h : FmG u f) : FmR f f := by
  induction h with
  | eq _ _ => exact .eq (.refl _) (.refl _)
  | two hk _ _ h1 h2 => exact .two hk h1 h2
  | q hk _ _ h1 => exact .q (FmG.qk hk) h1
theorem FmR.inv {f f' : Fm} (h : FmR f f') : f.fl.c = f'.fl.c ∧ f.ct = f'.ct ∧ fdp f = fdp f' := by
  induction h with
  | eq _ _ => exact ⟨by rw [Fm.fl_eqn, Fm.fl_eqn], by rw [ct_eqn, ct_eqn], by rw [fdp_eqn, fdp_eqn]⟩
  | two hk _ _ h1 h2 => exact ⟨by rw [fl_c_two hk, fl_c_two hk, h1.1, h2.1], by rw [ct_two, ct_two, h1.1, h1.2.1, h2.1, h2.2.1], by rw [fdp_two, fdp_two, h1.2.2, h2.2.2]⟩
  | q hk _ h1 => exact ⟨by rw [fl_c_q (by omega), fl_c_q (by omega), h1.1], by rw [ct_q, ct_q, h1.1, h1.2.1], by rw [fdp_q, fdp_q, h1.2.2]⟩

theorem FmG.inv_eq {u : Bool} {x y : Tm} (h : FmG u (fmEq x y)) : TmG x ∧ TmG y := by
  generalize e : fmEq x y = f at h
  cases h with
  | eq h1 h2 => simp only [fmEq, Fm.mk.injEq, List.cons.injEq, and_true, true_and] at e; obtain ⟨rfl, rfl⟩ := e; exact ⟨h1, h2⟩
  | two hk _ _ => simp [fmEq, fmTwo] at e
  | q hk _ _ => simp [fmEq, fmQ] at e
theorem FmG.inv_two {u : Bool} {k : Int} {a b : Fm} (h : FmG u (fmTwo k a b)) : (k = 2 ∨ k = 3) ∧ FmG u a ∧ FmG u b := by
  generalize e : fmTwo k a b = f at h
  cases h with
  | eq h1 h2 => simp [fmEq, fmTwo] at e
  | two hk h1 h2 => simp only [fmTwo, Fm.mk.injEq, List.cons.injEq, and_true, true_and] at e; obtain ⟨rfl, rfl, rfl⟩ := e; exact ⟨hk, h1, h2⟩
  | q hk _ _ => simp [fmTwo, fmQ] at e
theorem FmG.inv_q {u : Bool} {k : Int} {s : Ty} {a : Fm} (h : FmG u (fmQ k s a)) : TyG s ∧ FmG u a := by
  generalize e : fmQ k s a = f at h
  cases h with
  | eq h1 h2 => simp [fmEq, fmQ] at e
  | two hk _ _ => simp [fmTwo, fmQ] at e
  | q hk hs h1 => simp only [fmQ, Fm.mk.injEq, List.cons.injEq, and_true, true_and] at e; obtain ⟨rfl, rfl, rfl⟩ := e; exact ⟨hs, h1⟩

theorem FmR.up {f f' : Fm} (h : FmR f f') : FmG true f → FmG true f' → f.least 536870912 = true → f'.least 536870912 = true → ∀ d : Int, 0 ≤ d → d + fmSz f ≤ 100000 → d + fmSz f' ≤ 100000 → FmR (f.up 1 d) (f'.up 1 d) := by
  have one : ∀ {x x' : Tm}, Star x x' → TmG x → TmG x' → x.least 536870912 = true → x'.least 536870912 = true → ∀ d : Int, 0 ≤ d → d + tmSz x ≤ 100000 → d + tmSz x' ≤ 100000 → Star (x.up 1 d) (x'.up 1 d) := by
    intro x x' hs gx gx' lx lx' d hd z z'
    rw [up_p (by omega) (by omega) gx d (least_mono (by omega) _ lx) hd (by omega), up_p (by omega) (by omega) gx' d (least_mono (by omega) _ lx') hd (by omega)]
    exact hs.up (by omega) gx d hd
  induction h with
  | eq h1 h2 =>
    intro g g' l l' d hd z z'
    obtain ⟨g1, g2⟩ := g.inv_eq
    obtain ⟨g1', g2'⟩ := g'.inv_eq
    obtain ⟨l1, l2⟩ := fleast_eq.1 l
    obtain ⟨l1', l2'⟩ := fleast_eq.1 l'
    rw [fmSz_eq] at z z'
    rw [fmUp_eqn, fmUp_eqn]
    exact .eq (one h1 g1 g1' l1 l1' d hd (by omega) (by omega)) (one h2 g2 g2' l2 l2' d hd (by omega) (by omega))
  | two hk _ _ ih1 ih2 =>
    intro g g' l l' d hd z z'
    obtain ⟨_, g1, g2⟩ := g.inv_two
    obtain ⟨_, g1', g2'⟩ := g'.inv_two
    obtain ⟨l1, l2⟩ := fleast_parts2 l
    obtain ⟨l1', l2'⟩ := fleast_parts2 l'
    rw [fmSz_two] at z z'
    rw [fmUp2 hk hd (by omega), fmUp2 hk hd (by omega)]
    exact .two hk (ih1 g1 g1' l1 l1' d hd (by omega) (by omega)) (ih2 g2 g2' l2 l2' d hd (by omega) (by omega))
  | q hk _ ih1 =>
    intro g g' l l' d hd z z'
    rw [fmSz_q] at z z'
    rw [fmUpq hk hd (by omega), fmUpq hk hd (by omega)]
    exact .q hk (ih1 g.inv_q.2 g'.inv_q.2 (fleast_part l) (fleast_part l') _ (by omega) (by omega) (by omega))

theorem FmR.inn {s s' : Tm} (hs : Star s s') (gs : TmG s) (gs' : TmG s') (ls : s.least 1000000000 = true) (ls' : s'.least 1000000000 = true) (zs : tmSz s ≤ 100000) (zs' : tmSz s' ≤ 100000) {f f' : Fm} (h : FmR f f') :
    FmG true f → FmG true f' → f.least 1000000000 = true → f'.least 1000000000 = true → ∀ d : Int, 0 ≤ d → d + fmSz f ≤ 100000 → d + fmSz f' ≤ 100000 → FmR (fmInn s 0 f d) (fmInn s' 0 f' d) := by
  have one : ∀ {x x' : Tm}, Star x x' → TmG x → TmG x' → x.least 1000000000 = true → x'.least 1000000000 = true → ∀ d : Int, 0 ≤ d → d + tmSz x ≤ 100000 → d + tmSz x' ≤ 100000 → Star (tmInn s 0 x d) (tmInn s' 0 x' d) := by
    intro x x' hx gx gx' lx lx' d hd z z'
    rw [inn_p gs ls (by omega) gx d lx hd (by omega), inn_p gs' ls' (by omega) gx' d lx' hd (by omega)]
    exact Star.inn hs gs hx gx hd
  induction h with
  | eq h1 h2 =>
    intro g g' l l' d hd z z'
    obtain ⟨g1, g2⟩ := g.inv_eq
    obtain ⟨g1', g2'⟩ := g'.inv_eq
    obtain ⟨l1, l2⟩ := fleast_eq.1 l
    obtain ⟨l1', l2'⟩ := fleast_eq.1 l'
    rw [fmSz_eq] at z z'
    rw [fmInn_eqn, fmInn_eqn]
    exact .eq (one h1 g1 g1' l1 l1' d hd (by omega) (by omega)) (one h2 g2 g2' l2 l2' d hd (by omega) (by omega))
  | two hk _ _ ih1 ih2 =>
    intro g g' l l' d hd z z'
    obtain ⟨_, g1, g2⟩ := g.inv_two
    obtain ⟨_, g1', g2'⟩ := g'.inv_two
    obtain ⟨l1, l2⟩ := fleast_parts2 l
    obtain ⟨l1', l2'⟩ := fleast_parts2 l'
    rw [fmSz_two] at z z'
    rw [fmInn_two, fmInn_two, below_two hk, addW_zero hd (by omega)]
    exact .two hk (ih1 g1 g1' l1 l1' d hd (by omega) (by omega)) (ih2 g2 g2' l2 l2' d hd (by omega) (by omega))
  | q hk _ ih1 =>
    intro g g' l l' d hd z z'
    rw [fmSz_q] at z z'
    have hr := below_q hk
    rw [fmInn_q, fmInn_q, hr, addW_eq (by omega) (by omega) (by omega) (by omega)]
    exact .q hk (ih1 g.inv_q.2 g'.inv_q.2 (fleast_part l) (fleast_part l') _ (by omega) (by omega) (by omega))

end GoAbs

namespace GoAbs
open Go

/-- Formulas with the right kinds and types. -/
inductive FmC : Fm → Prop
  | eq {t : Ty} {l : List Tm} : FmC (.mk 1 t l [])
  | two {k : Int} {t : Ty} {l : List Tm} {a b : Fm} (hk : k = 2 ∨ k = 3) : FmC a → FmC b → FmC (.mk k t l [a, b])
  | q {k : Int} {s : Ty} {l : List Tm} {a : Fm} (hk : k = 4 ∨ k = 5 ∨ k = 6 ∨ k = 7) (hs : TyG s) : FmC a → FmC (.mk k s l [a])
theorem FmC.ev {F : Tm → Int → Tm} {f : Fm} (h : FmC f) : ∀ b : Int, FmC (f.ev F b) := by
  induction h with
  | eq => intro b; rw [Fm.ev_eq]; exact .eq
  | two hk _ _ h1 h2 => intro b; rw [Fm.ev_eq]; exact .two hk (h1 _) (h2 _)
  | q hk hs _ h1 => intro b; rw [Fm.ev_eq]; exact .q hk hs (h1 _)
theorem FmC.arg {f x : Fm} (h : FmC f) (hx : x ∈ f.args) : FmC x := by
  cases h with
  | eq => simp [Fm.args] at hx
  | two _ ha hb => simp [Fm.args] at hx; rcases hx with rfl | rfl <;> assumption
  | q _ _ ha => simp [Fm.args] at hx; subst hx; exact ha

theorem ctk_1 {t : Ty} {l : List Tm} : (Fm.mk 1 t l []).ct = (tUnit, 0) ∧ (Fm.mk 1 t l []).fl.c = false := ⟨rfl, by rw [Fm.fl_1 rfl]⟩
theorem ctk_2 {t : Ty} {l : List Tm} {a b : Fm} : (Fm.mk 2 t l [a, b]).ct = (if a.fl.c then (if b.fl.c then ctJoin 3 a.ct b.ct else a.ct) else b.ct) ∧ (Fm.mk 2 t l [a, b]).fl.c = (b.fl.c || a.fl.c) :=
  ⟨by rw [Fm.ct, Fm.ctL, Fm.ctL, Fm.ctL]; rfl, by rw [Fm.fl_2 (f := .mk 2 t l [a, b]) (.inl rfl) rfl]; rfl⟩
theorem ctk_3 {t : Ty} {l : List Tm} {a b : Fm} : (Fm.mk 3 t l [a, b]).ct = (if b.fl.c then (if a.fl.c then ctJoin 4 a.ct b.ct else b.ct) else (tUnit, 0)) ∧ (Fm.mk 3 t l [a, b]).fl.c = b.fl.c :=
  ⟨by rw [Fm.ct, Fm.ctL, Fm.ctL, Fm.ctL]; rfl, by rw [Fm.fl_2 (f := .mk 3 t l [a, b]) (.inr rfl) rfl]; show (b.fl.c || false) = _; rw [Bool.or_false]⟩
theorem ctk_4 {s : Ty} {l : List Tm} {a : Fm} : (Fm.mk 4 s l [a]).ct = (if a.fl.c then ctJoin 4 (s, 0) a.ct else (tUnit, 0)) ∧ (Fm.mk 4 s l [a]).fl.c = a.fl.c :=
  ⟨by rw [Fm.ct, Fm.ctL, Fm.ctL]; rfl, by rw [Fm.fl_q (f := .mk 4 s l [a]) (by simp [Fm.kind]) rfl]; show (a.fl.c || false) = _; rw [Bool.or_false]⟩
theorem ctk_5 {s : Ty} {l : List Tm} {a : Fm} : (Fm.mk 5 s l [a]).ct = (if a.fl.c then ctJoin 3 (s, 0) a.ct else (s, 0)) ∧ (Fm.mk 5 s l [a]).fl.c = true :=
  ⟨by rw [Fm.ct, Fm.ctL, Fm.ctL]; rfl, by rw [Fm.fl_q (f := .mk 5 s l [a]) (by simp [Fm.kind]) rfl]; show (a.fl.c || true) = _; rw [Bool.or_true]⟩
theorem ctk_67 {k : Int} (hk : k = 6 ∨ k = 7) {s : Ty} {l : List Tm} {a : Fm} : (Fm.mk k s l [a]).ct = a.ct ∧ (Fm.mk k s l [a]).fl.c = a.fl.c := by
  rcases hk with rfl | rfl
  · exact ⟨by rw [Fm.ct, Fm.ctL, Fm.ctL]; rfl, by rw [Fm.fl_q (f := .mk 6 s l [a]) (by simp [Fm.kind]) rfl]; show (a.fl.c || false) = _; rw [Bool.or_false]⟩
  · exact ⟨by rw [Fm.ct, Fm.ctL, Fm.ctL]; rfl, by rw [Fm.fl_q (f := .mk 7 s l [a]) (by simp [Fm.kind]) rfl]; show (a.fl.c || false) = _; rw [Bool.or_false]⟩

/-- What a content type may be. -/
def CtOk (p : Ty × Int) : Prop := (p.2 = 0 ∧ TyG p.1) ∨ p = (tZero, 4)
theorem ctJoin_ok {k : Int} (hk : k = 3 ∨ k = 4) {x y : Ty × Int} (hx : CtOk x) (hy : CtOk y) : CtOk (ctJoin k x y) := by
  rcases hx with ⟨ex, gx⟩ | rfl
  case inr => exact .inr rfl
  rcases hy with ⟨ey, gy⟩ | rfl
  case inr => unfold ctJoin; rw [ex]; exact .inr rfl
  rcases ctJoin_G hk (.inl ⟨ex, gx⟩) (.inl ⟨ey, gy⟩) with ⟨h1, h2, _⟩ | h4
  · exact .inl ⟨h1, h2⟩
  · right
    unfold ctJoin at h4 ⊢
    rw [ex, ey] at h4 ⊢
    have n0 : ((0 : Int) != 0) = false := rfl
    rw [n0] at h4 ⊢
    simp only [Bool.false_eq_true, if_false] at h4 ⊢
    split at h4
    · rename_i h; rw [if_pos h]; simp only at h4; rw [h4]
    · cases h4
theorem FmC.ok {f : Fm} (h : FmC f) : CtOk f.ct ∧ (f.fl.c = false → f.ct = (tUnit, 0)) := by
  induction h with
  | eq => exact ⟨.inl ⟨by rw [ctk_1.1], by rw [ctk_1.1]; exact TyG.unit⟩, fun _ => ctk_1.1⟩
  | @two k t l a b hk _ _ h1 h2 =>
    rcases hk with rfl | rfl
    · rw [ctk_2.1, ctk_2.2]
      cases ha : a.fl.c <;> cases hb : b.fl.c <;> simp only [Bool.or_false, Bool.or_true, Bool.or_self, if_true, Bool.false_eq_true, if_false, false_implies, and_true, true_implies]
      · exact ⟨h2.1, h2.2 hb⟩
      · exact ⟨h2.1, fun h => by cases h⟩
      · exact ⟨h1.1, fun h => by cases h⟩
      · exact ⟨ctJoin_ok (.inl rfl) h1.1 h2.1, fun h => by cases h⟩
    · rw [ctk_3.1, ctk_3.2]
      cases ha : a.fl.c <;> cases hb : b.fl.c <;> simp only [if_true, Bool.false_eq_true, if_false]
      · exact ⟨.inl ⟨rfl, TyG.unit⟩, fun _ => trivial⟩
      · exact ⟨h2.1, fun h => by cases h⟩
      · exact ⟨.inl ⟨rfl, TyG.unit⟩, fun _ => trivial⟩
      · exact ⟨ctJoin_ok (.inr rfl) h1.1 h2.1, fun h => by cases h⟩
  | @q k s l a hk hs _ h1 =>
    rcases hk with rfl | rfl | hk
    · rw [ctk_4.1, ctk_4.2]
      cases ha : a.fl.c <;> simp only [if_true, Bool.false_eq_true, if_false]
      · exact ⟨.inl ⟨rfl, TyG.unit⟩, fun _ => trivial⟩
      · exact ⟨ctJoin_ok (.inr rfl) (.inl ⟨rfl, hs⟩) h1.1, fun h => by cases h⟩
    · rw [ctk_5.1, ctk_5.2]
      refine ⟨?_, fun h => by cases h⟩
      cases ha : a.fl.c <;> simp only [if_true, Bool.false_eq_true, if_false]
      · exact .inl ⟨rfl, hs⟩
      · exact ctJoin_ok (.inl rfl) (.inl ⟨rfl, hs⟩) h1.1
    · rw [(ctk_67 hk).1, (ctk_67 hk).2]; exact h1

end GoAbs

namespace GoAbs
open Go

end GoAbs

namespace GoAbs
open Go

theorem FmTy.inv_eq {Q : Ty → Prop} {g : List Ty} {x y : Tm} (h : FmTy Q g (fmEq x y)) : HasTy Q g x tNat ∧ HasTy Q g y tNat := by
  generalize e : fmEq x y = f at h
  cases h with
  | eq h1 h2 => simp only [fmEq, Fm.mk.injEq, List.cons.injEq, and_true, true_and] at e; obtain ⟨rfl, rfl⟩ := e; exact ⟨h1, h2⟩
  | two hk _ _ => simp [fmEq, fmTwo] at e
  | q hk _ => simp [fmEq, fmQ] at e
theorem FmTy.inv_two {Q : Ty → Prop} {g : List Ty} {k : Int} {a b : Fm} (h : FmTy Q g (fmTwo k a b)) : FmTy Q g a ∧ FmTy Q g b := by
  generalize e : fmTwo k a b = f at h
  cases h with
  | eq h1 h2 => simp [fmEq, fmTwo] at e
  | two hk h1 h2 => simp only [fmTwo, Fm.mk.injEq, List.cons.injEq, and_true, true_and] at e; obtain ⟨rfl, rfl, rfl⟩ := e; exact ⟨h1, h2⟩
  | q hk _ => simp [fmTwo, fmQ] at e
theorem FmTy.inv_q {Q : Ty → Prop} {g : List Ty} {k : Int} {s : Ty} {a : Fm} (h : FmTy Q g (fmQ k s a)) : FmTy Q (g ++ [s]) a := by
  generalize e : fmQ k s a = f at h
  cases h with
  | eq h1 h2 => simp [fmEq, fmQ] at e
  | two hk _ _ => simp [fmTwo, fmQ] at e
  | q hk h1 => simp only [fmQ, Fm.mk.injEq, List.cons.injEq, and_true, true_and] at e; obtain ⟨rfl, rfl, rfl⟩ := e; exact h1
end GoAbs

namespace GoAbs
open Go

def oneT : Tm := tm0 5 [tm0 4 []]
def distT : Tm := lamN (lamN (tm0 3 [tm0 3 [plusT, tm0 3 [tm0 3 [subT, tmVar 1], tmVar 0]], tm0 3 [tm0 3 [subT, tmVar 0], tmVar 1]]))
def chooseT (t : Ty) (c a b : Tm) : Tm := tmT 6 t [b, tmT 2 tNat [tmT 2 t [a]], c]
def eqT (x y : Tm) : Tm := chooseT tNat (tm0 3 [tm0 3 [distT, x], y]) (tm0 4 []) oneT
def elseT (k : Int) : Tm := if k == 2 then tm0 4 [] else oneT
def cutT (t : Tm) : Tm × Int := if tmErr t != 0 then (zeroT, 4) else (t, 0)
def twoT (k : Int) (x y : Tm × Int) : Tm × Int :=
  if x.2 != 0 then (zeroT, x.2) else if y.2 != 0 then (zeroT, y.2) else cutT (chooseT tNat x.1 (y.1.up 2 0) (elseT k))
/-- The characteristic term of a formula without quantifiers. -/
def trCase (k : Int) (ts : List Tm) : List (Tm × Int) → Tm × Int
  | [x, y] => twoT k x y
  | _ => cutT (eqT (ts.getD 0 zeroT) (ts.getD 1 zeroT))
mutual
def Fm.tr : Fm → Tm × Int
  | .mk k _ ts l => trCase k ts (Fm.trL l)
def Fm.trL : List Fm → List (Tm × Int)
  | [] => []
  | f :: l => f.tr :: Fm.trL l
end
theorem tr_eqn {x y : Tm} : (fmEq x y).tr = cutT (eqT x y) := by rw [fmEq, Fm.tr, Fm.trL]; rfl
theorem tr_two {k : Int} {a b : Fm} : (fmTwo k a b).tr = twoT k a.tr b.tr := by rw [fmTwo, Fm.tr, Fm.trL, Fm.trL, Fm.trL]; rfl
/-- truth.Term. -/
def trF (f : Fm) : Tm × Int :=
  if fmErr f != 0 then (zeroT, fmErr f) else if !f.mfree then (zeroT, 42) else if !f.least 268435456 then (zeroT, 1) else f.tr

theorem distT_W : TmW distT := lamN_W (lamN_W (tm0_W2 (tm0_W2 plusT_W (tm0_W2 (tm0_W2 subT_W (tmVar_W _)) (tmVar_W _))) (tm0_W2 (tm0_W2 subT_W (tmVar_W _)) (tmVar_W _))))
theorem oneT_W : TmW oneT := tm0_W1 tm0_W0
theorem elseT_W {k : Int} : TmW (elseT k) := by unfold elseT; split <;> first | exact tm0_W0 | exact oneT_W
theorem chooseT_W {t : Ty} {c a b : Tm} (ht : TyW t) (hc : TmW c) (ha : TmW a) (hb : TmW b) : TmW (chooseT t c a b) := tmT_W3 ht hb (tmT_W1 tNat_W (tmT_W1 ht ha)) hc
theorem eqT_W {x y : Tm} (hx : TmW x) (hy : TmW y) : TmW (eqT x y) := chooseT_W tNat_W (tm0_W2 (tm0_W2 distT_W hx) hy) tm0_W0 oneT_W
theorem distT_G : TmG distT := lamN_G (lamN_G (.t2 ar3 rfl (.t2 ar3 rfl plusT_G (.t2 ar3 rfl (.t2 ar3 rfl subT_G v1_G) v0_G)) (.t2 ar3 rfl (.t2 ar3 rfl subT_G v0_G) v1_G)))
theorem oneT_G : TmG oneT := .t1 ar5 rfl (.t0 ar4 rfl)
theorem elseT_G {k : Int} : TmG (elseT k) := by unfold elseT; split <;> first | exact .t0 ar4 rfl | exact oneT_G
theorem chooseT_G {t : Ty} {c a b : Tm} (ht : TyG t) (hc : TmG c) (ha : TmG a) (hb : TmG b) : TmG (chooseT t c a b) := .recr ht hb (.lam .nat (.lam ht ha)) hc
theorem eqT_G {x y : Tm} (hx : TmG x) (hy : TmG y) : TmG (eqT x y) := chooseT_G .nat (.t2 ar3 rfl (.t2 ar3 rfl distT_G hx) hy) (.t0 ar4 rfl) oneT_G
theorem chooseT_sz {t : Ty} {c a b : Tm} : tmSz (chooseT t c a b) = tmSz c + tmSz a + tmSz b + 3 := by
  rw [chooseT, tmSz_T3, tmSz_T1, tmSz_T1]; omega
theorem distT_sz : tmSz distT = 53 := by decide
theorem eqT_sz {x y : Tm} : tmSz (eqT x y) = tmSz x + tmSz y + 61 := by
  rw [eqT, chooseT_sz, tmSz_2, tmSz_2, distT_sz, oneT, tmSz_1, tmSz_0]; omega
theorem elseT_sz {k : Int} : tmSz (elseT k) ≤ 2 := by unfold elseT; split <;> simp [oneT, tmSz_1, tmSz_0]
theorem least_dist {m : Int} (hm : 1 ≤ m) : distT.least m = true :=
  least_T1 hm (least_T1 hm (least_2 hm (least_2 hm (least_plus hm) (least_2 hm (least_2 hm (least_sub hm) (least_v hm)) (least_v (by omega)))) (least_2 hm (least_2 hm (least_sub hm) (least_v (by omega))) (least_v hm))))
theorem least_else {m k : Int} (hm : 1 ≤ m) : (elseT k).least m = true := by unfold elseT; split <;> first | exact least_0 hm | exact least_1 hm (least_0 hm)
theorem chooseT_least {m : Int} {t : Ty} {c a b : Tm} (hm : 1 ≤ m) (hc : c.least m = true) (ha : a.least m = true) (hb : b.least m = true) : (chooseT t c a b).least m = true :=
  least_T3 hm hb (least_T1 hm (least_T1 hm ha)) hc
theorem eqT_least {m : Int} {x y : Tm} (hm : 1 ≤ m) (hx : x.least m = true) (hy : y.least m = true) : (eqT x y).least m = true :=
  chooseT_least hm (least_2 hm (least_2 hm (least_dist hm) hx) hy) (least_0 hm) (least_1 hm (least_0 hm))
theorem distT_ty {g : List Ty} : HasTy TyG g distT (tFun tNat (tFun tNat tNat)) :=
  .lam1 tNNN (.lam1 tNN (.n2 (ty := .mk 0 []) .app (.n2 (ty := .mk 0 []) .app .plus (.n2 (ty := .mk 0 []) .app (.n2 (ty := .mk 0 []) .app .sub .v1) .v0)) (.n2 (ty := .mk 0 []) .app (.n2 (ty := .mk 0 []) .app .sub .v0) .v1)))
theorem oneT_ty {g : List Ty} : HasTy TyG g oneT tNat := .num 1
theorem elseT_ty {g : List Ty} {k : Int} : HasTy TyG g (elseT k) tNat := by unfold elseT; split <;> first | exact .num 0 | exact oneT_ty
theorem chooseT_ty {g : List Ty} {t : Ty} {c a b : Tm} (hs : TyG (tFun tNat (tFun t t))) (hs2 : TyG (tFun t t)) (hc : HasTy TyG g c tNat) (ha : HasTy TyG (g ++ [tNat] ++ [t]) a t) (hb : HasTy TyG g b t) : HasTy TyG g (chooseT t c a b) t :=
  .n3 .recr hb (.lam hs (.lam hs2 ha)) hc
theorem eqT_ty {g : List Ty} {x y : Tm} (hx : HasTy TyG g x tNat) (hy : HasTy TyG g y tNat) : HasTy TyG g (eqT x y) tNat :=
  chooseT_ty tNNN tNN (.n2 (ty := .mk 0 []) .app (.n2 (ty := .mk 0 []) .app distT_ty hx) hy) (.n0 (ty := .mk 0 []) .zero) oneT_ty

theorem cutT_ok {t r : Tm} (h : cutT t = (r, 0)) : r = t ∧ tmErr t = 0 := by
  unfold cutT at h
  split at h
  · simp at h
  · rename_i h0; simp at h h0; exact ⟨h.symm, h0⟩
theorem cutT_G {t : Tm} (h : TmG t) (hs : tmSz t ≤ 1000000) : cutT t = if tmSz t ≤ 4096 then (t, 0) else (zeroT, 4) := by
  unfold cutT; rw [h.err_val hs]; split <;> simp
theorem cutT_err {t : Tm} : (cutT t).2 = 0 ∨ (cutT t).2 = 4 := by
  unfold cutT; split <;> simp
theorem cutT_W {t : Tm} (h : TmW t) : TmW (cutT t).1 := by
  unfold cutT; split
  · exact zeroT_W
  · exact h
theorem twoT_W {k : Int} {x y : Tm × Int} (hx : TmW x.1) (hy : TmW y.1) : TmW (twoT k x y).1 := by
  unfold twoT; split
  · exact zeroT_W
  split
  · exact zeroT_W
  · exact cutT_W (chooseT_W tNat_W hx (tm_upW _ _ hy) elseT_W)
theorem twoT_ok {k : Int} {x y : Tm × Int} {t : Tm} (h : twoT k x y = (t, 0)) : x.2 = 0 ∧ y.2 = 0 ∧ t = chooseT tNat x.1 (y.1.up 2 0) (elseT k) ∧ tmErr t = 0 := by
  unfold twoT at h
  split at h
  · rename_i h0; simp at h0 h; exact absurd h.2 h0
  split at h
  · rename_i h0; simp at h0 h; exact absurd h.2 h0
  · rename_i h0 h1
    obtain ⟨rfl, h2⟩ := cutT_ok h
    exact ⟨by simpa using h0, by simpa using h1, rfl, h2⟩
theorem twoT_err {k : Int} {x y : Tm × Int} (hx : x.2 = 0 ∨ x.2 = 4) (hy : y.2 = 0 ∨ y.2 = 4) : (twoT k x y).2 = 0 ∨ (twoT k x y).2 = 4 := by
  unfold twoT
  split
  · exact hx
  split
  · exact hy
  · exact cutT_err

theorem least_eqn' {M : Int} {x y : Tm} (h : (fmEq x y).least M = true) : x.least M = true ∧ y.least M = true := by
  rw [Fm.least_eq] at h
  simp only [fmEq, Fm.terms, Fm.args, Tm.leastL_cons, Tm.leastL_nil, Fm.leastL_nil, Bool.and_true, Bool.and_eq_true] at h; exact h
theorem least_two' {M k : Int} {x y : Fm} (h : (fmTwo k x y).least M = true) : x.least M = true ∧ y.least M = true := by
  rw [Fm.least_eq] at h
  simp only [fmTwo, Fm.terms, Fm.args, Fm.leastL_cons, Tm.leastL_nil, Fm.leastL_nil, Bool.and_true, Bool.true_and, Bool.and_eq_true] at h; exact h
theorem mfree_eqn {x y : Tm} : (fmEq x y).mfree = true := by rw [fmEq, Fm.mfree, Fm.mfreeL_nil]; rfl
theorem mfree_two' {k : Int} {a b : Fm} (h : (fmTwo k a b).mfree = true) : a.mfree = true ∧ b.mfree = true := by
  rw [fmTwo, Fm.mfree, Fm.mfreeL_cons, Fm.mfreeL_cons, Fm.mfreeL_nil] at h
  simp at h; exact h.2
theorem mfree_q' {k : Int} {t : Ty} {a : Fm} (hk : k = 4 ∨ k = 5 ∨ k = 6 ∨ k = 7) : (fmQ k t a).mfree = false := by
  rw [fmQ, Fm.mfree]
  rcases hk with rfl | rfl | rfl | rfl <;> simp
theorem tr_W {u : Bool} {f : Fm} (hf : FmG u f) : FmW f → f.mfree = true → TmW f.tr.1 := by
  induction hf with
  | eq _ _ => intro hw _; rw [tr_eqn]; exact cutT_W (eqT_W (hw.term (by simp [fmEq, Fm.terms])) (hw.term (by simp [fmEq, Fm.terms])))
  | two _ _ _ h1 h2 =>
    intro hw hm
    rw [tr_two]
    exact twoT_W (h1 (hw.arg (by simp [fmTwo, Fm.args])) (mfree_two' hm).1) (h2 (hw.arg (by simp [fmTwo, Fm.args])) (mfree_two' hm).2)
  | q hk _ _ _ => intro _ hm; rw [mfree_q' (FmG.qk hk)] at hm; cases hm
theorem tr_err {u : Bool} {f : Fm} (hf : FmG u f) : f.mfree = true → f.tr.2 = 0 ∨ f.tr.2 = 4 := by
  induction hf with
  | eq _ _ => intro _; rw [tr_eqn]; exact cutT_err
  | two _ _ _ h1 h2 => intro hm; rw [tr_two]; exact twoT_err (h1 (mfree_two' hm).1) (h2 (mfree_two' hm).2)
  | q hk _ _ _ => intro hm; rw [mfree_q' (FmG.qk hk)] at hm; cases hm
/-- What is made is well formed; its indices are hardly greater than those of the formula. -/
theorem tr_G {u : Bool} {f : Fm} (hf : FmG u f) : f.mfree = true → fmSz f ≤ 4096 → ∀ M : Int, 1 ≤ M → M ≤ 300000000 → f.least M = true → f.tr.2 = 0 → TmG f.tr.1 ∧ tmSz f.tr.1 ≤ 4096 ∧ f.tr.1.least (M + 2 * fmSz f) = true := by
  induction hf with
  | @eq x y hx hy =>
    intro _ hz M hM hM2 hl he
    rw [fmSz_eq] at hz ⊢
    have hG := eqT_G hx hy
    have hs : tmSz (eqT x y) ≤ 1000000 := by rw [eqT_sz]; omega
    rw [tr_eqn, cutT_G hG hs] at he ⊢
    split
    · rename_i h4
      refine ⟨hG, h4, eqT_least (by omega) ?_ ?_⟩
      · exact least_mono (by omega) _ (least_eqn' hl).1
      · exact least_mono (by omega) _ (least_eqn' hl).2
    · rename_i h4; rw [if_neg h4] at he; simp at he
  | @two k a b hk _ _ h1 h2 =>
    intro hm hz M hM hM2 hl he
    rw [fmSz_two] at hz ⊢
    rw [tr_two] at he ⊢
    obtain ⟨m1, m2⟩ := mfree_two' hm
    obtain ⟨l1, l2⟩ := least_two' hl
    cases hp : twoT k a.tr b.tr with
    | mk t e =>
    rw [hp] at he
    simp only at he
    subst he
    obtain ⟨e1, e2, rfl, e4⟩ := twoT_ok hp
    obtain ⟨a1, a2, a3⟩ := h1 m1 (by omega) M hM hM2 l1 e1
    obtain ⟨b1, b2, b3⟩ := h2 m2 (by omega) M hM hM2 l2 e2
    have b4 := TmG.up (b := 2) (by omega) (by omega) _ b1 (Nat.le_refl _) (least_mono (by omega) _ b3) 0
    have b5 := tmSz_up (b := 2) (t := b.tr.1) (fr := 0)
    have hG := chooseT_G .nat a1 b4 (elseT_G (k := k))
    have hsz := chooseT_sz (t := tNat) (c := a.tr.1) (a := b.tr.1.up 2 0) (b := elseT k)
    have := elseT_sz (k := k)
    have hs : tmSz (chooseT tNat a.tr.1 (b.tr.1.up 2 0) (elseT k)) ≤ 1000000 := by rw [hsz, b5]; omega
    rw [hG.err_val hs] at e4
    refine ⟨hG, ?_, chooseT_least (by omega) (least_mono (by omega) _ a3) ?_ (least_else (by omega))⟩
    · by_cases h : tmSz (chooseT tNat a.tr.1 (b.tr.1.up 2 0) (elseT k)) ≤ 4096
      · exact h
      · rw [if_neg h] at e4; simp at e4
    · exact least_mono (by omega) _ (least_up (b := 2) (M := M + 2 * fmSz b) (by omega) (by omega) (by omega) (by omega) _ b1 (Nat.le_refl _) b3 0)
  | q hk _ _ _ => intro hm; rw [mfree_q' (FmG.qk hk)] at hm; cases hm
/-- It is a number. -/
theorem tr_ty {f : Fm} {g : List Ty} (hf : FmTy TyG g f) : f.mfree = true → g.length ≤ 50000 → FmG true f → fmSz f ≤ 4096 → f.least 268435456 = true → f.tr.2 = 0 → HasTy TyG g f.tr.1 tNat := by
  induction hf with
  | @eq g x y hx hy =>
    intro _ _ _ _ _ he
    rw [tr_eqn] at he ⊢
    cases hp : cutT (eqT x y) with
    | mk t e =>
    rw [hp] at he; simp only at he; subst he
    obtain ⟨rfl, _⟩ := cutT_ok hp
    exact eqT_ty hx hy
  | @two g k a b hk _ _ h1 h2 =>
    intro hm hgl hG hz hl he
    rw [fmSz_two] at hz
    rw [tr_two] at he ⊢
    obtain ⟨m1, m2⟩ := mfree_two' hm
    obtain ⟨l1, l2⟩ := least_two' hl
    obtain ⟨_, g1, g2⟩ := hG.inv_two
    cases hp : twoT k a.tr b.tr with
    | mk t e =>
    rw [hp] at he; simp only at he; subst he
    obtain ⟨e1, e2, rfl, e4⟩ := twoT_ok hp
    have b0 := tr_G g2 m2 (by omega) 268435456 (by omega) (by omega) l2 e2
    refine chooseT_ty tNNN tNN (h1 m1 hgl g1 (by omega) l1 e1) ?_ elseT_ty
    have := (h2 m2 hgl g2 (by omega) l2 e2).upl (m := [tNat, tNat]) g [] (by simp) (by simp; omega) (by omega) (by simp)
    simpa using this
  | q hk _ _ => intro hm; rw [mfree_q' hk] at hm; cases hm
end GoAbs

namespace GoAbs
open Go

def bldT (t : Tm) : Tm × Int := if decide (t.szW > 4096) then (zeroT, 4) else (t, 0)
theorem bldT_cut {t : Tm} (h : TmG t) (hs : tmSz t ≤ 1000000) : bldT t = cutT t := by
  rw [cutT_G h hs, bldT, h.szW hs]
  by_cases h4 : tmSz t ≤ 4096
  · rw [if_neg (by simp; omega), if_pos h4]
  · rw [if_pos (by simp; omega), if_neg h4]
/-- terms.Apply of the distance. -/
def applyT (x y : Tm) : Tm × Int := if decide ((tmSz x : Int) + tmSz y + 55 > 4096) then (zeroT, 4) else (tm0 3 [tm0 3 [distT, x], y], 0)
theorem eqT_apply {x y : Tm} (hx : TmG x) (hy : TmG y) (zx : tmSz x ≤ 4096) (zy : tmSz y ≤ 4096) :
    (if (applyT x y).2 != 0 then (zeroT, (applyT x y).2) else bldT (chooseT tNat (applyT x y).1 ((tm0 4 []).sl 2 0) oneT)) = cutT (eqT x y) := by
  have hG := eqT_G hx hy
  have hs : tmSz (eqT x y) ≤ 1000000 := by rw [eqT_sz]; omega
  have hz : (tm0 4 []).sl 2 0 = tm0 4 [] := rfl
  unfold applyT
  by_cases h : (tmSz x : Int) + tmSz y + 55 > 4096
  · have e : (if decide ((tmSz x : Int) + tmSz y + 55 > 4096) = true then (zeroT, (4 : Int)) else (tm0 3 [tm0 3 [distT, x], y], 0)) = (zeroT, 4) := if_pos (decide_eq_true h)
    rw [e, if_pos (by decide), cutT_G hG hs, if_neg (by rw [eqT_sz]; omega)]
  · have e : (if decide ((tmSz x : Int) + tmSz y + 55 > 4096) = true then (zeroT, (4 : Int)) else (tm0 3 [tm0 3 [distT, x], y], 0)) = (tm0 3 [tm0 3 [distT, x], y], 0) := if_neg (by simpa using h)
    rw [e, if_neg (by simp), hz]
    exact bldT_cut hG hs
theorem two_choose {k : Int} {x y : Tm × Int} (hx : TmG x.1) (hy : TmG y.1) (zx : tmSz x.1 ≤ 4096) (zy : tmSz y.1 ≤ 4096) (ly : y.1.least 300000000 = true) (e1 : x.2 = 0) (e2 : y.2 = 0) :
    bldT (chooseT tNat x.1 (y.1.sl 2 0) (elseT k)) = twoT k x y := by
  have hs := sl_up (b := 2) (by omega) (by omega) _ hy (Nat.le_refl _) (least_mono (by omega) _ ly) 0 (by omega) (by omega)
  have hu := TmG.up (b := 2) (by omega) (by omega) _ hy (Nat.le_refl _) (least_mono (by omega) _ ly) 0
  have hz := tmSz_up (b := 2) y.1 0
  have := elseT_sz (k := k)
  rw [hs, twoT, e1, e2, if_neg (by simp), if_neg (by simp)]
  exact bldT_cut (chooseT_G .nat hx hu elseT_G) (by rw [chooseT_sz, hz]; omega)
theorem chk_G {t : Tm} (h : TmG t) (hz : tmSz t ≤ 4096) : chk 4096 t.nodes = ((tmSz t : Int), 0) := by
  rw [h.nodes_val (by omega), chk, if_neg (by omega)]
/-- The sum of the nodes in terms.Apply. -/
def apAt (x y : Tm) (i : Nat) : Nat := if i = 0 then 53 else if i = 1 then 54 + tmSz x else 55 + tmSz x + tmSz y
theorem chk_dist : chk 4096 distT.nodes = (53, 0) := by
  rw [chk_G distT_G (by rw [distT_sz]; omega), distT_sz]; rfl
end GoAbs
namespace GoAbs
open Go
/-- truth.If. -/
def ifF (t : Ty) (c a b : Tm) : Tm × Int :=
  if tyErr t != 0 then (zeroT, tyErr t) else if tmErr c != 0 then (zeroT, tmErr c) else if tmErr a != 0 then (zeroT, tmErr a) else if tmErr b != 0 then (zeroT, tmErr b)
  else if !a.least 268435456 then (zeroT, 1) else cutT (chooseT t c (a.up 2 0) b)
theorem ifF_1 {t : Ty} {c a b : Tm} (h : (tyErr t != 0) = true) : ifF t c a b = (zeroT, tyErr t) := by unfold ifF; rw [if_pos h]
theorem ifF_2 {t : Ty} {c a b : Tm} (h : tyErr t = 0) (h1 : (tmErr c != 0) = true) : ifF t c a b = (zeroT, tmErr c) := by unfold ifF; rw [if_neg (by simp [h]), if_pos h1]
theorem ifF_3 {t : Ty} {c a b : Tm} (h : tyErr t = 0) (h1 : tmErr c = 0) (h2 : (tmErr a != 0) = true) : ifF t c a b = (zeroT, tmErr a) := by unfold ifF; rw [if_neg (by simp [h]), if_neg (by simp [h1]), if_pos h2]
theorem ifF_4 {t : Ty} {c a b : Tm} (h : tyErr t = 0) (h1 : tmErr c = 0) (h2 : tmErr a = 0) (h3 : (tmErr b != 0) = true) : ifF t c a b = (zeroT, tmErr b) := by
  unfold ifF; rw [if_neg (by simp [h]), if_neg (by simp [h1]), if_neg (by simp [h2]), if_pos h3]
theorem ifF_5 {t : Ty} {c a b : Tm} (h : tyErr t = 0) (h1 : tmErr c = 0) (h2 : tmErr a = 0) (h3 : tmErr b = 0) (h4 : a.least 268435456 = false) : ifF t c a b = (zeroT, 1) := by
  unfold ifF; rw [if_neg (by simp [h]), if_neg (by simp [h1]), if_neg (by simp [h2]), if_neg (by simp [h3]), if_pos (by simp [h4])]
theorem ifF_6 {t : Ty} {c a b : Tm} (h : tyErr t = 0) (h1 : tmErr c = 0) (h2 : tmErr a = 0) (h3 : tmErr b = 0) (h4 : a.least 268435456 = true) : ifF t c a b = cutT (chooseT t c (a.up 2 0) b) := by
  unfold ifF; rw [if_neg (by simp [h]), if_neg (by simp [h1]), if_neg (by simp [h2]), if_neg (by simp [h3]), if_neg (by simp [h4])]
end GoAbs

namespace GoAbs
open Go

/-- What is left to do, some parts being evaluated. -/
def argsK (E : Evl) (e : List Res) (k : Int) (u : Nat) (li : List Res) (ts : List Tm) : Out :=
  match evArgs E e u ts with
  | none => none
  | some (_, u', true) => some (zeroR, u', true)
  | some (l, u', false) => evOf E k u' (li ++ l)
theorem argsK_nil {E : Evl} {e : List Res} {k : Int} {u : Nat} {li : List Res} : argsK E e k u li [] = evOf E k u li := by simp [argsK, evArgs]
theorem argsK_cons {E : Evl} {e : List Res} {k : Int} {u : Nat} {li : List Res} {t : Tm} {ts : List Tm} :
    argsK E e k u li (t :: ts) = match E u t e with | none => none | some (_, u', true) => some (zeroR, u', true) | some (x, u', false) => argsK E e k u' (li ++ [x]) ts := by
  unfold argsK
  rw [evArgs]
  cases E u t e with
  | none => rfl
  | some p =>
    obtain ⟨x, u1, o1⟩ := p
    cases o1 with
    | true => rfl
    | false =>
      simp only
      cases evArgs E e u1 ts with
      | none => rfl
      | some q =>
        obtain ⟨l, u2, o2⟩ := q
        cases o2 <;> simp
theorem evStep_args {most : Nat} {E : Evl} {u : Nat} {t : Tm} {e : List Res} (hu : u ≠ most) (k1 : (t.kind == 1) = false) (k2 : (t.kind == 2) = false) :
    evStep most E u t e = argsK E e t.kind (u + 1) [] t.args := by
  unfold evStep argsK
  rw [if_neg hu, k1, k2]
  simp only [Bool.false_eq_true, if_false]
  cases evArgs E e (u + 1) t.args with
  | none => rfl
  | some p => obtain ⟨a, b, o⟩ := p; cases o <;> rfl

theorem evOf_3 {E : Evl} {u : Nat} {l : List Res} {p : Res × Nat × Bool} (h : evOf E 3 u l = some p) : ∃ f a, l = [f, a] ∧ evCall E u f a = some p := by
  unfold evOf at h
  rw [if_pos (by decide)] at h
  split at h
  · exact ⟨_, _, rfl, h⟩
  · cases h
theorem evOf_5 {E : Evl} {u : Nat} {l : List Res} {p : Res × Nat × Bool} (h : evOf E 5 u l = some p) : ∃ a, l = [a] ∧ p = (numR (a.num + 1), u, false) := by
  unfold evOf at h
  rw [if_neg (by decide), if_pos (by decide)] at h
  split at h
  · exact ⟨_, rfl, (Option.some.inj h).symm⟩
  · cases h
theorem evOf_6 {E : Evl} {u : Nat} {l : List Res} {p : Res × Nat × Bool} (h : evOf E 6 u l = some p) : ∃ z s n, l = [z, s, n] ∧ evRec E s n.num 0 u z = some p := by
  unfold evOf at h
  rw [if_neg (by decide), if_neg (by decide), if_pos (by decide)] at h
  split at h
  · exact ⟨_, _, _, rfl, h⟩
  · cases h
theorem evOf_8 {E : Evl} {u : Nat} {l : List Res} {p : Res × Nat × Bool} (h : evOf E 8 u l = some p) : ∃ a b, l = [a, b] ∧ p = (listR (a.num :: b.list), u, false) := by
  unfold evOf at h
  rw [if_neg (by decide), if_neg (by decide), if_neg (by decide), if_pos (by decide)] at h
  split at h
  · exact ⟨_, _, rfl, (Option.some.inj h).symm⟩
  · cases h
theorem evOf_9 {E : Evl} {u : Nat} {l : List Res} {p : Res × Nat × Bool} (h : evOf E 9 u l = some p) : ∃ z s n, l = [z, s, n] ∧ evFold E s n.list n.list.length u z = some p := by
  unfold evOf at h
  rw [if_neg (by decide), if_neg (by decide), if_neg (by decide), if_neg (by decide), if_pos (by decide)] at h
  split at h
  · exact ⟨_, _, _, rfl, h⟩
  · cases h
theorem evOf_10 {E : Evl} {u : Nat} {l : List Res} {p : Res × Nat × Bool} (h : evOf E 10 u l = some p) : p = (pairR l, u, false) := by
  unfold evOf at h
  rw [if_neg (by decide), if_neg (by decide), if_neg (by decide), if_neg (by decide), if_neg (by decide), if_pos (by decide)] at h
  exact (Option.some.inj h).symm
theorem evOf_11 {E : Evl} {u : Nat} {l : List Res} {p : Res × Nat × Bool} (h : evOf E 11 u l = some p) : ∃ a x y, l = [a] ∧ a.pair = [x, y] ∧ p = (x, u, false) := by
  unfold evOf at h
  rw [if_neg (by decide), if_neg (by decide), if_neg (by decide), if_neg (by decide), if_neg (by decide), if_neg (by decide), if_pos (by decide)] at h
  split at h
  · split at h
    · rename_i hp; exact ⟨_, _, _, rfl, hp, (Option.some.inj h).symm⟩
    · cases h
  · cases h
theorem evOf_12 {E : Evl} {u : Nat} {l : List Res} {p : Res × Nat × Bool} (h : evOf E 12 u l = some p) : ∃ a x y, l = [a] ∧ a.pair = [x, y] ∧ p = (y, u, false) := by
  unfold evOf at h
  rw [if_neg (by decide), if_neg (by decide), if_neg (by decide), if_neg (by decide), if_neg (by decide), if_neg (by decide), if_neg (by decide), if_pos (by decide)] at h
  split at h
  · split at h
    · rename_i hp; exact ⟨_, _, _, rfl, hp, (Option.some.inj h).symm⟩
    · cases h
  · cases h
theorem evOf_0 {E : Evl} {u : Nat} {k : Int} {l : List Res} {p : Res × Nat × Bool} (h : evOf E k u l = some p) (h3 : (k == 3) = false) (h5 : (k == 5) = false) (h6 : (k == 6) = false) (h8 : (k == 8) = false)
    (h9 : (k == 9) = false) (h10 : (k == 10) = false) (h11 : (k == 11) = false) (h12 : (k == 12) = false) : p = (zeroR, u, false) := by
  unfold evOf at h
  simp only [h3, h5, h6, h8, h9, h10, h11, h12, Bool.false_eq_true, if_false, Option.some.injEq] at h
  exact h.symm

theorem numR_cells (n : Nat) : (numR n).cells = [.int .i64 n, .sl .any [], .sl .any [], .int .i64 0, .int .i64 0, .int .i64 0, .sl .any [], .sl .any [], .sl .any []] := by
  rw [numR, Res.mk_cells]; simp [natI, ints, zeroT, Tm.kind, Tm.index, Tm.type, Ty.kind, Ty.args, Tm.args]
theorem zeroR_cells : zeroR.cells = [.int .i64 0, .sl .any [], .sl .any [], .int .i64 0, .int .i64 0, .int .i64 0, .sl .any [], .sl .any [], .sl .any []] := numR_cells 0
theorem listR_cells (l : List Nat) : (listR l).cells = [.int .i64 0, .sl .any (natI l), .sl .any [], .int .i64 0, .int .i64 0, .int .i64 0, .sl .any [], .sl .any [], .sl .any []] := by
  rw [listR, Res.mk_cells]; simp [zeroT, Tm.kind, Tm.index, Tm.type, Ty.kind, Ty.args, Tm.args]
theorem pairR_cells (l : List Res) : (pairR l).cells = [.int .i64 0, .sl .any [], .sl .any (l.map Res.cells), .int .i64 0, .int .i64 0, .int .i64 0, .sl .any [], .sl .any [], .sl .any []] := by
  rw [pairR, Res.mk_cells]; simp [natI, ints, zeroT, Tm.kind, Tm.index, Tm.type, Ty.kind, Ty.args, Tm.args]
theorem cloR_cells (b : Tm) (e : List Res) : (cloR b e).cells = [.int .i64 0, .sl .any [], .sl .any [], .int .i64 b.kind, .int .i64 b.index, .int .i64 b.type.kind, .sl .any (b.type.args.map Ty.cells), .sl .any (b.args.map Tm.cells), .sl .any (e.map Res.cells)] := by
  rw [cloR, Res.mk_cells]; simp [natI, ints]

theorem natI_eq (l : List Nat) : natI l = l.map fun (n : Nat) => [V.int .i64 (n : Int)] := by simp [natI, ints, List.map_map, Function.comp_def]
theorem natI_len (l : List Nat) : (natI l).length = l.length := by simp [natI_eq]
theorem natI_get {l : List Nat} {j : Nat} (h : j < l.length) : (natI l)[j]? = some [V.int .i64 (l.getD j 0 : Nat)] := by
  rw [natI_eq, List.getElem?_map, List.getD_eq_getElem?_getD, List.getElem?_eq_getElem h]; rfl
theorem natI_all (l : List Nat) : (natI l).all (fun e => e.length == 1) = true := by simp [natI_eq]
theorem natI_take (l : List Nat) : List.take l.length (natI l) = natI l := List.take_of_length_le (by rw [natI_len]; exact Nat.le_refl _)
theorem natI_drop (l : List Nat) (k : Nat) : List.drop k (natI l) = natI (l.drop k) := by simp [natI_eq]
theorem natI_cons (a : Nat) (l : List Nat) : natI (a :: l) = [V.int .i64 (a : Int)] :: natI l := by simp [natI_eq]
theorem natI_one (l : List Nat) : (natI l).flatten.all oneV = true := by
  rw [natI_eq, List.all_eq_true]; intro v hv
  obtain ⟨c, hc, hv⟩ := List.mem_flatten.1 hv
  obtain ⟨x, _, rfl⟩ := List.mem_map.1 hc
  simp at hv; subst hv; rfl
theorem natI_weak (l : List Nat) : weakLL (natI l) = natI l := by rw [natI, weakLL_ints]
theorem natI_in {S : Id → Prop} (l : List Nat) : InLL S (natI l) := by rw [natI]; exact InLL_ints _
attribute [go_sem] natI_len natI_all natI_take natI_drop natI_one natI_weak natI_in
end GoAbs

namespace GoAbs
open Go

theorem HasTy.up_id {Q : Ty → Prop} {b : Int} {g : List Ty} {t : Tm} {s : Ty} (h : HasTy Q g t s) : g.length + tmSz t ≤ 100000 → t.up b (g.length : Int) = t := by
  induction h with
  | @var g i t hi hg =>
    intro _
    have e : decide ((i : Int) ≥ (g.length : Int)) = false := by simp; omega
    rw [tmVar, Tm.up, Tm.upL]
    simp only [beq_self_eq_true, Bool.true_and, e, Bool.false_eq_true, if_false]
  | @lam g a c t hG _ ih =>
    intro hb
    rw [tmSz_T1] at hb
    have e1 : addW (g.length : Int) (tmBelow 2) = ((g ++ [a]).length : Int) := by
      have : tmBelow 2 = 1 := rfl
      rw [this, addW_eq (by omega) (by omega) (by omega) (by omega)]; simp
    have := ih (by simp; omega)
    rw [tmT, Tm.up, Tm.upL_map, e1]
    simp only [List.map_cons, List.map_nil, this]; rfl
  | @n0 g k ty s hN =>
    intro _
    have hk : (k == 1) = false := by cases hN <;> rfl
    rw [tmT, Tm.up, Tm.upL_map, hk]; rfl
  | @n1 g k ty s a x hN _ ih =>
    intro hb
    have hk : (k == 1) = false := by cases hN <;> rfl
    have hk2 : tmBelow k = 0 := by cases hN <;> rfl
    rw [tmSz_T1] at hb
    rw [tmT, Tm.up, Tm.upL_map, hk, hk2, addW_zero (by omega) (by omega)]
    simp only [List.map_cons, List.map_nil, ih (by omega)]; rfl
  | @n2 g k ty s a b x y hN _ _ ih1 ih2 =>
    intro hb
    have hk : (k == 1) = false := by cases hN <;> rfl
    have hk2 : tmBelow k = 0 := by cases hN <;> rfl
    have z : tmSz (tmT k ty [x, y]) = tmSz x + tmSz y + 1 := by simp [tmT, tmSz, tmSzL]
    rw [tmT, Tm.up, Tm.upL_map, hk, hk2, addW_zero (by omega) (by omega)]
    simp only [List.map_cons, List.map_nil, ih1 (by omega), ih2 (by omega)]; rfl
  | @n3 g k ty s a b c x y z hN _ _ _ ih1 ih2 ih3 =>
    intro hb
    have hk : (k == 1) = false := by cases hN <;> rfl
    have hk2 : tmBelow k = 0 := by cases hN <;> rfl
    rw [tmSz_T3] at hb
    rw [tmT, Tm.up, Tm.upL_map, hk, hk2, addW_zero (by omega) (by omega)]
    simp only [List.map_cons, List.map_nil, ih1 (by omega), ih2 (by omega), ih3 (by omega)]; rfl

theorem Val.v0 {e : List Res} {x r : Res} (h : Val (tmVar 0) (e ++ [x]) r) : r = x := by
  have := (Val.var (i := 0) h).2
  simpa using this.symm
theorem Val.v1 {e : List Res} {x y r : Res} (h : Val (tmVar 1) (e ++ [x] ++ [y]) r) : r = x := by
  have := (Val.var (i := 1) h).2
  have e1 : (e ++ [x] ++ [y]).length - 1 - 1 = e.length := by simp
  rw [e1, List.getElem?_append_left (by simp), List.getElem?_append_right (by omega), Nat.sub_self] at this
  simpa using this.symm
theorem Val.one {B a : Tm} {e : List Res} {r : Res} (h : Val (tm0 3 [lamN B, a]) e r) : ∃ x, Val a e x ∧ Val B (e ++ [x]) r := by
  obtain ⟨g, x, hg, hx, h2⟩ := Val.app (ty := .mk 0 []) h
  have := Val.lam hg
  subst this
  exact ⟨x, hx, h2⟩
theorem Val.two {B a b : Tm} {e : List Res} {r : Res} (h : Val (tm0 3 [tm0 3 [lamN (lamN B), a], b]) e r) : ∃ x y, Val a e x ∧ Val b e y ∧ Val B (e ++ [x] ++ [y]) r := by
  obtain ⟨f, y, hf, hy, h1⟩ := Val.app (ty := .mk 0 []) h
  obtain ⟨x, hx, h2⟩ := Val.one hf
  have := Val.lam h2
  subst this
  exact ⟨x, y, hx, hy, h1⟩
theorem recV_step {B : Tm} {e : List Res} {n k : Nat} {r r' : Res} {ty : Ty} (h : RecV (cloR (tmT 2 ty [B]) e) (n + 1) k r r') :
    ∃ r1, Val B (e ++ [numR k] ++ [r]) r1 ∧ RecV (cloR (tmT 2 ty [B]) e) n (k + 1) r1 r' := by
  obtain ⟨f, r1, h1, h2, h3⟩ := h.succ
  have := Val.lam h1
  subst this
  exact ⟨r1, h2, h3⟩
theorem recV_pred {e : List Res} : ∀ (n k : Nat) (r r' : Res), RecV (cloR (lamN (tmVar 1)) e) n k r r' → r'.num = if n = 0 then r.num else k + n - 1
  | 0, k, r, r', h => by rw [h.zero]; rfl
  | n + 1, k, r, r', h => by
    obtain ⟨r1, h1, h2⟩ := recV_step h
    have := h1.v1
    subst this
    rw [recV_pred n (k + 1) _ r' h2]
    by_cases hn : n = 0
    · subst hn; simp [numR, Res.num]
    · rw [if_neg hn, if_neg (by omega)]; omega
theorem val_pred {a : Tm} {e : List Res} {r : Res} (h : Val (tm0 3 [predT, a]) e r) : ∃ x, Val a e x ∧ r.num = x.num - 1 := by
  obtain ⟨x, hx, h1⟩ := Val.one h
  obtain ⟨z, s, n, hz, hs, hn, h2⟩ := Val.recr (ty := tNat) h1
  have e1 := Val.zero (ty := .mk 0 []) hz
  have e2 := Val.lam hs
  have e3 := hn.v0
  subst e1 e2 e3
  have := recV_pred _ _ _ _ h2
  refine ⟨n, hx, ?_⟩
  rw [this]
  by_cases hn : n.num = 0
  · rw [if_pos hn, hn]; rfl
  · rw [if_neg hn]; omega
theorem recV_sub {e : List Res} : ∀ (n k : Nat) (r r' : Res), RecV (cloR (lamN (tm0 3 [predT, tmVar 0])) e) n k r r' → r'.num = r.num - n
  | 0, k, r, r', h => by rw [h.zero]; rfl
  | n + 1, k, r, r', h => by
    obtain ⟨r1, h1, h2⟩ := recV_step h
    obtain ⟨x, hx, h3⟩ := val_pred h1
    have := hx.v0
    subst this
    rw [recV_sub n (k + 1) r1 r' h2, h3]; omega
theorem val_sub {a b : Tm} {e : List Res} {r : Res} (h : Val (tm0 3 [tm0 3 [subT, a], b]) e r) : ∃ x y, Val a e x ∧ Val b e y ∧ r.num = x.num - y.num := by
  obtain ⟨x, y, hx, hy, h1⟩ := Val.two h
  obtain ⟨z, s, n, hz, hs, hn, h2⟩ := Val.recr (ty := tNat) h1
  have e1 := hz.v1
  have e2 := Val.lam hs
  have e3 := hn.v0
  subst e1 e2 e3
  exact ⟨z, n, hx, hy, recV_sub _ _ _ _ h2⟩
theorem recV_plus {e : List Res} : ∀ (n k : Nat) (r r' : Res), RecV (cloR (lamN (tm0 5 [tmVar 0])) e) n k r r' → r'.num = r.num + n
  | 0, k, r, r', h => by rw [h.zero]; rfl
  | n + 1, k, r, r', h => by
    obtain ⟨r1, h1, h2⟩ := recV_step h
    obtain ⟨x, hx, rfl⟩ := Val.succ (ty := .mk 0 []) h1
    have := hx.v0
    subst this
    rw [recV_plus n (k + 1) _ r' h2]; simp [numR, Res.num]; omega
theorem val_plus {a b : Tm} {e : List Res} {r : Res} (h : Val (tm0 3 [tm0 3 [plusT, a], b]) e r) : ∃ x y, Val a e x ∧ Val b e y ∧ r.num = x.num + y.num := by
  obtain ⟨x, y, hx, hy, h1⟩ := Val.two h
  obtain ⟨z, s, n, hz, hs, hn, h2⟩ := Val.recr (ty := tNat) h1
  have e1 := hz.v1
  have e2 := Val.lam hs
  have e3 := hn.v0
  subst e1 e2 e3
  exact ⟨z, n, hx, hy, recV_plus _ _ _ _ h2⟩
theorem val_dist {a b : Tm} {e : List Res} {r : Res} (h : Val (tm0 3 [tm0 3 [distT, a], b]) e r) : ∃ x y, Val a e x ∧ Val b e y ∧ r.num = (x.num - y.num) + (y.num - x.num) := by
  obtain ⟨x, y, hx, hy, h1⟩ := Val.two h
  obtain ⟨p, q, hp, hq, h2⟩ := val_plus h1
  obtain ⟨p1, p2, hp1, hp2, h3⟩ := val_sub hp
  obtain ⟨q1, q2, hq1, hq2, h4⟩ := val_sub hq
  have e1 := hp1.v1
  have e2 := hp2.v0
  have e3 := hq1.v0
  have e4 := hq2.v1
  subst e1 e2 e3 e4
  exact ⟨_, _, hx, hy, by rw [h2, h3, h4]⟩
theorem recV_last {B : Tm} {ty : Ty} {e : List Res} : ∀ (n k : Nat) (r r' : Res), RecV (cloR (tmT 2 ty [B]) e) (n + 1) k r r' → ∃ x y, Val B (e ++ [x] ++ [y]) r'
  | 0, k, r, r', h => by
    obtain ⟨r1, h1, h2⟩ := recV_step h
    rw [h2.zero]; exact ⟨_, _, h1⟩
  | n + 1, k, r, r', h => by
    obtain ⟨r1, h1, h2⟩ := recV_step h
    exact recV_last n (k + 1) r1 r' h2
theorem val_choose {ty : Ty} {c a b : Tm} {e : List Res} {r : Res} (h : Val (chooseT ty c a b) e r) : ∃ vc, Val c e vc ∧ (vc.num = 0 → Val b e r) ∧ (vc.num ≠ 0 → ∃ x y, Val a (e ++ [x] ++ [y]) r) := by
  obtain ⟨z, s, n, hz, hs, hn, h2⟩ := Val.recr h
  have e2 := Val.lam hs
  subst e2
  refine ⟨n, hn, fun h0 => ?_, fun h0 => ?_⟩
  · rw [h0] at h2; rw [h2.zero]; exact hz
  · obtain ⟨m, hm⟩ : ∃ m, n.num = m + 1 := ⟨n.num - 1, by omega⟩
    rw [hm] at h2
    exact recV_last m 0 z r h2
theorem val_z {e : List Res} {r : Res} (h : Val (tm0 4 []) e r) : r.num = 0 := by rw [Val.zero (ty := .mk 0 []) h]; rfl
theorem val_1 {e : List Res} {r : Res} (h : Val oneT e r) : r.num = 1 := by
  obtain ⟨x, hx, rfl⟩ := Val.succ (ty := .mk 0 []) h
  have := val_z hx
  simp only [numR, Res.num] at *
  omega

/-- The truth of a formula without quantifiers, by the values of its terms; those of closed terms, wherever they stand. -/
inductive TrV (P : List Res → Prop) : Fm → Bool → Prop
  | eq {f : Fm} {x y : Tm} {e1 e2 : List Res} {vx vy : Res} (hf : f = fmEq x y) : P e1 → P e2 → Val x e1 vx → Val y e2 vy → TrV P f (vx.num == vy.num)
  | and0 {f a b : Fm} (hf : f = fmTwo 2 a b) : TrV P a false → TrV P f false
  | and1 {f a b : Fm} {r : Bool} (hf : f = fmTwo 2 a b) : TrV P a true → TrV P b r → TrV P f r
  | imp0 {f a b : Fm} (hf : f = fmTwo 3 a b) : TrV P a false → TrV P f true
  | imp1 {f a b : Fm} {r : Bool} (hf : f = fmTwo 3 a b) : TrV P a true → TrV P b r → TrV P f r
abbrev Tr0 := TrV (fun e => e = [])
abbrev TrA := TrV (fun _ => True)
theorem fmTwo_inj {k k' : Int} {a b a' b' : Fm} (h : fmTwo k a b = fmTwo k' a' b') : k = k' ∧ a = a' ∧ b = b' := by
  simp only [fmTwo, Fm.mk.injEq, List.cons.injEq, and_true, true_and] at h; exact h
theorem fmEq_inj {a b a' b' : Tm} (h : fmEq a b = fmEq a' b') : a = a' ∧ b = b' := by
  simp only [fmEq, Fm.mk.injEq, List.cons.injEq, and_true, true_and] at h; exact h
theorem fmEq_two {k : Int} {a b : Tm} {c d : Fm} (h : fmEq a b = fmTwo k c d) : False := by simp [fmEq, fmTwo] at h
theorem Tr0.agree {f : Fm} {r r' : Bool} (h : Tr0 f r) : TrA f r' → r = r' := by
  induction h generalizing r' with
  | @eq f x y e1 e2 vx vy hf p1 p2 hx hy =>
    intro h'
    subst p1 p2 hf
    cases h' with
    | eq hf' _ _ hx' hy' =>
      obtain ⟨rfl, rfl⟩ := fmEq_inj hf'
      rw [hx.same_num hx', hy.same_num hy']
    | and0 hf' => exact (fmEq_two hf').elim
    | and1 hf' => exact (fmEq_two hf').elim
    | imp0 hf' => exact (fmEq_two hf').elim
    | imp1 hf' => exact (fmEq_two hf').elim
  | @and0 f a b hf _ ih =>
    intro h'
    subst hf
    cases h' with
    | eq hf' => exact (fmEq_two hf'.symm).elim
    | and0 hf' _ => rfl
    | and1 hf' h1 _ => obtain ⟨_, rfl, rfl⟩ := fmTwo_inj hf'; exact absurd (ih h1) (by simp)
    | imp0 hf' => exact absurd (fmTwo_inj hf').1 (by decide)
    | imp1 hf' => exact absurd (fmTwo_inj hf').1 (by decide)
  | @and1 f a b r hf _ _ ih1 ih2 =>
    intro h'
    subst hf
    cases h' with
    | eq hf' => exact (fmEq_two hf'.symm).elim
    | and0 hf' h1 => obtain ⟨_, rfl, rfl⟩ := fmTwo_inj hf'; exact absurd (ih1 h1) (by simp)
    | and1 hf' _ h2 => obtain ⟨_, rfl, rfl⟩ := fmTwo_inj hf'; exact ih2 h2
    | imp0 hf' => exact absurd (fmTwo_inj hf').1 (by decide)
    | imp1 hf' => exact absurd (fmTwo_inj hf').1 (by decide)
  | @imp0 f a b hf _ ih =>
    intro h'
    subst hf
    cases h' with
    | eq hf' => exact (fmEq_two hf'.symm).elim
    | and0 hf' => exact absurd (fmTwo_inj hf').1 (by decide)
    | and1 hf' => exact absurd (fmTwo_inj hf').1 (by decide)
    | imp0 hf' _ => rfl
    | imp1 hf' h1 _ => obtain ⟨_, rfl, rfl⟩ := fmTwo_inj hf'; exact absurd (ih h1) (by simp)
  | @imp1 f a b r hf _ _ ih1 ih2 =>
    intro h'
    subst hf
    cases h' with
    | eq hf' => exact (fmEq_two hf'.symm).elim
    | and0 hf' => exact absurd (fmTwo_inj hf').1 (by decide)
    | and1 hf' => exact absurd (fmTwo_inj hf').1 (by decide)
    | imp0 hf' h1 => obtain ⟨_, rfl, rfl⟩ := fmTwo_inj hf'; exact absurd (ih1 h1) (by simp)
    | imp1 hf' _ h2 => obtain ⟨_, rfl, rfl⟩ := fmTwo_inj hf'; exact ih2 h2

/-- The value of the characteristic term. -/
theorem tr_val {f : Fm} {g : List Ty} (hT : FmTy TyG g f) : g = [] → f.mfree = true → FmG true f → fmSz f ≤ 4096 → f.least 268435456 = true → f.tr.2 = 0 →
    ∀ e v, Val f.tr.1 e v → ∃ r, TrA f r ∧ v.num = if r then 1 else 0 := by
  induction hT with
  | @eq g x y hx hy =>
    intro _ _ _ _ _ he e v hv
    rw [tr_eqn] at he hv
    cases hp : cutT (eqT x y) with
    | mk t e' =>
    rw [hp] at he hv; simp only at he hv; subst he
    obtain ⟨rfl, _⟩ := cutT_ok hp
    obtain ⟨vc, hc, h0, h1⟩ := val_choose hv
    obtain ⟨vx, vy, hvx, hvy, hn⟩ := val_dist hc
    refine ⟨_, .eq rfl trivial trivial hvx hvy, ?_⟩
    by_cases hz : vc.num = 0
    · rw [val_1 (h0 hz), if_pos (by simp; omega)]
    · obtain ⟨a, b, h2⟩ := h1 hz
      rw [val_z h2, if_neg (by simp; omega)]
  | @two g k a b hk ta tb ih1 ih2 =>
    intro hg hm hG hz hl he e v hv
    subst hg
    rw [fmSz_two] at hz
    rw [tr_two] at he hv
    obtain ⟨m1, m2⟩ := mfree_two' hm
    obtain ⟨l1, l2⟩ := least_two' hl
    obtain ⟨_, g1, g2⟩ := hG.inv_two
    cases hp : twoT k a.tr b.tr with
    | mk t e' =>
    rw [hp] at he hv; simp only at he hv; subst he
    obtain ⟨e1, e2, rfl, e4⟩ := twoT_ok hp
    have b0 := tr_G g2 m2 (by omega) 268435456 (by omega) (by omega) l2 e2
    have tyb := tr_ty tb m2 (by simp) g2 (by omega) l2 e2
    have hu : b.tr.1.up 2 0 = b.tr.1 := by have := tyb.up_id (b := 2) (by simp; omega); simpa using this
    rw [hu] at hv
    obtain ⟨vc, hc, h0, h1⟩ := val_choose hv
    obtain ⟨ra, hra, hna⟩ := ih1 rfl m1 g1 (by omega) l1 e1 e vc hc
    cases ra with
    | false =>
      have h2 := h0 (by rw [hna]; rfl)
      rcases hk with rfl | rfl
      · exact ⟨false, .and0 rfl hra, val_z h2⟩
      · exact ⟨true, .imp0 rfl hra, val_1 h2⟩
    | true =>
      obtain ⟨p, q, h2⟩ := h1 (by rw [hna]; simp)
      obtain ⟨rb, hrb, hnb⟩ := ih2 rfl m2 g2 (by omega) l2 e2 _ v h2
      rcases hk with rfl | rfl
      · exact ⟨rb, .and1 rfl hra hrb, hnb⟩
      · exact ⟨rb, .imp1 rfl hra hrb, hnb⟩
  | q hk _ _ => intro _ hm; rw [mfree_q' hk] at hm; cases hm

/-- The value of a closed number, what is left of the work, and the error. -/
def evN (t : Tm) (w : Nat) : Nat × Nat × Int :=
  match ev w (w + 1) 0 t [] with
  | some (r, u, false) => (r.num, w - u, 0)
  | _ => (0, w, 5)
def t9Eq (x y : Tm) (w : Nat) : Bool × Nat × Int :=
  if (evN x w).2.2 != 0 then (false, 0, (evN x w).2.2) else (((evN x w).1 : Int) == (evN y (evN x w).2.1).1, (evN y (evN x w).2.1).2.1, (evN y (evN x w).2.1).2.2)
def t9Two (k : Int) (A B : Nat → Bool × Nat × Int) (w : Nat) : Bool × Nat × Int :=
  if (A w).2.2 != 0 then (false, 0, (A w).2.2) else if (A w).1 then B (A w).2.1 else (k == 3, (A w).2.1, 0)
def t9Case (k : Int) (ts : List Tm) : List (Nat → Bool × Nat × Int) → Nat → Bool × Nat × Int
  | [A, B] => t9Two k A B
  | _ => t9Eq (ts.getD 0 zeroT) (ts.getD 1 zeroT)
mutual
def Fm.t9 : Fm → Nat → Bool × Nat × Int
  | .mk k _ ts l => t9Case k ts (Fm.t9L l)
def Fm.t9L : List Fm → List (Nat → Bool × Nat × Int)
  | [] => []
  | f :: l => f.t9 :: Fm.t9L l
end
theorem t9_eqn {x y : Tm} {w : Nat} : (fmEq x y).t9 w = t9Eq x y w := by rw [fmEq, Fm.t9, Fm.t9L]; rfl
theorem t9_two {k : Int} {a b : Fm} {w : Nat} : (fmTwo k a b).t9 w = t9Two k a.t9 b.t9 w := by rw [fmTwo, Fm.t9, Fm.t9L, Fm.t9L, Fm.t9L]; rfl
theorem evN_err {t : Tm} {w : Nat} : (evN t w).2.2 = 0 ∨ (evN t w).2.2 = 5 := by unfold evN; split <;> simp
theorem evN_left {t : Tm} {w : Nat} : (evN t w).2.1 ≤ w := by unfold evN; split <;> simp
theorem evN_val {t : Tm} {w : Nat} (h : (evN t w).2.2 = 0) : ∃ r, Val t [] r ∧ (evN t w).1 = r.num := by
  unfold evN at h ⊢
  split at h
  · rename_i r u hr
    exact ⟨r, ev_Val hr, rfl⟩
  · simp at h
theorem t9_err {u : Bool} {f : Fm} (hf : FmG u f) : f.mfree = true → ∀ w, (f.t9 w).2.2 = 0 ∨ (f.t9 w).2.2 = 5 := by
  induction hf with
  | @eq x y _ _ =>
    intro _ w
    rw [t9_eqn, t9Eq]
    split
    · exact evN_err
    · exact evN_err
  | @two k a b _ _ _ h1 h2 =>
    intro hm w
    obtain ⟨m1, m2⟩ := mfree_two' hm
    rw [t9_two, t9Two]
    split
    · exact h1 m1 w
    split
    · exact h2 m2 _
    · exact .inl rfl
  | q hk _ _ _ => intro hm; rw [mfree_q' (FmG.qk hk)] at hm; cases hm
theorem t9_left {u : Bool} {f : Fm} (hf : FmG u f) : f.mfree = true → ∀ w, (f.t9 w).2.1 ≤ w := by
  induction hf with
  | @eq x y _ _ =>
    intro _ w
    rw [t9_eqn, t9Eq]
    split
    · exact Nat.zero_le _
    · exact Nat.le_trans evN_left evN_left
  | @two k a b _ _ _ h1 h2 =>
    intro hm w
    obtain ⟨m1, m2⟩ := mfree_two' hm
    rw [t9_two, t9Two]
    split
    · exact Nat.zero_le _
    split
    · exact Nat.le_trans (h2 m2 _) (h1 m1 _)
    · exact h1 m1 _
  | q hk _ _ _ => intro hm; rw [mfree_q' (FmG.qk hk)] at hm; cases hm
theorem t9_val {u : Bool} {f : Fm} (hf : FmG u f) : f.mfree = true → ∀ w, (f.t9 w).2.2 = 0 → Tr0 f (f.t9 w).1 := by
  induction hf with
  | @eq x y _ _ =>
    intro _ w he
    rw [t9_eqn, t9Eq] at he ⊢
    cases hx : ((evN x w).2.2 != 0) with
    | true => rw [hx] at he; simp at he; simp [he] at hx
    | false =>
      rw [hx] at he
      simp only [Bool.false_eq_true, if_false] at he ⊢
      obtain ⟨r1, v1, e1⟩ := evN_val (t := x) (w := w) (by simpa using hx)
      obtain ⟨r2, v2, e2⟩ := evN_val he
      have := TrV.eq (P := fun e => e = []) (f := fmEq x y) rfl rfl rfl v1 v2
      rw [← e1, ← e2] at this
      have e3 : (((evN x w).1 : Int) == ((evN y (evN x w).2.1).1 : Int)) = ((evN x w).1 == (evN y (evN x w).2.1).1) := by
        rw [Bool.eq_iff_iff, beq_iff_eq, beq_iff_eq]; omega
      rw [e3]; exact this
  | @two k a b hk _ _ h1 h2 =>
    intro hm w he
    obtain ⟨m1, m2⟩ := mfree_two' hm
    rw [t9_two, t9Two] at he ⊢
    cases hx : ((a.t9 w).2.2 != 0) with
    | true => rw [hx] at he; simp at he; simp [he] at hx
    | false =>
      rw [hx] at he
      simp only [Bool.false_eq_true, if_false] at he ⊢
      have ha := h1 m1 w (by simpa using hx)
      cases hr : (a.t9 w).1 with
      | true =>
        rw [hr] at he ha
        simp only [if_true] at he ⊢
        have hb := h2 m2 _ he
        rcases hk with rfl | rfl
        · exact .and1 rfl ha hb
        · exact .imp1 rfl ha hb
      | false =>
        rw [hr] at ha
        simp only [Bool.false_eq_true, if_false]
        rcases hk with rfl | rfl
        · exact .and0 rfl ha
        · exact .imp0 rfl ha
  | q hk _ _ _ => intro hm; rw [mfree_q' (FmG.qk hk)] at hm; cases hm

theorem law_trDecides {f : Fm} (hT : FmTy TyG [] f) (hG : FmG true f) (hm : f.mfree = true) (hz : fmSz f ≤ 4096) (hl : f.least 268435456 = true) (he : f.tr.2 = 0) {w w' u : Nat} {r : Res}
    (h9 : (f.t9 w).2.2 = 0) (hv : ev w' (w' + 1) 0 f.tr.1 [] = some (r, u, false)) : r.num = if (f.t9 w).1 then 1 else 0 := by
  obtain ⟨b, h1, h2⟩ := tr_val hT rfl hm hG hz hl he [] r (ev_Val hv)
  rw [(t9_val hG hm w h9).agree h1]; exact h2
/-- The characteristic term of the negation. -/
theorem law_trNot {f : Fm} (hT : FmTy TyG [] f) (hG : FmG true f) (hm : f.mfree = true) (hz : fmSz f ≤ 4000) (hl : f.least 268435456 = true) (he : f.tr.2 = 0) {w u u' : Nat} {r r' : Res}
    (he2 : (fmTwo 3 f (fmEq (tm0 4 []) oneT)).tr.2 = 0)
    (hv : ev w (w + 1) 0 f.tr.1 [] = some (r, u, false)) (hv' : ev w (w + 1) 0 (fmTwo 3 f (fmEq (tm0 4 []) oneT)).tr.1 [] = some (r', u', false)) : r.num + r'.num = 1 := by
  obtain ⟨b, h1, h2⟩ := tr_val hT rfl hm hG (by omega) hl he [] r (ev_Val hv)
  have v' := ev_Val hv'
  rw [tr_two] at he2 v'
  cases hp : twoT 3 f.tr (fmEq (tm0 4 []) oneT).tr with
  | mk t e' =>
  rw [hp] at he2 v'; simp only at he2 v'; subst he2
  obtain ⟨e1, e2, rfl, e4⟩ := twoT_ok hp
  have tz : FmTy TyG [] (fmEq (tm0 4 []) oneT) := .eq (.num 0) oneT_ty
  have gz : FmG true (fmEq (tm0 4 []) oneT) := .eq (.t0 ar4 rfl) oneT_G
  have zz : fmSz (fmEq (tm0 4 []) oneT) ≤ 10 := by decide
  have lz : (fmEq (tm0 4 []) oneT).least 268435456 = true := by decide
  have b0 := tr_G gz mfree_eqn (by omega) 268435456 (by omega) (by omega) lz e2
  have tyb := tr_ty tz mfree_eqn (by simp) gz (by omega) lz e2
  have hu : (fmEq (tm0 4 []) oneT).tr.1.up 2 0 = (fmEq (tm0 4 []) oneT).tr.1 := by have := tyb.up_id (b := 2) (by simp; omega); simpa using this
  rw [hu] at v'
  obtain ⟨vc, hc, h0, h3⟩ := val_choose v'
  have hcr := hc.det (ev_Val hv)
  subst hcr
  cases b with
  | false =>
    rw [h2, val_1 (h0 (by rw [h2]; rfl))]; rfl
  | true =>
    obtain ⟨p, q, h4⟩ := h3 (by rw [h2]; simp)
    obtain ⟨b', h5, h6⟩ := tr_val tz rfl mfree_eqn gz (by omega) lz e2 _ r' h4
    rw [h2, h6]
    cases h5 with
    | eq hf _ _ hx hy =>
      obtain ⟨rfl, rfl⟩ := fmEq_inj hf
      rw [val_z hx, val_1 hy]; rfl
    | and0 hf => exact (fmEq_two hf).elim
    | and1 hf => exact (fmEq_two hf).elim
    | imp0 hf => exact (fmEq_two hf).elim
    | imp1 hf => exact (fmEq_two hf).elim
end GoAbs

namespace GoAbs
open Go

inductive MkFree : Nat → Fm → Prop
  | eq {n : Nat} {x y : Tm} : MkTm 1 [] tNat x → MkTm 1 [] tNat y → MkFree n (fmEq x y)
  | two {n : Nat} {k : Int} {a b : Fm} (hk : k = 2 ∨ k = 3) : MkFree n a → MkFree n b → MkFree (n + 1) (fmTwo k a b)
/-- What is kept of a closed formula without quantifiers. -/
structure FreeC (f : Fm) : Prop where
  ty : FmTy TyG [] f
  gd : FmG true f
  fr : f.mfree = true
  ls : f.least 268435456 = true
theorem mfree_twoB {k : Int} {a b : Fm} (hk : k = 2 ∨ k = 3) (ha : a.mfree = true) (hb : b.mfree = true) : (fmTwo k a b).mfree = true := by
  rw [fmTwo, Fm.mfree, Fm.mfreeL_cons, Fm.mfreeL_cons, Fm.mfreeL_nil, ha, hb]
  rcases hk with rfl | rfl <;> rfl
theorem FreeC.eq {x y : Tm} (hx : MkTm 1 [] tNat x) (hy : MkTm 1 [] tNat y) : FreeC (fmEq x y) ∧ fmSz (fmEq x y) ≤ 49 := by
  have tx := hx.ty (by simp) ⟨.nat, by rw [tySz_nat]; omega⟩
  have ty := hy.ty (by simp) ⟨.nat, by rw [tySz_nat]; omega⟩
  have n2 := tySz_nat
  have lx := hx.least (M := 1) (m := 268435456) (by omega) (by omega) (by simp) (by omega) (by simp; omega)
  have ly := hy.least (M := 1) (m := 268435456) (by omega) (by omega) (by simp) (by omega) (by simp; omega)
  have zx := (hx.one (by simp)).1
  have zy := (hy.one (by simp)).1
  exact ⟨⟨.eq tx ty, .eq (hx.G (by simp) .nat) (hy.G (by simp) .nat), mfree_eqn, least_eqn (by simpa using lx) (by simpa using ly)⟩, by rw [fmSz_eq]; omega⟩
theorem FreeC.two {k : Int} {a b : Fm} (hk : k = 2 ∨ k = 3) (ha : FreeC a) (hb : FreeC b) : FreeC (fmTwo k a b) :=
  ⟨.two hk ha.ty hb.ty, .two hk ha.gd hb.gd, mfree_twoB hk ha.fr hb.fr, least_two ha.ls hb.ls⟩
theorem MkFree.all {n : Nat} {f : Fm} (h : MkFree n f) : FreeC f ∧ fmSz f + 1 ≤ 50 * 2 ^ n := by
  induction h with
  | @eq n x y hx hy =>
    obtain ⟨h1, h2⟩ := FreeC.eq hx hy
    have := Nat.pow_pos (n := n) (show 0 < 2 by omega)
    exact ⟨h1, by omega⟩
  | @two n k a b hk _ _ h1 h2 =>
    refine ⟨h1.1.two hk h2.1, ?_⟩
    rw [fmSz_two, Nat.pow_succ]
    omega
theorem FreeC.trF {f : Fm} (h : FreeC f) (hz : fmSz f ≤ 4096) : trF f = f.tr := by
  unfold GoAbs.trF
  rw [h.gd.err0 hz, if_neg (by simp), h.fr, if_neg (by simp), h.ls, if_neg (by simp)]
def botF : Fm := fmEq (tm0 4 []) oneT
theorem botF_C : FreeC botF := ⟨.eq (.num 0) oneT_ty, .eq (.t0 ar4 rfl) oneT_G, mfree_eqn, by decide⟩
theorem botF_sz : fmSz botF = 4 := by decide
theorem botF_tr : botF.tr = (eqT (tm0 4 []) oneT, 0) := by
  rw [botF, tr_eqn, cutT_G (eqT_G (.t0 ar4 rfl) oneT_G) (by rw [eqT_sz, tmSz_0, oneT, tmSz_1, tmSz_0]; omega), if_pos (by rw [eqT_sz, tmSz_0, oneT, tmSz_1, tmSz_0]; omega)]
theorem if_zero : ifF tNat (tm0 4 []) (tm0 4 []) (tm0 4 []) = (chooseT tNat (tm0 4 []) (tm0 4 []) (tm0 4 []), 0) := by
  have hG : TmG (tm0 4 []) := .t0 ar4 rfl
  have e0 := hG.err0 (by rw [tmSz_0]; omega)
  have hu : (tm0 4 []).up 2 0 = tm0 4 [] := rfl
  rw [ifF_6 TyG.nat.err e0 e0 e0 (by decide), hu, cutT_G (chooseT_G .nat hG hG hG) (by rw [chooseT_sz, tmSz_0]; omega), if_pos (by rw [chooseT_sz, tmSz_0]; omega)]
/-- The evaluation of a typed closed number gives an answer. -/
theorem ev_some {w : Nat} {t : Tm} (h : HasTy TyG [] t tNat) : ∃ r u o, ev w (w + 1) 0 t [] = some (r, u, o) ∧ u ≤ w := by
  obtain ⟨r, u, o, h1, _, h2, _⟩ := ev_P (Q := TyG) (most := w) (w + 1) 0 t [] [] tNat (by omega) (by omega) h ⟨rfl, by simp⟩
  exact ⟨r, u, o, h1, h2⟩
end GoAbs
