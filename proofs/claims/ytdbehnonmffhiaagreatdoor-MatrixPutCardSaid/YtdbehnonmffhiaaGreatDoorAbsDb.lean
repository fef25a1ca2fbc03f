/-
  The abstract layer: plain laws, further ones.
-/
import Derived.Test.YtdbehnonmffhiaaGreatDoorAbsD
set_option linter.unusedSimpArgs false
set_option linter.unusedVariables false
set_option linter.unusedSectionVars false
namespace GoAbs
open Go

theorem sized_eq {A B : Ty} (h : (sized A B).2 = 0) : sized A B = ((A, B), 0) := by
  unfold sized at h ⊢
  split at h
  · rename_i h'; exact absurd h h'
  · rename_i h'
    rw [if_neg h']
    split at h
    · rename_i h''; exact absurd h h''
    · rename_i h''; rw [if_neg h'']
theorem ch_two_ok {k : Int} {a b : Fm} (h : (fmTwo k a b).ch.2 = 0) : a.ch.2 = 0 ∧ b.ch.2 = 0 ∧ (fmTwo k a b).ch.1 = chCase k (.mk 0 []) [a.ch.1, b.ch.1] := by
  rw [ch_two] at h ⊢
  split at h
  · rename_i h1
    split at h
    · rename_i h2
      rw [if_pos h1, if_pos h2, sized_eq h]
      exact ⟨by simpa using h1, by simpa using h2, rfl⟩
    · rename_i h2; simp at h2; exact absurd h h2
  · rename_i h1; simp at h1; exact absurd h h1
theorem ch_q_ok {k : Int} {s : Ty} {a : Fm} (h : (fmQ k s a).ch.2 = 0) : a.ch.2 = 0 ∧ (fmQ k s a).ch.1 = chCase k s [a.ch.1] := by
  rw [ch_q] at h ⊢
  split at h
  · rename_i h1
    rw [if_pos h1, sized_eq h]
    exact ⟨by simpa using h1, rfl⟩
  · rename_i h1; simp at h1; exact absurd h h1
theorem ch_TyG {f : Fm} (h : FmG false f) (e : f.ch.2 = 0) : TyG f.ch.1.1 ∧ TyG f.ch.1.2 := by
  rcases h.ch with ⟨_, a, b⟩ | h4
  · exact ⟨a, b⟩
  · rw [e] at h4; cases h4
theorem look_ch {f : Fm} (h : FmG false f) (hz : fmSz f ≤ 4096) : f.look = f.ch := by
  have he := h.err_val (by omega)
  rw [if_pos hz] at he
  unfold Fm.look
  rw [he, h.uni]; rfl
theorem mTwo_sz {k : Int} {x y : Fm × Int} (h : (mTwo k x y).2 = 0) : (fmTwo k x.1 y.1).szW ≤ 4096 := by
  unfold mTwo at h
  split at h
  · rename_i h1; rw [h] at h1; simp at h1
  · split at h
    · rename_i h1; rw [h] at h1; simp at h1
    · split at h
      · cases h
      · rename_i h3; simpa using h3
theorem mWith_ok {r : Fm → Tm → Tm → Fm × Int} {b : Fm} {x w c : Tm} (h : (mWith r b x w c).2 = 0) : x.szW ≤ 4096 ∧ subW (b.grown x) b.qs ≤ 4096 ∧ mWith r b x w c = r (b.sp x) w c := by
  unfold mWith at h ⊢
  split at h
  · cases h
  · rename_i h1
    rw [if_neg h1]
    rw [Bool.or_eq_true, not_or] at h1
    exact ⟨by simpa using h1.1, by simpa using h1.2, rfl⟩
theorem mOf_size {n : Nat} {f : Fm} {w c : Tm} (h : (mOf (n + 1) f w c).2 = 0) : w.szW ≤ 4096 ∧ c.szW ≤ 4096 := by
  rw [mOf] at h
  split at h
  · cases h
  · rename_i h1
    rw [Bool.or_eq_true, not_or] at h1
    exact ⟨by simpa using h1.1, by simpa using h1.2⟩
theorem mOf_else {n : Nat} {f : Fm} {w c : Tm} (h : (mOf (n + 1) f w c).2 = 0) : mOf (n + 1) f w c = if f.kind == 2 then mAnd (mOf n) (f.args.getD 0 zeroF) (f.args.getD 1 zeroF) w c
    else if f.kind == 3 then mImp (mOf n) (f.args.getD 0 zeroF) (f.args.getD 1 zeroF) w c
    else if f.kind == 4 then mAll (mOf n) f.type (f.args.getD 0 zeroF) w c
    else if f.kind == 5 then mEx (mOf n) f.type (f.args.getD 0 zeroF) w c else (f, 0) := by
  rw [mOf] at h ⊢
  split at h
  · cases h
  · rename_i h1; rw [if_neg h1]

theorem fleast_mono {M M' : Int} (hM : M ≤ M') {n : Nat} {f : Fm} (h : Shp n f) : f.least M = true → f.least M' = true := by
  induction h with
  | eq _ _ => intro hl; obtain ⟨l1, l2⟩ := fleast_eq.1 hl; exact fleast_eq.2 ⟨least_mono hM _ l1, least_mono hM _ l2⟩
  | two _ _ _ h1 h2 => intro hl; obtain ⟨l1, l2⟩ := fleast_parts2 hl; exact fleast_two (h1 l1) (h2 l2)
  | q _ _ _ h1 => intro hl; exact least_q (h1 (fleast_part hl))
theorem fdp_mapx {g : Fm → Fm} : ∀ l : List Fm, (∀ x ∈ l, fdp (g x) = fdp x) → fdpL (l.map g) = fdpL l
  | [], _ => rfl
  | x :: l, h => by rw [List.map_cons, fdpL, fdpL, h x (by simp), fdp_mapx l (fun y hy => h y (by simp [hy]))]
theorem fdp_evx {F : Tm → Int → Tm} : ∀ (f : Fm) (b : Int), fdp (f.ev F b) = fdp f := by
  intro f
  induction f using Fm.ind with | h f ih => ?_
  intro b
  rw [Fm.ev_eq]
  cases f with | mk k t l a =>
  rw [fdp, fdp]
  simp only [Fm.args] at ih ⊢
  rw [fdp_mapx a (fun x hx => ih x hx _)]

/-- What is kept of a term on the way. -/
structure TmOk (L : Int) (g : List Ty) (t : Tm) (s : Ty) : Prop where
  gd : TmG t
  sz : tmSz t ≤ 20000
  l : t.least L = true
  ty : HasTy TyF g t s
theorem TmOk.cut {L : Int} {g : List Ty} {t : Tm} {s : Ty} (h : TmOk L g t s) (hz : t.szW ≤ 4096) : tmSz t ≤ 4096 := by
  have := t.szW_nodes _ (h.gd.nodes_val (by have := h.sz; omega)); omega
theorem chPart_G {k : Int} (hk : k = 11 ∨ k = 12) {a b : Ty} {t : Tm} (h : TmG t) : TmG (chPart k a b t) := by
  unfold chPart
  repeat' split
  · exact .t0 ar13 rfl
  · exact h
  · rcases hk with rfl | rfl
    · exact .t1 ar11 rfl h
    · exact .t1 ar12 rfl h
theorem chPart_sz {k : Int} {a b : Ty} {t : Tm} : tmSz (chPart k a b t) ≤ tmSz t + 1 := by
  unfold chPart
  repeat' split
  · rw [tmSz_0]; omega
  · omega
  · rw [tmSz_1]; omega
theorem chPart_least {k : Int} {a b : Ty} {t : Tm} {M : Int} (hM : 0 ≤ M) (h : t.least M = true) : (chPart k a b t).least M = true := by
  unfold chPart
  repeat' split
  · exact least_tm0 hM (by simp)
  · exact h
  · exact least_tm0 hM (by simp [h])
theorem TmOk.part {L : Int} (hL : 0 ≤ L) {g : List Ty} {t : Tm} {a b : Ty} (h : TmOk L g t (chPair a b)) (hz : tmSz t ≤ 19000) (ha : TyF a) (hb : TyF b) : TmOk L g (chPart 11 a b t) a ∧ TmOk L g (chPart 12 b a t) b := by
  obtain ⟨h1, h2⟩ := chPart_ty hb h.ty ha
  exact ⟨⟨chPart_G (.inl rfl) h.gd, by have := chPart_sz (k := 11) (a := a) (b := b) (t := t); omega, chPart_least hL h.l, h1⟩,
    ⟨chPart_G (.inr rfl) h.gd, by have := chPart_sz (k := 12) (a := b) (b := a) (t := t); omega, chPart_least hL h.l, h2⟩⟩
theorem TmOk.call {L : Int} (hL : 0 ≤ L) {g : List Ty} {f t : Tm} {a b : Ty} (hf : TmOk L g f (chFun a b)) (h : TmOk L g t a) (hz : tmSz f + tmSz t ≤ 19000) (hb : TyF b) : TmOk L g (chCall a b f t) b :=
  ⟨chCall_G hf.gd h.gd, by have := chCall_sz (a := a) (b := b) (f := f) (t := t); omega, chCall_least hL hf.l h.l, chCall_ty hb hf.ty h.ty⟩

structure Good (g : List Ty) (m : Fm) : Prop where
  ty : FmTy TyF g m
  gd : FmG false m
  sz : fmSz m ≤ 4096
  fr : m.mfree = true

theorem mfree_eq {x y : Tm} : (fmEq x y).mfree = true := by rw [fmEq, Fm.mfree, Fm.mfreeL_nil]; rfl
theorem mfree_two {k : Int} (hk : k = 2 ∨ k = 3) {a b : Fm} (h1 : a.mfree = true) (h2 : b.mfree = true) : (fmTwo k a b).mfree = true := by
  rw [fmTwo, Fm.mfree, Fm.mfreeL_cons, Fm.mfreeL_cons, Fm.mfreeL_nil, h1, h2]
  rcases hk with rfl | rfl <;> rfl

theorem two_good {k : Int} (hk : k = 2 ∨ k = 3) {g : List Ty} {x y : Fm × Int} (h : (mTwo k x y).2 = 0) (hx : x.2 = 0 → Good g x.1) (hy : y.2 = 0 → Good g y.1) : Good g (mTwo k x y).1 := by
  obtain ⟨e1, e2, e3⟩ := mTwo_ok h
  have hs := mTwo_sz h
  have gx := hx e1
  have gy := hy e2
  rw [e3]
  have gg : FmG false (fmTwo k x.1 y.1) := .two hk gx.gd gy.gd
  have z1 := gx.sz
  have z2 := gy.sz
  refine ⟨.two hk gx.ty gy.ty, gg, ?_, mfree_two hk gx.fr gy.fr⟩
  have := Fm.szW_nodes _ _ (gg.nodes_val (by rw [fmSz_two]; omega))
  omega

/-- The corner in which sizes need more than the check. -/
def Corner (f : Fm) (w c : Tm) : Prop := ∀ k s a, f = fmQ k s a → QQE a → fmSz a + fmOcc a 0 * (max (tmSz w) (tmSz c)) ≤ 4096

theorem mOf_good : ∀ (n : Nat), n ≤ 3 → ∀ (N : Nat) (f : Fm) (g : List Ty) (w c : Tm) (L : Int), Shp n f → fdp f ≤ N → ArgsOk f → fmSz f ≤ 8200 → (n = 3 → Corner f w c) → f.ch.2 = 0 → FmTy TyF g f → g.length ≤ 100 →
    0 ≤ L → L + (n : Int) * 1000000 ≤ 300000000 → f.least L = true → TmOk L g w f.ch.1.1 → TmOk L g c f.ch.1.2 → (mOf N f w c).2 = 0 → Good g (mOf N f w c).1 := by
  intro n
  induction n with
  | zero =>
    intro hn N f g w c L hS hN hA hz hC hch hT hg hL0 hL hl hw hc h
    obtain ⟨N, rfl⟩ : ∃ M, N = M + 1 := ⟨N - 1, by have := fdp_pos f; omega⟩
    cases hS with
    | @eq _ x y hx hy =>
      rw [mOf_else h]
      exact ⟨hT, .eq hx hy, hA.2 rfl, mfree_eq⟩
  | succ n ih =>
    intro hn N f g w c L hS hN hA hz hC hch hT hg hL0 hL hl hw hc h
    obtain ⟨N, rfl⟩ : ∃ M, N = M + 1 := ⟨N - 1, by have := fdp_pos f; omega⟩
    obtain ⟨sw, sc⟩ := mOf_size h
    have zw := hw.cut sw
    have zc := hc.cut sc
    have hm := mOf_else h
    rw [hm] at h ⊢
    clear hm
    have ih' := ih (by omega)
    cases hS with
    | @eq _ x y hx hy => exact ⟨hT, .eq hx hy, hA.2 rfl, mfree_eq⟩
    | @two _ k a b hk h1 h2 =>
      obtain ⟨ca, cb, cc⟩ := ch_two_ok hch
      have za := hA.1 a (by simp [fmTwo, Fm.args])
      have zb := hA.1 b (by simp [fmTwo, Fm.args])
      rw [fmSz_two] at hz
      rw [fdp_two] at hN
      obtain ⟨la, lb⟩ := fleast_parts2 hl
      have ta : FmTy TyF g a ∧ FmTy TyF g b := by cases hT with | two _ a b => exact ⟨a, b⟩
      have Ga := ch_TyG h1.G ca
      have Gb := ch_TyG h2.G cb
      have ea := look_ch h1.G za
      have eb := look_ch h2.G zb
      have sub : ∀ (x : Fm), fmSz x ≤ 4096 → ArgsOk x := fun x hx => ⟨fun y hy => by
        have : fmSz y ≤ fmSz x := by
          cases x with | mk k t l a =>
          rw [fmSz]
          have : ∀ {l : List Fm} {y : Fm}, y ∈ l → fmSz y ≤ fmSzL l := fun {l} {y} => by
            intro h
            induction l with
            | nil => cases h
            | cons z l ih => rw [fmSzL]; rcases List.mem_cons.1 h with rfl | h; omega; have := ih h; omega
          have := this (show y ∈ a from hy); omega
        omega, fun _ => hx⟩
      have Ia := ih' N a g
      have Ib := ih' N b g
      rw [cc] at hw hc
      rcases hk with rfl | rfl
      · obtain ⟨w1, w2⟩ := hw.part (a := a.ch.1.1) (b := b.ch.1.1) hL0 (by omega) Ga.1.1 Gb.1.1
        obtain ⟨c1, c2⟩ := hc.part (a := a.ch.1.2) (b := b.ch.1.2) hL0 (by omega) Ga.2.1 Gb.2.1
        change (mAnd (mOf N) a b w c).2 = 0 at h
        show Good g (mAnd (mOf N) a b w c).1
        unfold mAnd at h ⊢
        rw [ea, eb] at h ⊢
        refine two_good (.inl rfl) h (fun e => Ia _ _ L h1 (by omega) (sub a za) (by omega) (fun e => by omega) ca ta.1 hg hL0 (by omega) la w1 c1 e)
          (fun e => Ib _ _ L h2 (by omega) (sub b zb) (by omega) (fun e => by omega) cb ta.2 hg hL0 (by omega) lb w2 c2 e)
      · have Fan : TyF (chFun a.ch.1.1 (chFun b.ch.1.2 a.ch.1.2)) := chFun_F Ga.1.1 (chFun_F Gb.2.1 Ga.2.1)
        have Ffn : TyF (chFun a.ch.1.1 b.ch.1.1) := chFun_F Ga.1.1 Gb.1.1
        obtain ⟨w1, w2⟩ := hw.part (a := chFun a.ch.1.1 b.ch.1.1) (b := chFun a.ch.1.1 (chFun b.ch.1.2 a.ch.1.2)) hL0 (by omega) Ffn Fan
        obtain ⟨c1, c2⟩ := hc.part (a := a.ch.1.1) (b := b.ch.1.2) hL0 (by omega) Ga.1.1 Gb.2.1
        have y1 := chPart_sz (k := 11) (a := chFun a.ch.1.1 b.ch.1.1) (b := chFun a.ch.1.1 (chFun b.ch.1.2 a.ch.1.2)) (t := w)
        have y2 := chPart_sz (k := 12) (a := chFun a.ch.1.1 (chFun b.ch.1.2 a.ch.1.2)) (b := chFun a.ch.1.1 b.ch.1.1) (t := w)
        have y3 := chPart_sz (k := 11) (a := a.ch.1.1) (b := b.ch.1.2) (t := c)
        have y4 := chPart_sz (k := 12) (a := b.ch.1.2) (b := a.ch.1.1) (t := c)
        have z1 := w2.call hL0 c1 (by omega) (chFun_F Gb.2.1 Ga.2.1)
        have y5 := chCall_sz (a := a.ch.1.1) (b := chFun b.ch.1.2 a.ch.1.2) (f := chPart 12 (chFun a.ch.1.1 (chFun b.ch.1.2 a.ch.1.2)) (chFun a.ch.1.1 b.ch.1.1) w) (t := chPart 11 a.ch.1.1 b.ch.1.2 c)
        have z2 := z1.call hL0 c2 (by omega) Ga.2.1
        have z3 := w1.call hL0 c1 (by omega) Gb.1.1
        change (mImp (mOf N) a b w c).2 = 0 at h
        show Good g (mImp (mOf N) a b w c).1
        unfold mImp at h ⊢
        rw [ea, eb] at h ⊢
        refine two_good (.inr rfl) h (fun e => Ia _ _ L h1 (by omega) (sub a za) (by omega) (fun e => by omega) ca ta.1 hg hL0 (by omega) la c1 z2 e)
          (fun e => Ib _ _ L h2 (by omega) (sub b zb) (by omega) (fun e => by omega) cb ta.2 hg hL0 (by omega) lb z3 c2 e)
    | @q _ k s a hk hs h1 =>
      obtain ⟨ca, cc⟩ := ch_q_ok hch
      have za := hA.1 a (by simp [fmQ, Fm.args])
      have Ga := ch_TyG h1.G ca
      have ea := look_ch h1.G za
      have la := fleast_part hl
      have ta : FmTy TyF (g ++ [s]) a := by cases hT with | q _ a => exact a
      have hfd : fdp a ≤ N := by rw [fmQ, fdp, fdpL, fdpL] at hN; omega
      -- the step with a term put in
      have step : ∀ (x w' c' : Tm), TmOk L g x s → TmOk L g w' a.ch.1.1 → TmOk L g c' a.ch.1.2 → tmSz x ≤ max (tmSz w) (tmSz c) + 1 → (mWith (mOf N) a x w' c').2 = 0 → Good g (mWith (mOf N) a x w' c').1 := by
        intro x w' c' hx hw' hc' hxz hh
        obtain ⟨s1, s2, s3⟩ := mWith_ok hh
        rw [s3] at hh ⊢
        have zx := hx.cut s1
        have esp : a.sp x = fmInn x 0 a 0 := fsp_inn hx.gd (by omega) (least_mono (by omega) _ hx.l) h1.G 0 (by omega) (by omega)
        rw [esp] at hh ⊢
        have hsz := h1.G.inn_sz (s := x) 0 (by omega) (by omega)
        have hqr := qs_range h1.G (by omega)
        have hpos := tmSz_pos x
        have hgr : a.grown x = (fmSz (fmInn x 0 a 0) : Int) := by
          unfold Fm.grown
          rw [x.szW_nodes _ (hx.gd.nodes_val (by omega)), a.szW_nodes _ (h1.G.nodes_val (by omega))]
          have e1 : subW (tmSz x : Int) 1 = ((tmSz x - 1 : Nat) : Int) := by rw [subW_eq (by omega) (by omega) (by omega) (by omega)]; omega
          rw [e1, grown_occ (c := 4096) (by omega) h1.G 0 _ (by omega) (by omega) (by omega), hsz]
        have hmul : fmOcc a 0 * (tmSz x - 1) ≤ 4096 * 4096 := Nat.mul_le_mul (by have := fmOcc_le a 0; omega) (by omega)
        rw [hgr, subW_eq (by omega) (by omega) (by omega) (by omega)] at s2
        have hAr := argsOk_inn (x := x) (by omega) h1 za (by omega) (fun hq => by
          obtain ⟨k1, s1', k2, s2', u, v, e⟩ := hq
          have hn2 : n = 2 := by
            subst e
            cases h1 with
            | q _ _ h2 => cases h2 with
              | q _ _ h3 => omega
          have := hC (by omega) k s a rfl ⟨k1, s1', k2, s2', u, v, e⟩
          have hm2 : fmOcc a 0 * (tmSz x - 1) ≤ fmOcc a 0 * (max (tmSz w) (tmSz c)) := Nat.mul_le_mul_left _ (by omega)
          omega)
        have hl' := fleast_inn hL0 (by omega) hx.gd hx.l h1 la 0 (by omega) (by omega)
        have up : ∀ {t : Tm} {ty : Ty}, TmOk L g t ty → TmOk (L + 1000000) g t ty := fun h => ⟨h.gd, h.sz, least_mono (by omega) _ h.l, h.ty⟩
        have hty := ta.inn g [] (by simp) hx.ty (by simp; omega) (by omega)
        rw [List.append_nil] at hty
        refine ih' N _ g w' c' (L + 1000000) (h1.inn hx.gd (least_mono (by omega) _ hx.l) (by
          exact fleast_mono (M := L) (M' := 536870912) (by omega) h1 la) 0 (by omega) (by omega)) (by rw [← esp, Fm.sp, fdp_evx]; exact hfd) hAr (by omega) (fun e => by omega) (by rw [ch_inn]; exact ca) hty hg (by omega) (by omega) hl' (by rw [ch_inn]; exact up hw') (by rw [ch_inn]; exact up hc') hh
      rw [cc] at hw hc
      rcases hk with rfl | rfl
      · obtain ⟨c1, c2⟩ := hc.part (a := s) (b := a.ch.1.2) hL0 (by omega) hs.1 Ga.2.1
        have y3 := chPart_sz (k := 11) (a := s) (b := a.ch.1.2) (t := c)
        have w1 := TmOk.call (a := s) (b := a.ch.1.1) hL0 hw c1 (by omega) Ga.1.1
        change (mAll (mOf N) s a w c).2 = 0 at h
        show Good g (mAll (mOf N) s a w c).1
        unfold mAll at h ⊢
        rw [ea] at h ⊢
        exact step _ _ _ c1 w1 c2 (by omega) h
      · obtain ⟨w1, w2⟩ := hw.part (a := s) (b := a.ch.1.1) hL0 (by omega) hs.1 Ga.1.1
        have y3 := chPart_sz (k := 11) (a := s) (b := a.ch.1.1) (t := w)
        change (mEx (mOf N) s a w c).2 = 0 at h
        show Good g (mEx (mOf N) s a w c).1
        unfold mEx at h ⊢
        rw [ea] at h ⊢
        exact step _ _ _ w1 w2 hc (by omega) h

theorem argsOk_of {x : Fm} (hx : fmSz x ≤ 4096) : ArgsOk x := ⟨fun y hy => by
    have key : ∀ {l : List Fm} {y : Fm}, y ∈ l → fmSz y ≤ fmSzL l := fun {l} {y} => by
      intro h
      induction l with
      | nil => cases h
      | cons z l ih => rw [fmSzL]; rcases List.mem_cons.1 h with rfl | h; omega; have := ih h; omega
    have : fmSz y ≤ fmSz x := by
      cases x with | mk k t l a =>
      rw [fmSz]
      have := key (show y ∈ a from hy); omega
    omega, fun _ => hx⟩

theorem mk_q_inv {n : Nat} {g : List Ty} {k : Int} {s : Ty} {a : Fm} (h : MkFm false (n + 1) g (fmQ k s a)) : MkTy 0 s ∧ MkFm false n (g ++ [s]) a ∧ (k = 4 ∨ k = 5) := by
  cases h with
  | q hk hs ha =>
    refine ⟨hs, ha, ?_⟩
    rcases hk with h | h | ⟨h, _⟩
    · exact .inl h
    · exact .inr h
    · cases h
theorem mk_eq_inv {n : Nat} {g : List Ty} {x y : Tm} (h : MkFm false n g (fmEq x y)) : MkTm 1 g tNat x ∧ MkTm 1 g tNat y := by
  cases h with
  | eq h1 h2 => exact ⟨h1, h2⟩
theorem ch_q_sz {k : Int} (hk : k = 4 ∨ k = 5) {s : Ty} {a : Fm} {z : Nat} (h : (fmQ k s a).ch.2 = 0) (hs : tySz s = 1) (h1 : tySz a.ch.1.1 ≤ z) (h2 : tySz a.ch.1.2 ≤ z) :
    tySz (fmQ k s a).ch.1.1 ≤ z + 2 ∧ tySz (fmQ k s a).ch.1.2 ≤ z + 2 := by
  rw [(ch_q_ok h).2]
  rcases hk with rfl | rfl
  · show tySz (chFun s a.ch.1.1) ≤ _ ∧ tySz (chPair s a.ch.1.2) ≤ _
    have := chFun_sz (a := s) (b := a.ch.1.1)
    have := chPair_sz (a := s) (b := a.ch.1.2)
    omega
  · show tySz (chPair s a.ch.1.1) ≤ _ ∧ tySz a.ch.1.2 ≤ _
    have := chPair_sz (a := s) (b := a.ch.1.1)
    omega

/-- The law of MatrixFree: a matrix is typed, has no quantifiers, and is small. -/
theorem law_matFree {g : List Ty} {f : Fm} {w c : Tm} (hm : MkFm false 3 g f) (hg : ∀ y ∈ g, MkTy 1 y) (hgl : g.length ≤ 10) (ok : f.look.2 = 0)
    (mw : MkTm 2 g f.look.1.1 w) (mc : MkTm 2 g f.look.1.2 c) : (matF f w c).2 = 4 ∨ ((matF f w c).2 = 0 ∧ Good g (matF f w c).1) := by
  have hgG : ∀ y ∈ g, TyG y := fun y hy => (hg y hy).G (by omega)
  have hgF : ∀ y ∈ g, TyF y := fun y hy => (hg y hy).F
  have hg3 : ∀ y ∈ g, tySz y ≤ 3 := fun y hy => (hg y hy).sz1
  have hG := hm.G hgG
  rcases hG.look with ⟨he, el, e0, g1, g2⟩ | e4
  case inr => rw [ok] at e4; cases e4
  have hsz : fmSz f ≤ 4096 := by
    rcases Nat.lt_or_ge 4096 (fmSz f) with h | h
    · exfalso
      have hz := hm.sz hg3
      rw [hG.err_val (by have : 2 ^ 3 = 8 := rfl; omega), if_neg (by omega)] at he
      cases he
    · exact h
  rw [el] at mw mc
  have b2 : bndT 64 2 = 1888 := rfl
  have hg64 : ∀ y ∈ g, tySz y ≤ 64 := fun y hy => by have := hg3 y hy; omega
  have zw := (mw.sz (M := 64) (by omega) hg64 g1.2).1
  have zc := (mc.sz (M := 64) (by omega) hg64 g2.2).1
  have lf := hm.least (m := 10000) (by omega) hg3 (by omega)
  have lw := mw.least (M := 64) (m := 10000) (by omega) (by omega) hg64 g1.2 (by have := g1.2; omega)
  have lc := mc.least (M := 64) (m := 10000) (by omega) (by omega) hg64 g2.2 (by have := g2.2; omega)
  have Gw := mw.G hgG g1
  have Gc := mc.G hgG g2
  have hS := Shp.of hm hgG
  have ow : TmOk 10000 g w f.ch.1.1 := ⟨Gw, by omega, by simpa using lw, mw.tyF hgF g1.1⟩
  have oc : TmOk 10000 g c f.ch.1.2 := ⟨Gc, by omega, by simpa using lc, mc.tyF hgF g2.1⟩
  rcases matF_code ok (fleast_mono (M := 10000) (by omega) hS (by simpa using lf)) (least_mono (by omega) _ ow.l) (least_mono (by omega) _ oc.l) (Gw.err04 (by omega)) (Gc.err04 (by omega)) with h4 | ⟨h0, hq⟩
  · exact .inl h4
  · right
    refine ⟨h0, ?_⟩
    rw [hq] at h0 ⊢
    refine mOf_good 3 (by omega) _ f g w c 10000 hS (Nat.le_refl _) (argsOk_of hsz) (by omega) (fun _ => ?_) e0 (hm.tyF hgF) (by omega) (by omega) (by omega) (by simpa using lf) ow oc h0
    rintro k s a rfl ⟨k1, s1, k2, s2, x, y, rfl⟩
    obtain ⟨m1, h1, hk⟩ := mk_q_inv hm
    obtain ⟨m2, h2, hk1⟩ := mk_q_inv h1
    obtain ⟨m3, h3, hk2⟩ := mk_q_inv h2
    obtain ⟨hx, hy⟩ := mk_eq_inv h3
    have hctx : ∀ z ∈ g ++ [s] ++ [s1] ++ [s2], MkTy 1 z := by
      intro z hz
      simp only [List.mem_append, List.mem_singleton] at hz
      rcases hz with ((hz | rfl) | rfl) | rfl
      · exact hg z hz
      · exact m1.up (by omega)
      · exact m2.up (by omega)
      · exact m3.up (by omega)
    obtain ⟨x1, x2⟩ := hx.one hctx
    obtain ⟨y1, y2⟩ := hy.one hctx
    have q1 := (ch_q_ok e0).1
    have q2 := (ch_q_ok q1).1
    have t0 : tySz (fmEq x y).ch.1.1 ≤ 1 ∧ tySz (fmEq x y).ch.1.2 ≤ 1 := by rw [ch_eqn]; exact ⟨by rw [tySz_unit]; omega, by rw [tySz_unit]; omega⟩
    have t1 := ch_q_sz hk2 q2 m3.sz0 t0.1 t0.2
    have t2 := ch_q_sz hk1 q1 m2.sz0 t1.1 t1.2
    have t3 := ch_q_sz hk e0 m1.sz0 t2.1 t2.2
    have b7 : bndT 7 2 = 349 := rfl
    have hg7 : ∀ y ∈ g, tySz y ≤ 7 := fun y hy => by have := hg3 y hy; omega
    have zw7 := (mw.sz (M := 7) (by omega) hg7 (by omega)).1
    have zc7 := (mc.sz (M := 7) (by omega) hg7 (by omega)).1
    have oq : ∀ {k : Int} (hk : k = 4 ∨ k = 5) {t : Ty} {z : Fm} {d : Int}, fmOcc (fmQ k t z) d = fmOcc z (d + 1) := fun hk => fmOcc_q (by rcases hk with h | h; exact .inl h; exact .inr (.inl h))
    rw [fmSz_q, fmSz_q, fmSz_eq, oq hk1, oq hk2, fmOcc_eq]
    have o1 := x2 (0 + 1 + 1) (by omega)
    have o2 := y2 (0 + 1 + 1) (by omega)
    have : (tmOcc x (0 + 1 + 1) + tmOcc y (0 + 1 + 1)) * max (tmSz w) (tmSz c) ≤ 6 * 349 := Nat.mul_le_mul (by omega) (by omega)
    omega
end GoAbs

namespace GoAbs
open Go

mutual
def pUp (b : Int) : Tm → Int → Tm
  | .mk k i t l, c => .mk k (if k == 1 && decide (i ≥ c) then i + b else i) t (pUpL b l (c + tmBelow k))
def pUpL (b : Int) : List Tm → Int → List Tm
  | [], _ => []
  | t :: l, c => pUp b t c :: pUpL b l c
end
theorem pUpL_map {b : Int} : ∀ (l : List Tm) (c : Int), pUpL b l c = l.map fun t => pUp b t c
  | [], c => by simp [pUpL]
  | t :: l, c => by simp [pUpL, pUpL_map l c]
mutual
def pIn (s : Tm) : Tm → Int → Tm
  | .mk k i t l, e => if k == 1 then (if i == e then pUp e s 0 else if decide (i > e) then tmVar (i - 1) else .mk k i t l)
    else .mk k i t (pInL s l (e + tmBelow k))
def pInL (s : Tm) : List Tm → Int → List Tm
  | [], _ => []
  | t :: l, e => pIn s t e :: pInL s l e
end
theorem pInL_map {s : Tm} : ∀ (l : List Tm) (e : Int), pInL s l e = l.map fun t => pIn s t e
  | [], e => by simp [pInL]
  | t :: l, e => by simp [pInL, pInL_map l e]

theorem pUp_var {b i c : Int} : pUp b (tmVar i) c = tmVar (if i ≥ c then i + b else i) := by
  rw [tmVar, pUp, pUpL_map]
  by_cases h : i ≥ c <;> simp [tmVar, h]
theorem pUp_node {b k c : Int} {t : Ty} {l : List Tm} (hk : k ≠ 1) : pUp b (tmT k t l) c = tmT k t (l.map fun x => pUp b x (c + tmBelow k)) := by
  have : (k == 1) = false := by simpa using hk
  rw [tmT, pUp, pUpL_map, this]; rfl
theorem pIn_var {s : Tm} {i e : Int} : pIn s (tmVar i) e = if i = e then pUp e s 0 else if i > e then tmVar (i - 1) else tmVar i := by
  rw [tmVar, pIn]
  by_cases h : i = e
  · simp [h]
  · by_cases h' : i > e <;> simp [h, h', tmVar]
theorem pIn_node {s : Tm} {k e : Int} {t : Ty} {l : List Tm} (hk : k ≠ 1) : pIn s (tmT k t l) e = tmT k t (l.map fun x => pIn s x (e + tmBelow k)) := by
  have : (k == 1) = false := by simpa using hk
  rw [tmT, pIn, pInL_map, this]; rfl
theorem below_nn (k : Int) : 0 ≤ tmBelow k ∧ tmBelow k ≤ 1 := by unfold tmBelow; split <;> omega

theorem TmG.nd {P : (t : Tm) → TmG t → Prop} (hv : ∀ i (hi : 0 ≤ i), P (tmVar i) (.var hi))
    (hn : ∀ (k : Int) (t : Ty) (l : List Tm) (_ : k ≠ 1) (hl : ∀ x ∈ l, TmG x) (ht : TmG (tmT k t l)), (∀ x (hx : x ∈ l), P x (hl x hx)) → P (tmT k t l) ht) {t : Tm} (h : TmG t) : P t h := by
  induction h with
  | @plain k l a ha hl ht h ih =>
    by_cases hk : k = 1
    · subst hk
      have : a = 0 := by simp [arity, arities] at ha; omega
      subst this
      have : l = [] := by cases l with
        | nil => rfl
        | cons x l => simp at hl; omega
      subst this
      exact hv 0 (by omega)
    · exact hn k (.mk 0 []) l hk h _ ih
  | var hi => exact hv _ hi
  | @typd k t l a ha hl ht hg h ih =>
    refine hn k t l ?_ h _ ih
    intro e; subst e; simp [typed] at ht

theorem map_eq {f g : Tm → Tm} {l : List Tm} (h : ∀ x ∈ l, f x = g x) : l.map f = l.map g := List.map_congr_left h

theorem pUp_up {a b : Int} (hb : 0 ≤ b) {t : Tm} (h : TmG t) : ∀ c c' : Int, c' ≤ c → c ≤ c' + b → pUp a (pUp b t c') c = pUp (b + a) t c' := by
  induction h using TmG.nd with
  | hv i hi =>
    intro c c' h1 h2
    rw [pUp_var, pUp_var, pUp_var]
    congr 1
    split <;> split <;> omega
  | hn k t l hk hl _ ih =>
    intro c c' h1 h2
    rw [pUp_node hk, pUp_node hk, pUp_node hk, List.map_map]
    congr 1
    exact map_eq fun x hx => ih x hx _ _ (by omega) (by omega)

theorem pUp_in {b : Int} (hb : 0 ≤ b) {s : Tm} (hs : TmG s) {t : Tm} (h : TmG t) : ∀ c e : Int, 0 ≤ c → c ≤ e → pUp b (pIn s t e) c = pIn s (pUp b t c) (e + b) := by
  induction h using TmG.nd with
  | hv i hi =>
    intro c e h0 h1
    rw [pIn_var, pUp_var, pIn_var]
    by_cases h2 : i = e
    · rw [if_pos h2, if_pos (show i ≥ c by omega), if_pos (by omega), pUp_up (by omega) hs c 0 h0 (by omega)]
    · rw [if_neg h2]
      by_cases h3 : i > e
      · rw [if_pos h3, pUp_var, if_pos (show i - 1 ≥ c by omega), if_pos (show i ≥ c by omega), if_neg (by omega), if_pos (by omega)]
        congr 1; omega
      · rw [if_neg h3, pUp_var]
        by_cases h4 : i ≥ c
        · rw [if_pos h4, if_neg (by omega), if_neg (by omega)]
        · rw [if_neg h4, if_neg (by omega), if_neg (by omega)]
  | hn k t l hk hl _ ih =>
    intro c e h0 h1
    have hz := below_nn k
    rw [pIn_node hk, pUp_node hk, pUp_node hk, pIn_node hk, List.map_map, List.map_map]
    congr 1
    refine map_eq fun x hx => ?_
    have := ih x hx (c + tmBelow k) (e + tmBelow k) (by omega) (by omega)
    simp only [Function.comp_apply]
    rw [this]
    congr 1; omega

theorem pIn_up {b : Int} {x : Tm} {t : Tm} (h : TmG t) : ∀ c e : Int, c ≤ e → e ≤ c + b → pIn x (pUp (b + 1) t c) e = pUp b t c := by
  induction h using TmG.nd with
  | hv i hi =>
    intro c e h1 h2
    rw [pUp_var, pIn_var, pUp_var]
    by_cases h3 : i ≥ c
    · rw [if_pos h3, if_pos h3, if_neg (by omega), if_pos (by omega)]
      congr 1; omega
    · rw [if_neg h3, if_neg h3, if_neg (by omega), if_neg (by omega)]
  | hn k t l hk hl _ ih =>
    intro c e h1 h2
    rw [pUp_node hk, pIn_node hk, pUp_node hk, List.map_map]
    congr 1
    exact map_eq fun y hy => ih y hy _ _ (by omega) (by omega)

/-- Putting in twice. -/
theorem pIn_in {s x : Tm} (hs : TmG s) (hx : TmG x) {t : Tm} (h : TmG t) : ∀ d : Int, 0 ≤ d → pIn s (pIn x t d) d = pIn (pIn s x 0) (pIn s t (d + 1)) d := by
  induction h using TmG.nd with
  | hv i hi =>
    intro d hd
    rw [pIn_var, pIn_var (i := i) (e := d + 1)]
    by_cases h1 : i = d
    · rw [if_pos h1, if_neg (by omega), if_neg (by omega), pIn_var, if_pos h1]
      have := pUp_in hd hs hx 0 0 (by omega) (by omega)
      rw [this]; congr 1; omega
    · rw [if_neg h1]
      by_cases h2 : i = d + 1
      · rw [if_pos (show i > d by omega), if_pos h2, pIn_var, if_pos (by omega), pIn_up hs 0 d hd (by omega)]
      · by_cases h3 : i > d + 1
        · rw [if_pos (show i > d by omega), if_neg h2, if_pos h3, pIn_var, pIn_var, if_neg (by omega), if_pos (by omega), if_neg (by omega)]
        · rw [if_neg (show ¬ i > d by omega), if_neg h2, if_neg h3, pIn_var, pIn_var, if_neg h1, if_neg (by omega), if_neg h1]
  | hn k t l hk hl _ ih =>
    intro d hd
    have hz := below_nn k
    rw [pIn_node hk, pIn_node hk, pIn_node hk, pIn_node hk, List.map_map, List.map_map]
    congr 1
    refine map_eq fun y hy => ?_
    have := ih y hy (d + tmBelow k) (by omega)
    simp only [Function.comp_apply]
    rw [this]
    congr 2; omega
end GoAbs

namespace GoAbs
open Go

theorem up_p {b : Int} (hb0 : 0 ≤ b) (hb : b ≤ 100000000000) {t : Tm} (h : TmG t) : ∀ c : Int, t.least 1000000000 = true → 0 ≤ c → c + tmSz t ≤ 100000000000 → t.up b c = pUp b t c := by
  induction h using TmG.nd with
  | hv i hi =>
    intro c hl hc hz
    rw [tmVar, Tm.least_eq, Bool.and_eq_true] at hl
    have hi2 : i ≤ 1000000000 := of_decide_eq_true hl.1
    rw [pUp_var, tmVar, Tm.up, Tm.upL, addW_eq (by omega) (by omega) (by omega) (by omega)]
    by_cases h1 : i ≥ c <;> simp [tmVar, h1]
  | hn k t l hk hl _ ih =>
    intro c hle hc hz
    have hz' : tmSz (tmT k t l) = tmSzL l + 1 := by rw [tmT, tmSz]
    rw [tmT, Tm.least, Bool.and_eq_true] at hle
    have hr := below_nn k
    have hkb : (k == 1) = false := by simpa using hk
    rw [pUp_node hk, tmT, Tm.up, Tm.upL_map, hkb, show addW c (tmBelow k) = c + tmBelow k from addW_eq (by omega) (by omega) (by omega) (by omega)]
    simp only [Bool.false_and, Bool.false_eq_true, if_false, tmT]
    congr 1
    refine map_eq fun x hx => ih x hx _ (Tm.leastL_iff.1 hle.2 x hx) (by omega) ?_
    have := tmSzL_mem hx
    omega

theorem inn_p {s : Tm} (hs : TmG s) (ls : s.least 1000000000 = true) (zs : tmSz s ≤ 1000000000) {t : Tm} (h : TmG t) : ∀ d : Int, t.least 1000000000 = true → 0 ≤ d → d + tmSz t ≤ 50000000000 → tmInn s 0 t d = pIn s t d := by
  induction h using TmG.nd with
  | hv i hi =>
    intro d hl hd hz
    rw [tmVar, Tm.least_eq, Bool.and_eq_true] at hl
    have hi2 : i ≤ 1000000000 := of_decide_eq_true hl.1
    have e0 : addW 0 d = d := by rw [addW_eq (by omega) (by omega) (by omega) (by omega)]; omega
    rw [pIn_var, tmVar, tmInn, e0, subW_eq (by omega) (by omega) (by omega) (by omega)]
    by_cases h1 : i = d
    · simp [h1, up_p hd (by omega) hs 0 ls (by omega) (by omega)]
    · by_cases h2 : i > d <;> simp [h1, h2, tmVar]
  | hn k t l hk hl _ ih =>
    intro d hle hd hz
    have hz' : tmSz (tmT k t l) = tmSzL l + 1 := by rw [tmT, tmSz]
    rw [tmT, Tm.least, Bool.and_eq_true] at hle
    have hr := below_nn k
    have hkb : (k == 1) = false := by simpa using hk
    rw [pIn_node hk, tmT, tmInn, tmInnL_map, hkb, show addW d (tmBelow k) = d + tmBelow k from addW_eq (by omega) (by omega) (by omega) (by omega)]
    simp only [Bool.false_eq_true, if_false, tmT]
    congr 1
    refine map_eq fun x hx => ih x hx _ (Tm.leastL_iff.1 hle.2 x hx) (by omega) ?_
    have := tmSzL_mem hx
    omega

/-- Putting in twice, for the references' function. -/
theorem inn_inn {L : Int} (hL : 0 ≤ L) (hL2 : L ≤ 500000000) {s x t : Tm} (hs : TmG s) (hx : TmG x) (h : TmG t) (ls : s.least L = true) (lx : x.least L = true) (lt : t.least L = true) (zs : tmSz s ≤ 20000) (zx : tmSz x ≤ 20000) (zt : tmSz t ≤ 20000)
    (d : Int) (hd : 0 ≤ d) (hd2 : d ≤ 20000) : tmInn s 0 (tmInn x 0 t d) d = tmInn (tmInn s 0 x 0) 0 (tmInn s 0 t (d + 1)) d := by
  have m := fun {t : Tm} (M M' : Int) (hM : M ≤ M') (h : t.least M = true) => least_mono hM t h
  have z1 := TmG.inn_sz (s := x) _ h (Nat.le_refl _) d hd (by omega)
  have z2 := TmG.inn_sz (s := s) _ h (Nat.le_refl _) (d + 1) (by omega) (by omega)
  have z3 := TmG.inn_sz (s := s) _ hx (Nat.le_refl _) 0 (by omega) (by omega)
  have o1 := tmOcc_le t d
  have o2 := tmOcc_le t (d + 1)
  have o3 := tmOcc_le x 0
  have b1 : tmOcc t d * (tmSz x - 1) ≤ 20000 * 20000 := Nat.mul_le_mul (by omega) (by omega)
  have b2 : tmOcc t (d + 1) * (tmSz s - 1) ≤ 20000 * 20000 := Nat.mul_le_mul (by omega) (by omega)
  have b3 : tmOcc x 0 * (tmSz s - 1) ≤ 20000 * 20000 := Nat.mul_le_mul (by omega) (by omega)
  have g1 : TmG (tmInn x 0 t d) := TmG.inn hx (m L _ (by omega) lx) _ h (Nat.le_refl _) (m L _ (by omega) lt) d hd (by omega)
  have g2 : TmG (tmInn s 0 t (d + 1)) := TmG.inn hs (m L _ (by omega) ls) _ h (Nat.le_refl _) (m L _ (by omega) lt) (d + 1) (by omega) (by omega)
  have g3 : TmG (tmInn s 0 x 0) := TmG.inn hs (m L _ (by omega) ls) _ hx (Nat.le_refl _) (m L _ (by omega) lx) 0 (by omega) (by omega)
  have l1 : (tmInn x 0 t d).least (L + 1000000) = true := least_inn hL (by omega) hx lx _ h (Nat.le_refl _) lt d hd (by omega)
  have l2 : (tmInn s 0 t (d + 1)).least (L + 1000000) = true := least_inn hL (by omega) hs ls _ h (Nat.le_refl _) lt (d + 1) (by omega) (by omega)
  have l3 : (tmInn s 0 x 0).least (L + 1000000) = true := least_inn hL (by omega) hs ls _ hx (Nat.le_refl _) lx 0 (by omega) (by omega)
  rw [inn_p hs (m L _ (by omega) ls) (by omega) g1 d (m (L + 1000000) _ (by omega) l1) hd (by omega),
    inn_p g3 (m (L + 1000000) _ (by omega) l3) (by omega) g2 d (m (L + 1000000) _ (by omega) l2) hd (by omega),
    inn_p hx (m L _ (by omega) lx) (by omega) h d (m L _ (by omega) lt) hd (by omega),
    inn_p hs (m L _ (by omega) ls) (by omega) hx 0 (m L _ (by omega) lx) (by omega) (by omega),
    inn_p hs (m L _ (by omega) ls) (by omega) h (d + 1) (m L _ (by omega) lt) (by omega) (by omega)]
  exact pIn_in hs hx h d hd

/-- Where a variable does not occur, what is put in for it does not matter. -/
theorem inn_occ0 {s s' : Tm} {t : Tm} (h : TmG t) : ∀ d : Int, 0 ≤ d → d + tmSz t ≤ 1000000 → tmOcc t d = 0 → tmInn s 0 t d = tmInn s' 0 t d := by
  induction h using TmG.nd with
  | hv i hi =>
    intro d hd hz ho
    have e0 : addW 0 d = d := by rw [addW_eq (by omega) (by omega) (by omega) (by omega)]; omega
    rw [tmVar, tmOcc] at ho
    have h1 : (i == d) = false := by
      cases hq : (i == d)
      · rfl
      · simp [hq] at ho
    rw [tmVar, tmInn, tmInn, e0, h1]
    rfl
  | hn k t l hk hl _ ih =>
    intro d hd hz ho
    have hz' : tmSz (tmT k t l) = tmSzL l + 1 := by rw [tmT, tmSz]
    have hr := below_nn k
    have hkb : (k == 1) = false := by simpa using hk
    rw [tmT, tmOcc, hkb] at ho
    simp only [Bool.false_eq_true, if_false] at ho
    have hoL : ∀ {l : List Tm} {e : Int}, tmOccL l e = 0 → ∀ x ∈ l, tmOcc x e = 0 := by
      intro l e
      induction l with
      | nil => intro _ x hx; cases hx
      | cons y l ihl =>
        intro h0 x hx
        rw [tmOccL] at h0
        rcases List.mem_cons.1 hx with rfl | hx
        · omega
        · exact ihl (by omega) x hx
    rw [tmT, tmInn, tmInnL_map, tmInn, tmInnL_map, hkb, show addW d (tmBelow k) = d + tmBelow k from addW_eq (by omega) (by omega) (by omega) (by omega)]
    simp only [Bool.false_eq_true, if_false]
    congr 1
    refine map_eq fun x hx => ih x hx _ (by omega) ?_ (hoL ho x hx)
    have := tmSzL_mem hx
    omega

/-- The same for formulas. -/
theorem finn_inn {L : Int} (hL : 0 ≤ L) (hL2 : L ≤ 500000000) {s x : Tm} (hs : TmG s) (hx : TmG x) (ls : s.least L = true) (lx : x.least L = true) (zs : tmSz s ≤ 20000) (zx : tmSz x ≤ 20000) {n : Nat} {f : Fm} (h : Shp n f) :
    f.least L = true → fmSz f ≤ 20000 → ∀ d : Int, 0 ≤ d → d + fmSz f ≤ 20000 → fmInn s 0 (fmInn x 0 f d) d = fmInn (tmInn s 0 x 0) 0 (fmInn s 0 f (d + 1)) d := by
  induction h with
  | @eq n u v hu hv =>
    intro hl hz d hd hz2
    obtain ⟨l1, l2⟩ := fleast_eq.1 hl
    rw [fmSz_eq] at hz hz2
    rw [fmInn_eqn, fmInn_eqn, fmInn_eqn, fmInn_eqn, inn_inn hL hL2 hs hx hu ls lx l1 zs zx (by omega) d hd (by omega), inn_inn hL hL2 hs hx hv ls lx l2 zs zx (by omega) d hd (by omega)]
  | @two n k a b hk _ _ h1 h2 =>
    intro hl hz d hd hz2
    obtain ⟨l1, l2⟩ := fleast_parts2 hl
    rw [fmSz_two] at hz hz2
    rw [fmInn_two, fmInn_two, fmInn_two, fmInn_two, below_two hk, addW_zero hd (by omega), addW_zero (by omega) (by omega), h1 l1 (by omega) d hd (by omega), h2 l2 (by omega) d hd (by omega)]
  | @q n k ty a hk hs' _ h1 =>
    intro hl hz d hd hz2
    have l1 := fleast_part hl
    rw [fmSz_q] at hz hz2
    have hr := fmBelow_range k
    rw [fmInn_q, fmInn_q, fmInn_q, fmInn_q, addW_eq (by omega) (by omega) (by omega) (by omega), addW_eq (by omega) (by omega) (by omega) (by omega)]
    have := h1 l1 (by omega) (d + fmBelow k) (by omega) (by omega)
    rw [this, show d + 1 + fmBelow k = d + fmBelow k + 1 by omega]

theorem finn_occ0 {s s' : Tm} {n : Nat} {f : Fm} (h : Shp n f) : ∀ d : Int, 0 ≤ d → d + fmSz f ≤ 100000 → fmOcc f d = 0 → fmInn s 0 f d = fmInn s' 0 f d := by
  induction h with
  | @eq n u v hu hv =>
    intro d hd hz ho
    rw [fmSz_eq] at hz
    rw [fmOcc_eq] at ho
    rw [fmInn_eqn, fmInn_eqn, inn_occ0 (s := s) (s' := s') hu d hd (by omega) (by omega), inn_occ0 (s := s) (s' := s') hv d hd (by omega) (by omega)]
  | @two n k a b hk _ _ h1 h2 =>
    intro d hd hz ho
    rw [fmSz_two] at hz
    rw [fmOcc_two hk] at ho
    rw [fmInn_two, fmInn_two, below_two hk, addW_zero hd (by omega), h1 d hd (by omega) (by omega), h2 d hd (by omega) (by omega)]
  | @q n k ty a hk hs' _ h1 =>
    intro d hd hz ho
    rw [fmSz_q] at hz
    rw [fmOcc_q (by rcases hk with h | h; exact .inl h; exact .inr (.inl h))] at ho
    have hb : fmBelow k = 1 := by rcases hk with rfl | rfl <;> rfl
    rw [fmInn_q, fmInn_q, hb, addW_eq (by omega) (by omega) (by omega) (by omega), h1 (d + 1) (by omega) (by omega) ho]
end GoAbs

namespace GoAbs
open Go

theorem P_tm0 {s : Tm} {k : Int} (h1 : k ≠ 1) (h2 : k ≠ 2) {l : List Tm} : tmInn s 0 (tm0 k l) 0 = tm0 k (l.map fun x => tmInn s 0 x 0) := by
  have e1 : (k == 1) = false := by simpa using h1
  have e2 : addW 0 (tmBelow k) = 0 := by
    have : (k == 2) = false := by simpa using h2
    rw [tmBelow, this]; rfl
  rw [tm0, tmInn, tmInnL_map, e1, e2]; rfl
theorem P_part {s : Tm} {k : Int} (hk : k = 11 ∨ k = 12) {a b : Ty} {t : Tm} : tmInn s 0 (chPart k a b t) 0 = chPart k a b (tmInn s 0 t 0) := by
  unfold chPart
  have n1 : k ≠ 1 := by rcases hk with rfl | rfl <;> decide
  have n2 : k ≠ 2 := by rcases hk with rfl | rfl <;> decide
  repeat' split
  · exact P_tm0 (by decide) (by decide)
  · rfl
  · exact P_tm0 n1 n2
theorem P_call {s : Tm} {a b : Ty} {f t : Tm} : tmInn s 0 (chCall a b f t) 0 = chCall a b (tmInn s 0 f 0) (tmInn s 0 t 0) := by
  unfold chCall
  repeat' split
  · exact P_tm0 (by decide) (by decide)
  · rfl
  · exact P_tm0 (by decide) (by decide)
theorem P_two {s : Tm} {k : Int} (hk : k = 2 ∨ k = 3) {a b : Fm} : fmInn s 0 (fmTwo k a b) 0 = fmTwo k (fmInn s 0 a 0) (fmInn s 0 b 0) := by
  rw [fmInn_two, below_two hk]; rfl
theorem P_q {s : Tm} {k : Int} (hk : k = 4 ∨ k = 5) {t : Ty} {a : Fm} {d : Int} (hd : 0 ≤ d) (hd2 : d ≤ 1000) : fmInn s 0 (fmQ k t a) d = fmQ k t (fmInn s 0 a (d + 1)) := by
  have : fmBelow k = 1 := by rcases hk with rfl | rfl <;> rfl
  rw [fmInn_q, this, addW_eq (by omega) (by omega) (by omega) (by omega)]

theorem mTwo_put {k : Int} (hk : k = 2 ∨ k = 3) {s : Tm} {x y x' y' : Fm × Int} (h : (mTwo k x y).2 = 0) (h' : (mTwo k x' y').2 = 0) (hx : x.2 = 0 → x'.2 = 0 → x'.1 = fmInn s 0 x.1 0) (hy : y.2 = 0 → y'.2 = 0 → y'.1 = fmInn s 0 y.1 0) :
    (mTwo k x' y').1 = fmInn s 0 (mTwo k x y).1 0 := by
  obtain ⟨a1, a2, a3⟩ := mTwo_ok h
  obtain ⟨b1, b2, b3⟩ := mTwo_ok h'
  rw [a3, b3, hx a1 b1, hy a2 b2, P_two hk]

/-- A term that is put in: not a big one. -/
structure SubOk (L : Int) (s : Tm) : Prop where
  gd : TmG s
  sz : tmSz s ≤ 2000
  l : s.least L = true

theorem TmOk.P {L : Int} (hL : 0 ≤ L) (hL2 : L ≤ 500000000) {g : List Ty} {s t : Tm} {ty : Ty} (hs : SubOk L s) (h : TmOk L g t ty) : TmG (tmInn s 0 t 0) ∧ (tmInn s 0 t 0).least (L + 1000000) = true :=
  ⟨TmG.inn hs.gd (least_mono (by omega) _ hs.l) _ h.gd (Nat.le_refl _) (least_mono (by omega) _ h.l) 0 (by omega) (by have := h.sz; omega), least_inn hL (by omega) hs.gd hs.l _ h.gd (Nat.le_refl _) h.l 0 (by omega) (by have := h.sz; omega)⟩
theorem G_cut {t : Tm} (h : TmG t) (hz0 : tmSz t ≤ 20000) (hz : t.szW ≤ 4096) : tmSz t ≤ 4096 := by
  have := t.szW_nodes _ (h.nodes_val (by omega)); omega

/-- What a step over a quantifier says about sizes. -/
theorem with_sz {r : Fm → Tm → Tm → Fm × Int} {n : Nat} {b : Fm} {x w c : Tm} (hb : Shp n b) (zb : fmSz b ≤ 8200) (hx : TmG x) (zx : tmSz x ≤ 20000) (lx : x.least 1000000000 = true) (h : (mWith r b x w c).2 = 0) :
    tmSz x ≤ 4096 ∧ mWith r b x w c = r (fmInn x 0 b 0) w c ∧ (fmSz (fmInn x 0 b 0) : Int) ≤ 4096 + b.qs ∧ fmSz (fmInn x 0 b 0) = fmSz b + fmOcc b 0 * (tmSz x - 1) := by
  obtain ⟨s1, s2, s3⟩ := mWith_ok h
  have zx' := G_cut hx zx s1
  have esp : b.sp x = fmInn x 0 b 0 := fsp_inn hx (by omega) lx hb.G 0 (by omega) (by omega)
  rw [esp] at s3
  have hsz := hb.G.inn_sz (s := x) 0 (by omega) (by omega)
  have hqr := qs_range hb.G (by omega)
  have hpos := tmSz_pos x
  have hmul : fmOcc b 0 * (tmSz x - 1) ≤ 8200 * 4096 := Nat.mul_le_mul (by have := fmOcc_le b 0; omega) (by omega)
  have hgr : b.grown x = (fmSz (fmInn x 0 b 0) : Int) := by
    unfold Fm.grown
    rw [x.szW_nodes _ (hx.nodes_val (by omega)), b.szW_nodes _ (hb.G.nodes_val (by omega))]
    have e1 : subW (tmSz x : Int) 1 = ((tmSz x - 1 : Nat) : Int) := by rw [subW_eq (by omega) (by omega) (by omega) (by omega)]; omega
    rw [e1, grown_occ (c := 4096) (by omega) hb.G 0 _ (by omega) (by omega) (by omega), hsz]
  rw [hgr, subW_eq (by omega) (by omega) (by omega) (by omega)] at s2
  exact ⟨zx', s3, by omega, hsz⟩

theorem eq_mOf {N : Nat} {x y w c : Tm} (h : (mOf N (fmEq x y) w c).2 = 0) : (mOf N (fmEq x y) w c).1 = fmEq x y := by
  cases N with
  | zero => cases h
  | succ N => rw [mOf_else h]; rfl

/-- Equal, or not seen. -/
theorem seen {n : Nat} {b : Fm} (hb : Shp n b) (zb : fmSz b ≤ 8200) {x x' : Tm} (h : x' = x ∨ 2 ≤ tmSz x') (hz : fmOcc b 0 * (tmSz x' - 1) = 0) : fmInn x' 0 b 0 = fmInn x 0 b 0 := by
  rcases h with rfl | h
  · rfl
  · refine finn_occ0 hb 0 (by omega) (by omega) ?_
    rcases Nat.mul_eq_zero.1 hz with h | h
    · exact h
    · omega

theorem q_mOf {N : Nat} {k : Int} (hk : k = 4 ∨ k = 5) {t : Ty} {a : Fm} {w c : Tm} (h : (mOf N (fmQ k t a) w c).2 = 0) :
    ∃ M, N = M + 1 ∧ w.szW ≤ 4096 ∧ c.szW ≤ 4096 ∧ mOf N (fmQ k t a) w c = if k == 4 then mAll (mOf M) t a w c else mEx (mOf M) t a w c := by
  cases N with
  | zero => cases h
  | succ N =>
    obtain ⟨s1, s2⟩ := mOf_size h
    refine ⟨N, rfl, s1, s2, ?_⟩
    rw [mOf_else h]
    rcases hk with rfl | rfl <;> rfl

/-- The three terms that a quantifier hands on: what is put in, the witness, the challenge. -/
def qx (k : Int) (t : Ty) (p : Ty × Ty) (w c : Tm) : Tm := if k == 4 then chPart 11 t p.2 c else chPart 11 t p.1 w
def qw (k : Int) (t : Ty) (p : Ty × Ty) (w c : Tm) : Tm := if k == 4 then chCall t p.1 w (chPart 11 t p.2 c) else chPart 12 p.1 t w
def qc (k : Int) (t : Ty) (p : Ty × Ty) (w c : Tm) : Tm := if k == 4 then chPart 12 p.2 t c else c
theorem q_with {k : Int} {M : Nat} {t : Ty} {a : Fm} {w c : Tm} : (if k == 4 then mAll (mOf M) t a w c else mEx (mOf M) t a w c) = mWith (mOf M) a (qx k t a.look.1 w c) (qw k t a.look.1 w c) (qc k t a.look.1 w c) := by
  unfold qx qw qc
  split <;> rfl
theorem P_qx {k : Int} {s : Tm} {t : Ty} {p : Ty × Ty} {w c : Tm} : tmInn s 0 (qx k t p w c) 0 = qx k t p (tmInn s 0 w 0) (tmInn s 0 c 0) := by
  unfold qx; split <;> exact P_part (.inl rfl)
theorem P_qw {k : Int} {s : Tm} {t : Ty} {p : Ty × Ty} {w c : Tm} : tmInn s 0 (qw k t p w c) 0 = qw k t p (tmInn s 0 w 0) (tmInn s 0 c 0) := by
  unfold qw; split
  · rw [P_call, P_part (.inl rfl)]
  · exact P_part (.inr rfl)
theorem P_qc {k : Int} {s : Tm} {t : Ty} {p : Ty × Ty} {w c : Tm} : tmInn s 0 (qc k t p w c) 0 = qc k t p (tmInn s 0 w 0) (tmInn s 0 c 0) := by
  unfold qc; split
  · exact P_part (.inr rfl)
  · rfl
theorem corner_x {k1 k2 : Int} (h1 : k1 = 4 ∨ k1 = 5) (h2 : k2 = 4 ∨ k2 = 5) {t1 t2 : Ty} {p z : Ty × Ty} (hp : p = chCase k2 t2 [(tUnit, tUnit)]) (hz : z = (tZero, tZero)) {w c : Tm} :
    (qx k1 t1 z w c = qx k1 t1 p w c ∨ 2 ≤ tmSz (qx k1 t1 z w c)) ∧
    (qx k2 t2 (tUnit, tUnit) (qw k1 t1 z w c) (qc k1 t1 z w c) = qx k2 t2 (tUnit, tUnit) (qw k1 t1 p w c) (qc k1 t1 p w c) ∨ 2 ≤ tmSz (qx k2 t2 (tUnit, tUnit) (qw k1 t1 z w c) (qc k1 t1 z w c))) := by
  subst hp hz
  have kU : (tUnit.kind == 5) = true := rfl
  have kZ : (tZero.kind == 5) = false := rfl
  have p1 := tmSz_pos w
  have p2 := tmSz_pos c
  have z1 : ∀ (k : Int) (x : Tm), 2 ≤ tmSz (tm0 k [x]) := fun k x => by rw [tmSz_1]; have := tmSz_pos x; omega
  have z2 : ∀ (k : Int) (x y : Tm), 2 ≤ tmSz (tm0 k [x, y]) := fun k x y => by rw [tmSz_2]; have := tmSz_pos x; omega
  rcases h1 with rfl | rfl <;> rcases h2 with rfl | rfl <;> cases q1 : (t1.kind == 5) <;> cases q2 : (t2.kind == 5) <;>
    simp [qx, qw, qc, chCase, chPart, chCall, chPair, chFun, q1, q2, kU, kZ, z1, z2]
end GoAbs

namespace GoAbs
open Go

theorem finn_inn0 {L : Int} (hL : 0 ≤ L) (hL2 : L ≤ 500000000) {s x : Tm} (hs : TmG s) (hx : TmG x) (ls : s.least L = true) (lx : x.least L = true) (zs : tmSz s ≤ 20000) (zx : tmSz x ≤ 20000) {n : Nat} {f : Fm} (h : Shp n f)
    (hl : f.least L = true) (hz : fmSz f ≤ 20000) : fmInn s 0 (fmInn x 0 f 0) 0 = fmInn (tmInn s 0 x 0) 0 (fmInn s 0 f 1) 0 := finn_inn hL hL2 hs hx ls lx zs zx h hl hz 0 (by omega) (by omega)

theorem Shp.q_inv {n : Nat} {k : Int} {t : Ty} {a : Fm} (h : Shp n (fmQ k t a)) : ∃ m, n = m + 1 ∧ (k = 4 ∨ k = 5) ∧ TyG t ∧ Shp m a := by
  generalize e : fmQ k t a = f at h
  cases h with
  | eq _ _ => simp [fmQ, fmEq] at e
  | two _ _ _ => simp [fmQ, fmTwo] at e
  | @q n k' s b hk hs hb =>
    simp only [fmQ, Fm.mk.injEq, List.cons.injEq, and_true, true_and] at e
    obtain ⟨rfl, rfl, rfl⟩ := e
    exact ⟨_, rfl, hk, hs, hb⟩
theorem Shp.eq_inv {n : Nat} {u v : Tm} (h : Shp n (fmEq u v)) : TmG u ∧ TmG v := by
  generalize e : fmEq u v = f at h
  cases h with
  | @eq n x y hx hy =>
    simp only [fmEq, Fm.mk.injEq, List.cons.injEq, and_true, true_and] at e
    obtain ⟨rfl, rfl⟩ := e
    exact ⟨hx, hy⟩
  | two _ _ _ => simp [fmEq, fmTwo] at e
  | q _ _ _ => simp [fmQ, fmEq] at e

theorem qx_sz {k : Int} {t : Ty} {p : Ty × Ty} {w c : Tm} : tmSz (qx k t p w c) ≤ max (tmSz w) (tmSz c) + 1 := by
  unfold qx
  have := chPart_sz (k := 11) (a := t) (b := p.2) (t := c)
  have := chPart_sz (k := 11) (a := t) (b := p.1) (t := w)
  split <;> omega
theorem qw_sz {k : Int} {t : Ty} {p : Ty × Ty} {w c : Tm} : tmSz (qw k t p w c) ≤ tmSz w + tmSz c + 2 := by
  unfold qw
  have := chCall_sz (a := t) (b := p.1) (f := w) (t := chPart 11 t p.2 c)
  have := chPart_sz (k := 11) (a := t) (b := p.2) (t := c)
  have := chPart_sz (k := 12) (a := p.1) (b := t) (t := w)
  split <;> omega
theorem qc_sz {k : Int} {t : Ty} {p : Ty × Ty} {w c : Tm} : tmSz (qc k t p w c) ≤ tmSz c + 1 := by
  unfold qc
  have := chPart_sz (k := 12) (a := p.2) (b := t) (t := c)
  split <;> omega

theorem q_ok {L : Int} (hL : 0 ≤ L) {g : List Ty} {k : Int} (hk : k = 4 ∨ k = 5) {s : Ty} {p : Ty × Ty} (hs : TyG s) (Gp : TyG p.1 ∧ TyG p.2) {w c : Tm} (hw : TmOk L g w (chCase k s [p]).1) (hc : TmOk L g c (chCase k s [p]).2)
    (zw : tmSz w ≤ 4096) (zc : tmSz c ≤ 4096) : TmOk L g (qx k s p w c) s ∧ TmOk L g (qw k s p w c) p.1 ∧ TmOk L g (qc k s p w c) p.2 := by
  rcases hk with rfl | rfl
  · obtain ⟨c1, c2⟩ := hc.part (a := s) (b := p.2) hL (by omega) hs.1 Gp.2.1
    have y3 := chPart_sz (k := 11) (a := s) (b := p.2) (t := c)
    have w1 := TmOk.call (a := s) (b := p.1) hL hw c1 (by omega) Gp.1.1
    exact ⟨c1, w1, c2⟩
  · obtain ⟨w1, w2⟩ := hw.part (a := s) (b := p.1) hL (by omega) hs.1 Gp.1.1
    exact ⟨w1, w2, hc⟩

theorem look_big {f : Fm} (h : FmG false f) (hz : ¬ fmSz f ≤ 4096) (hz2 : fmSz f ≤ 20000) : f.look.1 = (tZero, tZero) := by
  have he := h.err_val (by omega)
  rw [if_neg hz] at he
  unfold Fm.look
  rw [he]; rfl

theorem mOf_corner {L : Int} (hL0 : 0 ≤ L) (hL : L ≤ 300000000) {s : Tm} (hs : SubOk L s) {k1 k2 : Int} (hk1 : k1 = 4 ∨ k1 = 5) (hk2 : k2 = 4 ∨ k2 = 5) {t1 t2 : Ty} (ht1 : TyG t1) (ht2 : TyG t2) {u v : Tm} (gu : TmG u) (gv : TmG v)
    (hA : fmSz (fmQ k2 t2 (fmEq u v)) ≤ 4096) {g : List Ty} {w c : Tm} (hch : (fmQ k1 t1 (fmQ k2 t2 (fmEq u v))).ch.2 = 0) (hw : TmOk L g w (fmQ k1 t1 (fmQ k2 t2 (fmEq u v))).ch.1.1) (hc : TmOk L g c (fmQ k1 t1 (fmQ k2 t2 (fmEq u v))).ch.1.2)
    (zSw : tmSz (tmInn s 0 w 0) ≤ 20000) (zSc : tmSz (tmInn s 0 c 0) ≤ 20000) (hl : (fmQ k1 t1 (fmQ k2 t2 (fmEq u v))).least L = true) (hz : fmSz (fmInn s 0 (fmQ k1 t1 (fmQ k2 t2 (fmEq u v))) 0) = 4098) {N : Nat}
    (h : (mOf N (fmQ k1 t1 (fmQ k2 t2 (fmEq u v))) w c).2 = 0) (h' : (mOf N (fmInn s 0 (fmQ k1 t1 (fmQ k2 t2 (fmEq u v))) 0) (tmInn s 0 w 0) (tmInn s 0 c 0)).2 = 0) :
    (mOf N (fmInn s 0 (fmQ k1 t1 (fmQ k2 t2 (fmEq u v))) 0) (tmInn s 0 w 0) (tmInn s 0 c 0)).1 = fmInn s 0 (mOf N (fmQ k1 t1 (fmQ k2 t2 (fmEq u v))) w c).1 0 := by
  have m := fun {t : Tm} (M M' : Int) (hM : M ≤ M') (h : t.least M = true) => least_mono hM t h
  have hE : Shp 0 (fmEq u v) := .eq gu gv
  have hSa : Shp 1 (fmQ k2 t2 (fmEq u v)) := .q hk2 ht2 hE
  obtain ⟨ca, cc⟩ := ch_q_ok hch
  obtain ⟨ce, cd⟩ := ch_q_ok ca
  rw [ch_eqn] at cd
  have la := fleast_part hl
  have le := fleast_part la
  have Ga := ch_TyG hSa.G ca
  have ea := look_ch hSa.G hA
  have zE := hA
  rw [fmSz_q] at zE
  have hzs := hs.sz
  have ge3 := fmSz_ge3 hE
  -- the outer quantifier
  obtain ⟨M, rfl, sw, sc, e1⟩ := q_mOf hk1 h
  have zw := hw.cut sw
  have zc := hc.cut sc
  rw [e1, q_with, ea] at h ⊢
  rw [cc] at hw hc
  obtain ⟨ox, ow, oc⟩ := q_ok hL0 hk1 ht1 Ga hw hc zw zc
  rw [P_q hk1 (by omega) (by omega), show (0 : Int) + 1 = 1 from rfl] at h' hz ⊢
  obtain ⟨M', hM, sw', sc', e1'⟩ := q_mOf hk1 h'
  obtain rfl : M = M' := by omega
  have gSw := (hw.P hL0 (by omega) hs)
  have gSc := (hc.P hL0 (by omega) hs)
  have zw' := G_cut gSw.1 zSw sw'
  have zc' := G_cut gSc.1 zSc sc'
  have lsa : (fmQ k2 t2 (fmEq u v)).least 536870912 = true := fleast_mono (M := L) (by omega) hSa la
  have hSa' : Shp 1 (fmInn s 0 (fmQ k2 t2 (fmEq u v)) 1) := hSa.inn hs.gd (m L _ (by omega) hs.l) lsa 1 (by omega) (by omega)
  rw [fmSz_q] at hz
  have ea' := look_big hSa'.G (by omega) (by omega)
  rw [e1', q_with] at h' ⊢
  obtain ⟨cx, cx2⟩ := corner_x hk1 hk2 (t1 := t1) (t2 := t2) (p := (fmQ k2 t2 (fmEq u v)).ch.1) (z := (fmInn s 0 (fmQ k2 t2 (fmEq u v)) 1).look.1) (w := tmInn s 0 w 0) (c := tmInn s 0 c 0) cd ea'
  -- what is put in, before and after
  have gz : ∀ {k : Int} {t : Ty} {p : Ty × Ty} {w c : Tm}, TmG w → TmG c → TmG (qx k t p w c) ∧ TmG (qw k t p w c) ∧ TmG (qc k t p w c) := by
    intro k t p w c h1 h2
    unfold qx qw qc
    refine ⟨?_, ?_, ?_⟩ <;> split
    · exact chPart_G (.inl rfl) h2
    · exact chPart_G (.inl rfl) h1
    · exact chCall_G h1 (chPart_G (.inl rfl) h2)
    · exact chPart_G (.inr rfl) h1
    · exact chPart_G (.inr rfl) h2
    · exact h2
  have gl : ∀ {k : Int} {t : Ty} {p : Ty × Ty} {w c : Tm} {M : Int}, 0 ≤ M → w.least M = true → c.least M = true → (qx k t p w c).least M = true ∧ (qw k t p w c).least M = true ∧ (qc k t p w c).least M = true := by
    intro k t p w c M hM h1 h2
    unfold qx qw qc
    refine ⟨?_, ?_, ?_⟩ <;> split
    · exact chPart_least hM h2
    · exact chPart_least hM h1
    · exact chCall_least hM h1 (chPart_least hM h2)
    · exact chPart_least hM h1
    · exact chPart_least hM h2
    · exact h2
  have G1 := gz (k := k1) (t := t1) (p := (fmInn s 0 (fmQ k2 t2 (fmEq u v)) 1).look.1) gSw.1 gSc.1
  have L1 := gl (k := k1) (t := t1) (p := (fmInn s 0 (fmQ k2 t2 (fmEq u v)) 1).look.1) (by omega) gSw.2 gSc.2
  have Z1 := qx_sz (k := k1) (t := t1) (p := (fmInn s 0 (fmQ k2 t2 (fmEq u v)) 1).look.1) (w := tmInn s 0 w 0) (c := tmInn s 0 c 0)
  have Z2 := qw_sz (k := k1) (t := t1) (p := (fmInn s 0 (fmQ k2 t2 (fmEq u v)) 1).look.1) (w := tmInn s 0 w 0) (c := tmInn s 0 c 0)
  have Z3 := qc_sz (k := k1) (t := t1) (p := (fmInn s 0 (fmQ k2 t2 (fmEq u v)) 1).look.1) (w := tmInn s 0 w 0) (c := tmInn s 0 c 0)
  have O1 := qx_sz (k := k1) (t := t1) (p := (fmQ k2 t2 (fmEq u v)).ch.1) (w := w) (c := c)
  rw [← P_qw (k := k1) (t := t1) (p := (fmQ k2 t2 (fmEq u v)).ch.1) (s := s) (w := w) (c := c), ← P_qc (k := k1) (t := t1) (p := (fmQ k2 t2 (fmEq u v)).ch.1) (s := s) (w := w) (c := c),
    ← P_qx (k := k2) (t := t2) (p := (tUnit, tUnit))] at cx2
  rw [← P_qx (k := k1) (t := t1) (p := (fmQ k2 t2 (fmEq u v)).ch.1) (s := s) (w := w) (c := c)] at cx
  generalize (fmInn s 0 (fmQ k2 t2 (fmEq u v)) 1).look.1 = zz at *
  generalize hxc : qx k1 t1 zz (tmInn s 0 w 0) (tmInn s 0 c 0) = xc at *
  generalize hwc : qw k1 t1 zz (tmInn s 0 w 0) (tmInn s 0 c 0) = wc at *
  generalize hcc : qc k1 t1 zz (tmInn s 0 w 0) (tmInn s 0 c 0) = cq at *
  generalize hx0 : qx k1 t1 (fmQ k2 t2 (fmEq u v)).ch.1 w c = x at *
  generalize hw0 : qw k1 t1 (fmQ k2 t2 (fmEq u v)).ch.1 w c = w1 at *
  generalize hc0 : qc k1 t1 (fmQ k2 t2 (fmEq u v)).ch.1 w c = c1 at *
  obtain ⟨zx, b3, b4, b5⟩ := with_sz hSa (by omega) ox.gd (by omega) (m L _ (by omega) ox.l) h
  obtain ⟨zxc, d3, d4, d5⟩ := with_sz hSa' (by omega) G1.1 (by omega) (m (L + 1000000) _ (by omega) L1.1) h'
  have q1 : (fmQ k2 t2 (fmEq u v)).qs = 1 := by rw [qs_q hk2 hE.G (by omega), qs_eqn]; rfl
  have q1' : (fmInn s 0 (fmQ k2 t2 (fmEq u v)) 1).qs = 1 := by
    have gu' := (Shp.q_inv (show Shp 1 (fmQ k2 t2 (fmInn s 0 (fmEq u v) (1 + 1))) by rw [← P_q hk2 (by omega) (by omega)]; exact hSa'))
    obtain ⟨_, _, _, _, h0⟩ := gu'
    rw [P_q hk2 (by omega) (by omega)] at hz ⊢
    rw [fmSz_q] at hz
    rw [qs_q hk2 h0.G (by omega), fmInn_eqn, qs_eqn]; rfl
  rw [q1] at b4
  rw [q1'] at d4
  have hsame := seen hSa' (by omega) cx (by omega)
  rw [b3] at h ⊢
  rw [d3] at h' ⊢
  have hxs : tmSz x ≤ 20000 := by omega
  rw [hsame, ← finn_inn0 hL0 (by omega) hs.gd ox.gd hs.l ox.l (by omega) hxs hSa la (by omega)] at h' d4 d5 ⊢
  -- the inner quantifier
  have hSb : Shp 1 (fmInn x 0 (fmQ k2 t2 (fmEq u v)) 0) := hSa.inn ox.gd (m L _ (by omega) ox.l) lsa 0 (by omega) (by omega)
  have lb : (fmInn x 0 (fmQ k2 t2 (fmEq u v)) 0).least (L + 1000000) = true := fleast_inn hL0 (by omega) ox.gd ox.l hSa la 0 (by omega) (by omega)
  have hSb' : Shp 1 (fmInn s 0 (fmInn x 0 (fmQ k2 t2 (fmEq u v)) 0) 0) := hSb.inn hs.gd (m L _ (by omega) hs.l) (fleast_mono (M := L + 1000000) (by omega) hSb lb) 0 (by omega) (by omega)
  have hb : fmInn x 0 (fmQ k2 t2 (fmEq u v)) 0 = fmQ k2 t2 (fmEq (tmInn x 0 u 1) (tmInn x 0 v 1)) := by
    rw [P_q hk2 (by omega) (by omega), show (0 : Int) + 1 = 1 from rfl, fmInn_eqn]
  rw [hb] at h h' b4 d4 d5 hSb hSb' lb ⊢
  clear hb b5
  generalize tmInn x 0 u 1 = u1 at *
  generalize tmInn x 0 v 1 = v1 at *
  have hb' : fmInn s 0 (fmQ k2 t2 (fmEq u1 v1)) 0 = fmQ k2 t2 (fmInn s 0 (fmEq u1 v1) 1) := by
    rw [P_q hk2 (by omega) (by omega), show (0 : Int) + 1 = 1 from rfl]
  rw [hb'] at h' d4 d5 hSb' ⊢
  clear hb'
  obtain ⟨n1, hn1, _, _, hB1⟩ := hSb.q_inv
  obtain ⟨n2, hn2, _, _, hB2⟩ := hSb'.q_inv
  rw [fmSz_q] at b4 d4 d5
  have eb := look_ch hB1.G (by omega)
  have eb' := look_ch hB2.G (by omega)
  rw [ch_eqn] at eb
  rw [ch_inn, ch_eqn] at eb'
  obtain ⟨K, rfl, sw1, sc1, f1⟩ := q_mOf hk2 h
  obtain ⟨K', hK, sw2, sc2, f2⟩ := q_mOf hk2 h'
  obtain rfl : K = K' := by omega
  rw [f1, q_with, eb] at h ⊢
  rw [f2, q_with, eb'] at h' ⊢
  have zw1 := ow.cut sw1
  have zc1 := oc.cut sc1
  have zw2 := G_cut G1.2.1 (by omega) sw2
  have zc2 := G_cut G1.2.2 (by omega) sc2
  have H1 := gz (k := k2) (t := t2) (p := (tUnit, tUnit)) ow.gd oc.gd
  have H2 := gz (k := k2) (t := t2) (p := (tUnit, tUnit)) G1.2.1 G1.2.2
  have K1 := gl (k := k2) (t := t2) (p := (tUnit, tUnit)) hL0 ow.l oc.l
  have K2 := gl (k := k2) (t := t2) (p := (tUnit, tUnit)) (by omega) L1.2.1 L1.2.2
  have Y1 := qx_sz (k := k2) (t := t2) (p := (tUnit, tUnit)) (w := w1) (c := c1)
  have Y2 := qx_sz (k := k2) (t := t2) (p := (tUnit, tUnit)) (w := wc) (c := cq)
  have lb1 := fleast_part lb
  obtain ⟨zx2, g3, g4, g5⟩ := with_sz hB1 (by omega) H1.1 (by omega) (m L _ (by omega) K1.1) h
  obtain ⟨zy2, i3, i4, i5⟩ := with_sz hB2 (by omega) H2.1 (by omega) (m (L + 1000000) _ (by omega) K2.1) h'
  have hq0 : (fmInn s 0 (fmEq u1 v1) 1).qs = 0 := by rw [fmInn_eqn, qs_eqn]
  rw [hq0] at i4
  have hs2 := seen hB2 (by omega) cx2 (by omega)
  rw [g3] at h ⊢
  rw [i3] at h' ⊢
  rw [hs2, ← finn_inn0 (L := L + 1000000) (by omega) (by omega) hs.gd H1.1 (m L _ (by omega) hs.l) (m L _ (by omega) K1.1) (by omega) (by omega) hB1 lb1 (by omega)] at h' ⊢
  rw [fmInn_eqn] at h h' ⊢
  rw [eq_mOf h]
  rw [fmInn_eqn] at h' ⊢
  exact eq_mOf h'
end GoAbs

namespace GoAbs
open Go

theorem fm_key {l : List Fm} {y : Fm} (h : y ∈ l) : fmSz y ≤ fmSzL l := by
  induction l with
  | nil => cases h
  | cons z l ih => rw [fmSzL]; rcases List.mem_cons.1 h with rfl | h; omega; have := ih h; omega

theorem QQE_inv {n : Nat} {a : Fm} (h : Shp n a) {s : Tm} {d : Int} (hd : 0 ≤ d) (hd2 : d ≤ 100) (hq : QQE (fmInn s 0 a d)) :
    ∃ k1 t1 k2 t2 u v, a = fmQ k1 t1 (fmQ k2 t2 (fmEq u v)) ∧ (k1 = 4 ∨ k1 = 5) ∧ (k2 = 4 ∨ k2 = 5) ∧ TyG t1 ∧ TyG t2 ∧ TmG u ∧ TmG v := by
  obtain ⟨k1, t1, k2, t2, u, v, e⟩ := hq
  cases h with
  | eq _ _ => rw [fmInn_eqn] at e; simp [fmQ, fmEq] at e
  | two hk _ _ => rw [fmInn_two] at e; simp [fmQ, fmTwo] at e
  | @q n k t b hk ht hb =>
    rw [P_q hk hd (by omega)] at e
    simp only [fmQ, Fm.mk.injEq, List.cons.injEq, and_true, true_and] at e
    obtain ⟨rfl, rfl, e⟩ := e
    cases hb with
    | eq _ _ => rw [fmInn_eqn] at e; simp [fmEq] at e
    | two hk _ _ => rw [fmInn_two] at e; simp [fmTwo] at e
    | @q n k' t' b hk' ht' hb =>
      rw [P_q hk' (by omega) (by omega)] at e
      simp only [fmQ, Fm.mk.injEq, List.cons.injEq, and_true, true_and] at e
      obtain ⟨rfl, rfl, e⟩ := e
      cases hb with
      | @eq n x y hx hy => exact ⟨k, t, k', t', x, y, rfl, hk, hk', ht, ht', hx, hy⟩
      | two hk _ _ => rw [fmInn_two] at e; simp [fmEq, fmTwo] at e
      | @q n k'' t'' b hk'' ht'' hb => rw [P_q hk'' (by omega) (by omega)] at e; simp [fmEq, fmQ] at e

theorem mOf_put {s : Tm} : ∀ (n : Nat), n ≤ 3 → ∀ (N : Nat) (f : Fm) (g : List Ty) (w c : Tm) (L : Int), Shp n f → fdp f ≤ N → ArgsOk f → fmSz f ≤ 8200 → (n = 3 → Corner f w c) → f.ch.2 = 0 →
    0 ≤ L → L + (n : Int) * 1000000 ≤ 290000000 → f.least L = true → TmOk L g w f.ch.1.1 → TmOk L g c f.ch.1.2 → SubOk L s → tmSz (tmInn s 0 w 0) ≤ 20000 → tmSz (tmInn s 0 c 0) ≤ 20000 → fmSz (fmInn s 0 f 0) ≤ 8200 →
    (ArgsOk (fmInn s 0 f 0) ∨ (n ≤ 2 ∧ QQE (fmInn s 0 f 0) ∧ fmSz (fmInn s 0 f 0) = 4098)) →
    (mOf N f w c).2 = 0 → (mOf N (fmInn s 0 f 0) (tmInn s 0 w 0) (tmInn s 0 c 0)).2 = 0 → (mOf N (fmInn s 0 f 0) (tmInn s 0 w 0) (tmInn s 0 c 0)).1 = fmInn s 0 (mOf N f w c).1 0 := by
  intro n
  induction n with
  | zero =>
    intro hn N f g w c L hS hN hA hz hC hch hL0 hL hl hw hc hs zSw zSc zF hAF h h'
    cases hS with
    | @eq _ x y hx hy =>
      rw [eq_mOf h]
      rw [fmInn_eqn] at h' ⊢
      exact eq_mOf h'
  | succ n ih =>
    intro hn N f g w c L hS hN hA hz hC hch hL0 hL hl hw hc hs zSw zSc zF hAF h h'
    have ih' := ih (by omega)
    have m := fun {t : Tm} (M M' : Int) (hM : M ≤ M') (h : t.least M = true) => least_mono hM t h
    have hzs := hs.sz
    cases hS with
    | @eq _ x y hx hy =>
      rw [eq_mOf h]
      rw [fmInn_eqn] at h' ⊢
      exact eq_mOf h'
    | @two _ k a b hk h1 h2 =>
      obtain ⟨N, rfl⟩ : ∃ M, N = M + 1 := ⟨N - 1, by have := fdp_pos (fmTwo k a b); omega⟩
      obtain ⟨sw, sc⟩ := mOf_size h
      have zw := hw.cut sw
      have zc := hc.cut sc
      have hm := mOf_else h
      rw [hm] at h ⊢
      clear hm
      obtain ⟨ca, cb, cc⟩ := ch_two_ok hch
      have za := hA.1 a (by simp [fmTwo, Fm.args])
      have zb := hA.1 b (by simp [fmTwo, Fm.args])
      rw [fmSz_two] at hz
      rw [fdp_two] at hN
      obtain ⟨la, lb⟩ := fleast_parts2 hl
      have Ga := ch_TyG h1.G ca
      have Gb := ch_TyG h2.G cb
      have ea := look_ch h1.G za
      have eb := look_ch h2.G zb
      rw [P_two hk] at h' zF hAF ⊢
      have hAF' : fmSz (fmInn s 0 a 0) ≤ 4096 ∧ fmSz (fmInn s 0 b 0) ≤ 4096 := by
        rcases hAF with hAF | ⟨_, ⟨k1, t1, k2, t2, u, v, e⟩, _⟩
        · exact ⟨hAF.1 _ (by simp [fmTwo, Fm.args]), hAF.1 _ (by simp [fmTwo, Fm.args])⟩
        · simp [fmQ, fmTwo] at e
      obtain ⟨zFa, zFb⟩ := hAF'
      obtain ⟨sw', sc'⟩ := mOf_size h'
      have gSw := (hw.P hL0 (by omega) hs)
      have gSc := (hc.P hL0 (by omega) hs)
      have zw' := G_cut gSw.1 zSw sw'
      have zc' := G_cut gSc.1 zSc sc'
      have hm := mOf_else h'
      rw [hm] at h' ⊢
      clear hm
      have S1 : Shp n (fmInn s 0 a 0) := h1.inn hs.gd (m L _ (by omega) hs.l) (fleast_mono (M := L) (by omega) h1 la) 0 (by omega) (by omega)
      have S2 : Shp n (fmInn s 0 b 0) := h2.inn hs.gd (m L _ (by omega) hs.l) (fleast_mono (M := L) (by omega) h2 lb) 0 (by omega) (by omega)
      have ea' := look_ch S1.G zFa
      have eb' := look_ch S2.G zFb
      rw [ch_inn] at ea' eb'
      have Ia := ih' N a g
      have Ib := ih' N b g
      rw [cc] at hw hc
      rcases hk with rfl | rfl
      · obtain ⟨w1, w2⟩ := hw.part (a := a.ch.1.1) (b := b.ch.1.1) hL0 (by omega) Ga.1.1 Gb.1.1
        obtain ⟨c1, c2⟩ := hc.part (a := a.ch.1.2) (b := b.ch.1.2) hL0 (by omega) Ga.2.1 Gb.2.1
        have x1 := chPart_sz (k := 11) (a := a.ch.1.1) (b := b.ch.1.1) (t := tmInn s 0 w 0)
        have x2 := chPart_sz (k := 12) (a := b.ch.1.1) (b := a.ch.1.1) (t := tmInn s 0 w 0)
        have x3 := chPart_sz (k := 11) (a := a.ch.1.2) (b := b.ch.1.2) (t := tmInn s 0 c 0)
        have x4 := chPart_sz (k := 12) (a := b.ch.1.2) (b := a.ch.1.2) (t := tmInn s 0 c 0)
        change (mAnd (mOf N) a b w c).2 = 0 at h
        change (mAnd (mOf N) (fmInn s 0 a 0) (fmInn s 0 b 0) (tmInn s 0 w 0) (tmInn s 0 c 0)).2 = 0 at h'
        show (mAnd (mOf N) (fmInn s 0 a 0) (fmInn s 0 b 0) (tmInn s 0 w 0) (tmInn s 0 c 0)).1 = fmInn s 0 (mAnd (mOf N) a b w c).1 0
        unfold mAnd at h h' ⊢
        rw [ea, eb] at h ⊢
        rw [ea', eb', ← P_part (.inl rfl), ← P_part (.inl rfl), ← P_part (.inr rfl), ← P_part (.inr rfl)] at h' ⊢
        refine mTwo_put (.inl rfl) h h' (fun e e' => Ia _ _ L h1 (by omega) (argsOk_of za) (by omega) (fun e => by omega) ca hL0 (by omega) la w1 c1 hs (by rw [P_part (.inl rfl)]; omega) (by rw [P_part (.inl rfl)]; omega) (by omega) (.inl (argsOk_of zFa)) e e')
          (fun e e' => Ib _ _ L h2 (by omega) (argsOk_of zb) (by omega) (fun e => by omega) cb hL0 (by omega) lb w2 c2 hs (by rw [P_part (.inr rfl)]; omega) (by rw [P_part (.inr rfl)]; omega) (by omega) (.inl (argsOk_of zFb)) e e')
      · have Fan : TyF (chFun a.ch.1.1 (chFun b.ch.1.2 a.ch.1.2)) := chFun_F Ga.1.1 (chFun_F Gb.2.1 Ga.2.1)
        have Ffn : TyF (chFun a.ch.1.1 b.ch.1.1) := chFun_F Ga.1.1 Gb.1.1
        obtain ⟨w1, w2⟩ := hw.part (a := chFun a.ch.1.1 b.ch.1.1) (b := chFun a.ch.1.1 (chFun b.ch.1.2 a.ch.1.2)) hL0 (by omega) Ffn Fan
        obtain ⟨c1, c2⟩ := hc.part (a := a.ch.1.1) (b := b.ch.1.2) hL0 (by omega) Ga.1.1 Gb.2.1
        have sz : ∀ W C : Tm, tmSz W ≤ 4096 → tmSz C ≤ 4096 →
            tmSz (chPart 11 a.ch.1.1 b.ch.1.2 C) ≤ 20000 ∧
            tmSz (chCall b.ch.1.2 a.ch.1.2 (chCall a.ch.1.1 (chFun b.ch.1.2 a.ch.1.2) (chPart 12 (chFun a.ch.1.1 (chFun b.ch.1.2 a.ch.1.2)) (chFun a.ch.1.1 b.ch.1.1) W) (chPart 11 a.ch.1.1 b.ch.1.2 C)) (chPart 12 b.ch.1.2 a.ch.1.1 C)) ≤ 20000 ∧
            tmSz (chCall a.ch.1.1 b.ch.1.1 (chPart 11 (chFun a.ch.1.1 b.ch.1.1) (chFun a.ch.1.1 (chFun b.ch.1.2 a.ch.1.2)) W) (chPart 11 a.ch.1.1 b.ch.1.2 C)) ≤ 20000 ∧
            tmSz (chPart 12 b.ch.1.2 a.ch.1.1 C) ≤ 20000 := by
          intro W C hW hCz
          have y1 := chPart_sz (k := 11) (a := chFun a.ch.1.1 b.ch.1.1) (b := chFun a.ch.1.1 (chFun b.ch.1.2 a.ch.1.2)) (t := W)
          have y2 := chPart_sz (k := 12) (a := chFun a.ch.1.1 (chFun b.ch.1.2 a.ch.1.2)) (b := chFun a.ch.1.1 b.ch.1.1) (t := W)
          have y3 := chPart_sz (k := 11) (a := a.ch.1.1) (b := b.ch.1.2) (t := C)
          have y4 := chPart_sz (k := 12) (a := b.ch.1.2) (b := a.ch.1.1) (t := C)
          have y5 := chCall_sz (a := a.ch.1.1) (b := chFun b.ch.1.2 a.ch.1.2) (f := chPart 12 (chFun a.ch.1.1 (chFun b.ch.1.2 a.ch.1.2)) (chFun a.ch.1.1 b.ch.1.1) W) (t := chPart 11 a.ch.1.1 b.ch.1.2 C)
          have y6 := chCall_sz (a := b.ch.1.2) (b := a.ch.1.2) (f := chCall a.ch.1.1 (chFun b.ch.1.2 a.ch.1.2) (chPart 12 (chFun a.ch.1.1 (chFun b.ch.1.2 a.ch.1.2)) (chFun a.ch.1.1 b.ch.1.1) W) (chPart 11 a.ch.1.1 b.ch.1.2 C)) (t := chPart 12 b.ch.1.2 a.ch.1.1 C)
          have y7 := chCall_sz (a := a.ch.1.1) (b := b.ch.1.1) (f := chPart 11 (chFun a.ch.1.1 b.ch.1.1) (chFun a.ch.1.1 (chFun b.ch.1.2 a.ch.1.2)) W) (t := chPart 11 a.ch.1.1 b.ch.1.2 C)
          omega
        obtain ⟨u1, u2, u3, u4⟩ := sz _ _ zw' zc'
        have y2 := chPart_sz (k := 12) (a := chFun a.ch.1.1 (chFun b.ch.1.2 a.ch.1.2)) (b := chFun a.ch.1.1 b.ch.1.1) (t := w)
        have y3 := chPart_sz (k := 11) (a := a.ch.1.1) (b := b.ch.1.2) (t := c)
        have y1 := chPart_sz (k := 11) (a := chFun a.ch.1.1 b.ch.1.1) (b := chFun a.ch.1.1 (chFun b.ch.1.2 a.ch.1.2)) (t := w)
        have y4 := chPart_sz (k := 12) (a := b.ch.1.2) (b := a.ch.1.1) (t := c)
        have z1 := w2.call hL0 c1 (by omega) (chFun_F Gb.2.1 Ga.2.1)
        have y5 := chCall_sz (a := a.ch.1.1) (b := chFun b.ch.1.2 a.ch.1.2) (f := chPart 12 (chFun a.ch.1.1 (chFun b.ch.1.2 a.ch.1.2)) (chFun a.ch.1.1 b.ch.1.1) w) (t := chPart 11 a.ch.1.1 b.ch.1.2 c)
        have z2 := z1.call hL0 c2 (by omega) Ga.2.1
        have z3 := w1.call hL0 c1 (by omega) Gb.1.1
        change (mImp (mOf N) a b w c).2 = 0 at h
        change (mImp (mOf N) (fmInn s 0 a 0) (fmInn s 0 b 0) (tmInn s 0 w 0) (tmInn s 0 c 0)).2 = 0 at h'
        show (mImp (mOf N) (fmInn s 0 a 0) (fmInn s 0 b 0) (tmInn s 0 w 0) (tmInn s 0 c 0)).1 = fmInn s 0 (mImp (mOf N) a b w c).1 0
        unfold mImp at h h' ⊢
        rw [ea, eb] at h ⊢
        rw [ea', eb'] at h' ⊢
        simp only [← P_part (s := s) (k := 11) (.inl rfl), ← P_part (s := s) (k := 12) (.inr rfl), ← P_call (s := s)] at h' u1 u2 u3 u4 ⊢
        refine mTwo_put (.inr rfl) h h' (fun e e' => Ia _ _ L h1 (by omega) (argsOk_of za) (by omega) (fun e => by omega) ca hL0 (by omega) la c1 z2 hs u1 u2 (by omega) (.inl (argsOk_of zFa)) e e')
          (fun e e' => Ib _ _ L h2 (by omega) (argsOk_of zb) (by omega) (fun e => by omega) cb hL0 (by omega) lb z3 c2 hs u3 u4 (by omega) (.inl (argsOk_of zFb)) e e')
    | @q _ k t a hk ht h1 =>
      obtain ⟨ca, cc⟩ := ch_q_ok hch
      have za := hA.1 a (by simp [fmQ, Fm.args])
      have la := fleast_part hl
      rcases hAF with hAF | ⟨hn2, hq, h98⟩
      case inr =>
        obtain ⟨k1, t1, k2, t2, u, v, e, hk1, hk2, ht1, ht2, gu, gv⟩ := QQE_inv (.q hk ht h1) (by omega) (by omega) hq
        simp only [fmQ, Fm.mk.injEq, List.cons.injEq, and_true, true_and] at e
        obtain ⟨rfl, rfl, rfl⟩ := e
        exact mOf_corner hL0 (by omega) hs hk1 hk2 ht1 ht2 gu gv za hch hw hc zSw zSc hl h98 h h'
      have Ga := ch_TyG h1.G ca
      have ea := look_ch h1.G za
      have lsa : a.least 536870912 = true := fleast_mono (M := L) (by omega) h1 la
      have hfd : fdp a + 1 ≤ N := by rw [fmQ, fdp, fdpL, fdpL] at hN; omega
      rw [P_q hk (by omega) (by omega), show (0 : Int) + 1 = 1 from rfl] at h' zF hAF ⊢
      have zFa := hAF.1 (fmInn s 0 a 1) (by simp [fmQ, Fm.args])
      obtain ⟨M, rfl, sw, sc, e1⟩ := q_mOf hk h
      have zw := hw.cut sw
      have zc := hc.cut sc
      rw [e1, q_with, ea] at h ⊢
      rw [cc] at hw hc
      obtain ⟨ox, ow, oc⟩ := q_ok hL0 hk ht Ga hw hc zw zc
      obtain ⟨M', hM, sw', sc', e1'⟩ := q_mOf hk h'
      obtain rfl : M = M' := by omega
      have gSw := (hw.P hL0 (by omega) hs)
      have gSc := (hc.P hL0 (by omega) hs)
      have zw' := G_cut gSw.1 zSw sw'
      have zc' := G_cut gSc.1 zSc sc'
      have hSa' : Shp n (fmInn s 0 a 1) := h1.inn hs.gd (m L _ (by omega) hs.l) lsa 1 (by omega) (by omega)
      have ea' := look_ch hSa'.G zFa
      rw [ch_inn] at ea'
      rw [e1', q_with, ea', ← P_qx, ← P_qw, ← P_qc] at h' ⊢
      have O1 := qx_sz (k := k) (t := t) (p := a.ch.1) (w := w) (c := c)
      have Z1 := qx_sz (k := k) (t := t) (p := a.ch.1) (w := tmInn s 0 w 0) (c := tmInn s 0 c 0)
      have Z2 := qw_sz (k := k) (t := t) (p := a.ch.1) (w := tmInn s 0 w 0) (c := tmInn s 0 c 0)
      have Z3 := qc_sz (k := k) (t := t) (p := a.ch.1) (w := tmInn s 0 w 0) (c := tmInn s 0 c 0)
      rw [← P_qx] at Z1
      rw [← P_qw] at Z2
      rw [← P_qc] at Z3
      generalize qx k t a.ch.1 w c = x at *
      generalize qw k t a.ch.1 w c = w1 at *
      generalize qc k t a.ch.1 w c = c1 at *
      have gSx := ox.P hL0 (by omega) hs
      obtain ⟨zx, b3, b4, b5⟩ := with_sz h1 (by omega) ox.gd (by omega) (m L _ (by omega) ox.l) h
      obtain ⟨zSx, d3, d4, d5⟩ := with_sz hSa' (by omega) gSx.1 (by omega) (m (L + 1000000) _ (by omega) gSx.2) h'
      have hqr := qs_range h1.G (by omega)
      have hqr' := qs_range hSa'.G (by omega)
      have hF := finn_inn0 hL0 (by omega) hs.gd ox.gd hs.l ox.l (by omega) (by omega) h1 la (by omega)
      have esp : a.sp x = fmInn x 0 a 0 := fsp_inn ox.gd (by omega) (m L _ (by omega) ox.l) h1.G 0 (by omega) (by omega)
      rw [b3] at h ⊢
      rw [d3, ← hF] at h' ⊢
      have hAr := argsOk_inn (x := x) (by omega) h1 za b4 (fun hq => by
        obtain ⟨k1, s1', k2, s2', u, v, e⟩ := hq
        have hn2 : n = 2 := by
          subst e
          obtain ⟨_, e1, _, _, h3⟩ := h1.q_inv
          obtain ⟨_, e2, _, _, _⟩ := h3.q_inv
          omega
        have := hC (by omega) k t a rfl ⟨k1, s1', k2, s2', u, v, e⟩
        have hm2 : fmOcc a 0 * (tmSz x - 1) ≤ fmOcc a 0 * (max (tmSz w) (tmSz c)) := Nat.mul_le_mul_left _ (by omega)
        omega)
      have hl' := fleast_inn hL0 (by omega) ox.gd ox.l h1 la 0 (by omega) (by omega)
      have up : ∀ {t : Tm} {ty : Ty}, TmOk L g t ty → TmOk (L + 1000000) g t ty := fun h => ⟨h.gd, h.sz, least_mono (by omega) _ h.l, h.ty⟩
      have hcor : ArgsOk (fmInn s 0 (fmInn x 0 a 0) 0) ∨ (n ≤ 2 ∧ QQE (fmInn s 0 (fmInn x 0 a 0) 0) ∧ fmSz (fmInn s 0 (fmInn x 0 a 0) 0) = 4098) := by
        by_cases hq : QQE (fmInn s 0 a 1) ∧ 4096 < fmSz (fmInn s 0 (fmInn x 0 a 0) 0)
        · obtain ⟨hq, hbig⟩ := hq
          obtain ⟨k1, t1, k2, t2, u, v, rfl, hk1, hk2, ht1, ht2, gu, gv⟩ := QQE_inv h1 (by omega) (by omega) hq
          rw [← hF] at d4
          have q2 : (fmInn s 0 (fmQ k1 t1 (fmQ k2 t2 (fmEq u v))) 1).qs = 2 := by
            have e : fmInn s 0 (fmQ k1 t1 (fmQ k2 t2 (fmEq u v))) 1 = fmQ k1 t1 (fmQ k2 t2 (fmInn s 0 (fmEq u v) (1 + 1 + 1))) := by
              rw [P_q hk1 (by omega) (by omega), P_q hk2 (by omega) (by omega)]
            rw [e] at hSa' zFa ⊢
            rw [fmSz_q, fmSz_q] at zFa
            obtain ⟨_, _, _, _, h3⟩ := hSa'.q_inv
            obtain ⟨_, _, _, _, h4⟩ := h3.q_inv
            rw [qs_q hk1 h3.G (by rw [fmSz_q]; omega), qs_q hk2 h4.G (by omega), fmInn_eqn, qs_eqn]; rfl
          rw [q2] at d4
          have e : fmInn s 0 (fmInn x 0 (fmQ k1 t1 (fmQ k2 t2 (fmEq u v))) 0) 0 = fmQ k1 t1 (fmQ k2 t2 (fmInn s 0 (fmInn x 0 (fmEq u v) (0 + 1 + 1)) (0 + 1 + 1))) := by
            rw [P_q hk1 (by omega) (by omega), P_q hk2 (by omega) (by omega), P_q hk1 (by omega) (by omega), P_q hk2 (by omega) (by omega)]
          rw [e] at hbig d4 ⊢
          by_cases h98 : fmSz (fmQ k1 t1 (fmQ k2 t2 (fmInn s 0 (fmInn x 0 (fmEq u v) (0 + 1 + 1)) (0 + 1 + 1)))) = 4098
          · exact .inr ⟨by omega, ⟨k1, t1, k2, t2, _, _, by rw [fmInn_eqn, fmInn_eqn]⟩, h98⟩
          · refine .inl ⟨fun y hy => ?_, fun e => by simp [fmQ, Fm.args] at e⟩
            simp only [fmQ, Fm.args, List.mem_cons, List.not_mem_nil, or_false] at hy
            subst hy
            rw [fmSz_q] at d4 h98
            change fmSz (fmQ k2 t2 _) ≤ 4096
            omega
        · refine .inl ?_
          rw [hF]
          refine argsOk_inn (x := tmInn s 0 x 0) (by omega) hSa' zFa d4 (fun hq' => ?_)
          rw [hF] at hq
          exact Nat.le_of_not_lt fun hlt => hq ⟨hq', hlt⟩
      refine ih' M _ g w1 c1 (L + 1000000) (h1.inn ox.gd (m L _ (by omega) ox.l) lsa 0 (by omega) (by omega)) (by rw [← esp, Fm.sp, fdp_evx]; omega) hAr (by omega) (fun e => by omega) (by rw [ch_inn]; exact ca) (by omega) (by omega) hl'
        (by rw [ch_inn]; exact up ow) (by rw [ch_inn]; exact up oc) ⟨hs.gd, hs.sz, m L _ (by omega) hs.l⟩ (by omega) (by omega) (by rw [hF]; omega) hcor h h'
end GoAbs

namespace GoAbs
open Go

def tmPut (t : Tm) (a : Int) (s : Tm) : Tm × Int :=
  if tmErr t != 0 then (zeroT, tmErr t)
  else if decide (a < 0) || decide (a > 4096) then (zeroT, 1)
  else if tmErr s != 0 then (zeroT, tmErr s)
  else if !t.least 536870912 || !s.least 536870912 then (zeroT, 1)
  else if decide (addW t.szW (mulW (t.times a) (subW s.szW 1)) > 4096) then (zeroT, 4)
  else (tmInn s a t 0, 0)

theorem mulW_eq {a b : Int} (h0 : 0 ≤ a) (h1 : a ≤ 1000000) (h2 : 0 ≤ b) (h3 : b ≤ 1000000) : mulW a b = a * b := by
  have : a * b ≤ 1000000 * 1000000 := Int.mul_le_mul h1 h3 h2 (by omega)
  have : 0 ≤ a * b := Int.mul_nonneg h0 h2
  exact wrap_eq rfl (by omega) (by omega)

theorem tmPut_ok {t s : Tm} (ht : TmG t) (hs : TmG s) (zt : tmSz t ≤ 20000) (zs : tmSz s ≤ 20000) (h : (tmPut t 0 s).2 = 0) : tmPut t 0 s = (tmInn s 0 t 0, 0) ∧ tmSz (tmInn s 0 t 0) ≤ 4096 := by
  unfold tmPut at h ⊢
  have p := tmSz_pos s
  split at h
  · rename_i h1; simp only at h; rw [h] at h1; simp at h1
  · rename_i h1
    rw [if_neg h1]
    split at h
    · cases h
    · rename_i h2
      rw [if_neg h2]
      split at h
      · rename_i h3; simp only at h; rw [h] at h3; simp at h3
      · rename_i h3
        rw [if_neg h3]
        split at h
        · cases h
        · rename_i h4
          rw [if_neg h4]
          split at h
          · cases h
          · rename_i h5
            rw [if_neg h5]
            refine ⟨rfl, ?_⟩
            have o := tmOcc_le t 0
            rw [ht.times_occ _ (Nat.le_refl _) 0 (by omega) (by omega), t.szW_nodes _ (ht.nodes_val (by omega)), s.szW_nodes _ (hs.nodes_val (by omega)), subW_eq (by omega) (by omega) (by omega) (by omega), mulW_eq (by omega) (by omega) (by omega) (by omega)] at h5
            have hm : (tmOcc t 0 : Int) * ((tmSz s : Int) - 1) = ((tmOcc t 0 * (tmSz s - 1) : Nat) : Int) := by
              rw [Int.natCast_mul]; congr 1; omega
            have hb : tmOcc t 0 * (tmSz s - 1) ≤ 20000 * 20000 := Nat.mul_le_mul (by omega) (by omega)
            rw [hm, addW_eq (by omega) (by omega) (by omega) (by omega)] at h5
            rw [TmG.inn_sz _ ht (Nat.le_refl _) 0 (by omega) (by omega)]
            have := of_decide_eq_false (Bool.eq_false_iff.2 h5)
            omega

theorem fmPut_okF {f : Fm} {s : Tm} (hf : FmG false f) (hs : TmG s) (zf : fmSz f ≤ 20000) (zs : tmSz s ≤ 20000) (h : (fmPut f 0 s).2 = 0) : fmPut f 0 s = (fmInn s 0 f 0, 0) ∧ fmSz (fmInn s 0 f 0) ≤ 4096 := by
  unfold fmPut at h ⊢
  have p := tmSz_pos s
  split at h
  · rename_i h1; simp only at h; rw [h] at h1; simp at h1
  · rename_i h1
    rw [if_neg h1]
    split at h
    · cases h
    · rename_i h2
      rw [if_neg h2]
      split at h
      · rename_i h3; simp only at h; rw [h] at h3; simp at h3
      · rename_i h3
        rw [if_neg h3]
        split at h
        · cases h
        · rename_i h4
          rw [if_neg h4]
          split at h
          · cases h
          · rename_i h5
            rw [if_neg h5]
            refine ⟨rfl, ?_⟩
            have o := fmOcc_le f 0
            rw [hf.times_occ 0 (by omega) (by omega), f.szW_nodes _ (hf.nodes_val (by omega)), s.szW_nodes _ (hs.nodes_val (by omega)), subW_eq (by omega) (by omega) (by omega) (by omega), mulW_eq (by omega) (by omega) (by omega) (by omega)] at h5
            have hm : (fmOcc f 0 : Int) * ((tmSz s : Int) - 1) = ((fmOcc f 0 * (tmSz s - 1) : Nat) : Int) := by
              rw [Int.natCast_mul]; congr 1; omega
            have hb : fmOcc f 0 * (tmSz s - 1) ≤ 20000 * 20000 := Nat.mul_le_mul (by omega) (by omega)
            rw [hm, addW_eq (by omega) (by omega) (by omega) (by omega)] at h5
            rw [hf.inn_sz 0 (by omega) (by omega)]
            have := of_decide_eq_false (Bool.eq_false_iff.2 h5)
            omega

/-- The law of MatrixPut. -/
theorem law_matPut {g : List Ty} {f : Fm} {w c s : Tm} (hm : MkFm false 3 (g ++ [tNat]) f) (hg : ∀ y ∈ g, MkTy 1 y) (hgl : g.length ≤ 9) (ok : f.look.2 = 0)
    (mw : MkTm 2 (g ++ [tNat]) f.look.1.1 w) (mc : MkTm 2 (g ++ [tNat]) f.look.1.2 c) (ms : MkTm 2 g tNat s) (h : (matF f w c).2 = 0)
    (p1 : (fmPut (matF f w c).1 0 s).2 = 0) (p2 : (fmPut f 0 s).2 = 0) (p3 : (tmPut w 0 s).2 = 0) (p4 : (tmPut c 0 s).2 = 0) :
    (matF (fmPut f 0 s).1 (tmPut w 0 s).1 (tmPut c 0 s).1).2 = 4 ∨
    ((matF (fmPut f 0 s).1 (tmPut w 0 s).1 (tmPut c 0 s).1).2 = 0 ∧ (matF (fmPut f 0 s).1 (tmPut w 0 s).1 (tmPut c 0 s).1).1 = (fmPut (matF f w c).1 0 s).1) := by
  have hg1 : ∀ y ∈ g ++ [tNat], MkTy 1 y := by
    intro y hy
    rcases List.mem_append.1 hy with hy | hy
    · exact hg y hy
    · simp at hy; subst hy; exact .nat
  have hgood := law_matFree hm hg1 (by simp; omega) ok mw mc
  have hgG : ∀ y ∈ g ++ [tNat], TyG y := fun y hy => (hg1 y hy).G (by omega)
  have hgG0 : ∀ y ∈ g, TyG y := fun y hy => (hg y hy).G (by omega)
  have hgF : ∀ y ∈ g ++ [tNat], TyF y := fun y hy => (hg1 y hy).F
  have hg3 : ∀ y ∈ g ++ [tNat], tySz y ≤ 3 := fun y hy => (hg1 y hy).sz1
  have hG := hm.G hgG
  rcases hG.look with ⟨he, el, e0, g1, g2⟩ | e4
  case inr => rw [ok] at e4; cases e4
  have hsz : fmSz f ≤ 4096 := by
    rcases Nat.lt_or_ge 4096 (fmSz f) with h | h
    · exfalso
      have hz := hm.sz hg3
      rw [hG.err_val (by have : 2 ^ 3 = 8 := rfl; omega), if_neg (by omega)] at he
      cases he
    · exact h
  rw [el] at mw mc
  have b2 : bndT 64 2 = 1888 := rfl
  have hg64 : ∀ y ∈ g ++ [tNat], tySz y ≤ 64 := fun y hy => by have := hg3 y hy; omega
  have hg640 : ∀ y ∈ g, tySz y ≤ 64 := fun y hy => (hgG0 y hy).2
  have n1 := tySz_nat
  have zw := (mw.sz (M := 64) (by omega) hg64 g1.2).1
  have zc := (mc.sz (M := 64) (by omega) hg64 g2.2).1
  have zs := (ms.sz (M := 64) (by omega) hg640 (by omega)).1
  have lf := hm.least (m := 10000) (by omega) hg3 (by simp; omega)
  have lw := mw.least (M := 64) (m := 10000) (by omega) (by omega) hg64 g1.2 (by have := g1.2; simp; omega)
  have lc := mc.least (M := 64) (m := 10000) (by omega) (by omega) hg64 g2.2 (by have := g2.2; simp; omega)
  have ls := ms.least (M := 64) (m := 10000) (by omega) (by omega) hg640 (by omega) (by omega)
  have Gw := mw.G hgG g1
  have Gc := mc.G hgG g2
  have Gs := ms.G hgG0 .nat
  have hS := Shp.of hm hgG
  have ow : TmOk 10000 (g ++ [tNat]) w f.ch.1.1 := ⟨Gw, by omega, by simpa using lw, mw.tyF hgF g1.1⟩
  have oc : TmOk 10000 (g ++ [tNat]) c f.ch.1.2 := ⟨Gc, by omega, by simpa using lc, mc.tyF hgF g2.1⟩
  have os : SubOk 10000 s := ⟨Gs, by omega, by simpa using ls⟩
  rcases hgood with h4 | ⟨_, hgood⟩
  · rw [h] at h4; cases h4
  obtain ⟨q1, _⟩ := fmPut_okF hgood.gd Gs (by have := hgood.sz; omega) (by omega) p1
  obtain ⟨q2, z2⟩ := fmPut_okF hG Gs (by omega) (by omega) p2
  obtain ⟨q3, z3⟩ := tmPut_ok Gw Gs (by omega) (by omega) p3
  obtain ⟨q4, z4⟩ := tmPut_ok Gc Gs (by omega) (by omega) p4
  rw [q1, q2, q3, q4]
  clear p1 p2 p3 p4 q1 q2 q3 q4
  have gw := ow.P (by omega) (by omega) os
  have gc := oc.P (by omega) (by omega) os
  have lsf : f.least 10000 = true := by simpa using lf
  have hS' : Shp 3 (fmInn s 0 f 0) := hS.inn Gs (least_mono (by omega) _ os.l) (fleast_mono (M := 10000) (by omega) hS lsf) 0 (by omega) (by omega)
  have hl' := fleast_inn (M := 10000) (by omega) (by omega) Gs os.l hS lsf 0 (by omega) (by omega)
  have ok' : (fmInn s 0 f 0).look.2 = 0 := by rw [look_ch hS'.G z2, ch_inn]; exact e0
  rcases matF_code ok (fleast_mono (M := 10000) (by omega) hS lsf) (least_mono (by omega) _ ow.l) (least_mono (by omega) _ oc.l) (Gw.err04 (by omega)) (Gc.err04 (by omega)) with h4 | ⟨h0, hq⟩
  · rw [h] at h4; cases h4
  rcases matF_code ok' (fleast_mono (M := 10000 + 1000000) (by omega) hS' hl') (least_mono (show (10000 : Int) + 1000000 ≤ 268435456 by omega) _ gw.2) (least_mono (show (10000 : Int) + 1000000 ≤ 268435456 by omega) _ gc.2) (gw.1.err04 (by omega)) (gc.1.err04 (by omega)) with h4 | ⟨h0', hq'⟩
  · exact .inl h4
  · right
    refine ⟨h0', ?_⟩
    rw [hq] at h0 ⊢
    rw [hq'] at h0' ⊢
    have efd : fdp (fmInn s 0 f 0) = fdp f := by
      have esp : f.sp s = fmInn s 0 f 0 := fsp_inn Gs (by omega) (least_mono (by omega) _ os.l) hG 0 (by omega) (by omega)
      rw [← esp, Fm.sp, fdp_evx]
    rw [efd] at h0' ⊢
    refine mOf_put 3 (by omega) _ f (g ++ [tNat]) w c 10000 hS (Nat.le_refl _) (argsOk_of hsz) (by omega) (fun _ => ?_) e0 (by omega) (by omega) lsf ow oc os (by omega) (by omega) (by omega) (.inl (argsOk_of z2)) h0 h0'
    rintro k s' a rfl ⟨k1, s1, k2, s2, x, y, rfl⟩
    obtain ⟨m1, h1, hk⟩ := mk_q_inv hm
    obtain ⟨m2, h2, hk1⟩ := mk_q_inv h1
    obtain ⟨m3, h3, hk2⟩ := mk_q_inv h2
    obtain ⟨hx, hy⟩ := mk_eq_inv h3
    have hctx : ∀ z ∈ g ++ [tNat] ++ [s'] ++ [s1] ++ [s2], MkTy 1 z := by
      intro z hz
      rcases List.mem_append.1 hz with hz | hz
      · rcases List.mem_append.1 hz with hz | hz
        · rcases List.mem_append.1 hz with hz | hz
          · exact hg1 z hz
          · simp at hz; subst hz; exact m1.up (by omega)
        · simp at hz; subst hz; exact m2.up (by omega)
      · simp at hz; subst hz; exact m3.up (by omega)
    obtain ⟨x1, x2⟩ := hx.one hctx
    obtain ⟨y1, y2⟩ := hy.one hctx
    have q1 := (ch_q_ok e0).1
    have q2 := (ch_q_ok q1).1
    have t0 : tySz (fmEq x y).ch.1.1 ≤ 1 ∧ tySz (fmEq x y).ch.1.2 ≤ 1 := by rw [ch_eqn]; exact ⟨by rw [tySz_unit]; omega, by rw [tySz_unit]; omega⟩
    have t1 := ch_q_sz hk2 q2 m3.sz0 t0.1 t0.2
    have t2 := ch_q_sz hk1 q1 m2.sz0 t1.1 t1.2
    have t3 := ch_q_sz hk e0 m1.sz0 t2.1 t2.2
    have b7 : bndT 7 2 = 349 := rfl
    have hg7 : ∀ y ∈ g ++ [tNat], tySz y ≤ 7 := fun y hy => by have := hg3 y hy; omega
    have zw7 := (mw.sz (M := 7) (by omega) hg7 (by omega)).1
    have zc7 := (mc.sz (M := 7) (by omega) hg7 (by omega)).1
    have oq : ∀ {k : Int} (hk : k = 4 ∨ k = 5) {t : Ty} {z : Fm} {d : Int}, fmOcc (fmQ k t z) d = fmOcc z (d + 1) := fun hk => fmOcc_q (by rcases hk with h | h; exact .inl h; exact .inr (.inl h))
    rw [fmSz_q, fmSz_q, fmSz_eq, oq hk1, oq hk2, fmOcc_eq]
    have o1 := x2 (0 + 1 + 1) (by omega)
    have o2 := y2 (0 + 1 + 1) (by omega)
    have : (tmOcc x (0 + 1 + 1) + tmOcc y (0 + 1 + 1)) * max (tmSz w) (tmSz c) ≤ 6 * 349 := Nat.mul_le_mul (by omega) (by omega)
    omega
end GoAbs
