/-
  Walks: typed matrices (references): well typed, or the error of a size; formulas without quantifiers.
-/
import Derived.Test.YtnhjlnkogoihhaaGreatDoorHl
import Derived.Test.YtnhjlnkogoihhaaGreatDoorVc
import Derived.Test.YtnhjlnkogoihhaaGreatDoorAbsD
set_option linter.unusedSimpArgs false
set_option linter.unusedVariables false
set_option maxRecDepth 20000
set_option maxHeartbeats 4000000
namespace Go.Proofs.YtnhjlnkogoihhaaGreatDoor
open Go GoAbs Go.Proofs

theorem TmG_ty {t : Tm} (h : TmG t) (hk : typed t.kind = true) : TyG t.type := by
  cases h with
  | plain ha hl ht h => simp [tm0, Tm.kind] at hk; rw [hk] at ht; cases ht
  | var hi => simp [tmVar, Tm.kind, typed] at hk
  | typd ha hl ht hg h => exact hg

theorem HasTy_G {g : List Ty} {t : Tm} {s : Ty} (h : HasTy TyG g t s) : (∀ y ∈ g, TyG y) → TmG t → TyG s := by
  have n2 : ∀ {a b : Ty}, TyG (tFun a b) → TyG a ∧ TyG b := by
    intro a b h
    obtain ⟨h1, h2⟩ := h
    rw [tySz_fun] at h2
    cases h1 with
    | func ha hb => exact ⟨⟨ha, by omega⟩, ⟨hb, by omega⟩⟩
  induction h with
  | var hi h => exact fun hg _ => hg _ (List.mem_of_getElem? h)
  | lam ht _ _ => exact fun _ _ => ht
  | n0 hN => intro _ _; cases hN <;> first | exact TyG.nat | exact TyG.list | exact TyG.unit
  | n1 hN _ h1 =>
    intro hg hw
    have w1 := h1 hg (hw.arg (by simp [tmT, Tm.args]))
    cases hN with
    | succ => exact TyG.nat
    | fst => exact w1.pair1.1
    | snd => exact w1.pair1.2
  | n2 hN _ _ h1 h2 =>
    intro hg hw
    have w1 := h1 hg (hw.arg (by simp [tmT, Tm.args]))
    cases hN with
    | app => exact (n2 w1).2
    | cons => exact TyG.list
    | pair hp => exact hp
  | n3 hN _ _ _ h1 h2 h3 =>
    intro hg hw
    have w1 := h1 hg (hw.arg (by simp [tmT, Tm.args]))
    cases hN with
    | recr => exact w1
    | fold => exact w1

theorem c_lamErr (g : List Ty) (hgl : g.length ≤ 1000000) (a : Ty) (t : Tm)
    (hc : Pure Tryz.prog env 190 [.sl .any ((g ++ [a]).map Ty.cells), .agg t.cells] (.tup [.agg [.int .i64 0, .sl .any []], .int .i64 4])) :
    Pure Tryz.prog env 190 [.sl .any (g.map Ty.cells), .agg (tmT 2 a [t]).cells] (.tup [.agg [.int .i64 0, .sl .any []], .int .i64 4]) := by
  intro h
  have e1 : (tmT 2 a [t]).kind = 2 := rfl
  have e2 : (tmT 2 a [t]).type = a := rfl
  have e3 : (tmT 2 a [t]).args = [t] := rfl
  have n4 : ((4 : Int) != 0) = true := rfl
  have hwk : weakLL (g.map Ty.cells ++ [a.cells]) = (g ++ [a]).map Ty.cells := by rw [← weakLL_Ty (g ++ [a])]; simp
  have b3 : (g.length + 1) * 32 ≤ 140737488355328 := by omega
  have b4 : g.length + 1 ≤ 140737488355328 := by omega
  have t1 : (0 : Int) ≤ (g.length : Int) := by omega
  have t2 : ((g.length : Int)).toNat = g.length := Int.toNat_natCast _
  have t3 : List.take g.length (g.map Ty.cells) = g.map Ty.cells := List.take_of_length_le (by simp)
  have t4 : 0 ≤ g.length := by omega
  have t5 : g.length ≤ g.length := Nat.le_refl _
  have mn : ∀ (f : Operand → V), Option.map f none = none := fun _ => rfl
  have ml : (g.map Ty.cells).length = g.length := by simp
  generalize tmT 2 a [t] = x at *
  refine enter Tryz.func190 [.cell 4 25, .tmp 5] rfl (by kernel_rfl) follows (by kernel_rfl) rfl fun g0 w0 gen hrel hfr hfr' hres => ?_
  repeat' (first
    | (refine ⟨?_, ?_⟩; focus ((repeat' (first | refine And.intro ?_ ?_ | refine Or.inr ?_)); all_goals kernel_rfl))
    | exact hin _ | exact agf (by assumption)
    | (first | refine wp rfl ?_ | refine spt rfl ?_ | refine spf rfl ?_ | (refine spl (fun hc => ?_) fun hc => ?_) <;> (try rw [beq_iff_eq] at hc) <;> try simp only [hc] | (refine guarded_split (fun hb => ?_) fun hb => ?_) <;> try simp only [Bool.not_true, Bool.not_false] at hb | refine Call1_pure (hc) ?_ | refine finF hrel ?_ ?_ ?_) <;> try simp only [go_sem, *])

theorem c_lamBig (g : List Ty) (hgl : g.length ≤ 1000000) (a b : Ty) (t : Tm) (hwa : TyW a) (wb : TyW b) (hp : TyF (tFun a b)) (hs : tySz (tFun a b) ≤ 1000) (hb : ¬ tySz (tFun a b) ≤ 64)
    (hc : Pure Tryz.prog env 190 [.sl .any ((g ++ [a]).map Ty.cells), .agg t.cells] (.tup [.agg b.cells, .int .i64 0])) :
    Pure Tryz.prog env 190 [.sl .any (g.map Ty.cells), .agg (tmT 2 a [t]).cells] (.tup [.agg [.int .i64 0, .sl .any []], .int .i64 4]) := by
  intro h
  have e1 : (tmT 2 a [t]).kind = 2 := rfl
  have e2 : (tmT 2 a [t]).type = a := rfl
  have e3 : (tmT 2 a [t]).args = [t] := rfl
  have n0 : ((0 : Int) != 0) = false := rfl
  have r1 := c_refFun a b hwa wb
  have r2 := c_okBig _ hp.W (TyF_err4 hp hs hb)
  have hwk : weakLL (g.map Ty.cells ++ [a.cells]) = (g ++ [a]).map Ty.cells := by rw [← weakLL_Ty (g ++ [a])]; simp
  have b3 : (g.length + 1) * 32 ≤ 140737488355328 := by omega
  have b4 : g.length + 1 ≤ 140737488355328 := by omega
  have t1 : (0 : Int) ≤ (g.length : Int) := by omega
  have t2 : ((g.length : Int)).toNat = g.length := Int.toNat_natCast _
  have t3 : List.take g.length (g.map Ty.cells) = g.map Ty.cells := List.take_of_length_le (by simp)
  have t4 : 0 ≤ g.length := by omega
  have t5 : g.length ≤ g.length := Nat.le_refl _
  have mn : ∀ (f : Operand → V), Option.map f none = none := fun _ => rfl
  have ml : (g.map Ty.cells).length = g.length := by simp
  generalize tmT 2 a [t] = x at *
  clear hwa wb hp hs hb
  refine enter Tryz.func190 [.cell 4 25, .tmp 5] rfl (by kernel_rfl) follows (by kernel_rfl) rfl fun g0 w0 gen hrel hfr hfr' hres => ?_
  repeat' (first
    | (refine ⟨?_, ?_⟩; focus ((repeat' (first | refine And.intro ?_ ?_ | refine Or.inr ?_)); all_goals kernel_rfl))
    | exact hin _ | exact agf (by assumption)
    | (first | refine wp rfl ?_ | refine spt rfl ?_ | refine spf rfl ?_ | (refine spl (fun hc => ?_) fun hc => ?_) <;> (try rw [beq_iff_eq] at hc) <;> try simp only [hc] | (refine guarded_split (fun hb => ?_) fun hb => ?_) <;> try simp only [Bool.not_true, Bool.not_false] at hb | refine Call1_pure (hc) ?_ | refine Call1_pure (r1) ?_ | refine Call1_pure (r2) ?_ | refine finF hrel ?_ ?_ ?_) <;> try simp only [go_sem, *])

/-- A term is of its type with all types small, or the reference answers the error of a size. -/
theorem c_inferF {g : List Ty} {t : Tm} {s : Ty} (h : HasTy TyF g t s) : (∀ y ∈ g, TyG y) → TmG t → TmW t → g.length + tmSz t ≤ 1000000 →
    HasTy TyG g t s ∨ Pure Tryz.prog env 190 [.sl .any (g.map Ty.cells), .agg t.cells] (.tup [.agg [.int .i64 0, .sl .any []], .int .i64 4]) := by
  induction h with
  | @var g i t hi hg => intro _ _ _ _; exact .inl (.var hi hg)
  | @lam g a b t ht _ ih =>
    intro hg hG hW hb
    rw [tmSz_T1] at hb
    have ga : TyG a := TmG_ty hG rfl
    have gt : TmG t := hG.arg (by simp [tmT, Tm.args])
    have wt : TmW t := hW.arg (by simp [tmT, Tm.args])
    have hg' : ∀ y ∈ g ++ [a], TyG y := by intro y hy; rcases List.mem_append.1 hy with hy | hy; exact hg y hy; simp at hy; subst hy; exact ga
    rcases ih hg' gt wt (by simp; omega) with h1 | h1
    · have gb := HasTy_G h1 hg' gt
      by_cases hs : tySz (tFun a b) ≤ 64
      · exact .inl (.lam ⟨ht, hs⟩ h1)
      · have hc := c_infer h1 (fun y hy => (hg' y hy).1.W) wt (by simp; omega)
        exact .inr (c_lamBig g (by omega) a b t ga.1.W gb.1.W ht (by rw [tySz_fun]; have := ga.2; have := gb.2; omega) hs hc)
    · exact .inr (c_lamErr g (by omega) a t h1)
  | @n0 g k ty s hN =>
    intro hg hG hW hb
    rcases NodeTy.small hN (by simp) with hs | ⟨_, a, b, e, _⟩
    · exact .inl (.n0 (NodeTy.toG hN hs))
    · cases e
  | @n1 g k ty s a x hN h1 ih1 =>
    intro hg hG hW hb
    have z : tmSz (tmT k ty [x]) = tmSz x + 1 := tmSz_T1
    have w1 : TmW x := hW.arg (by simp [tmT, Tm.args])
    have g1 : TmG x := hG.arg (by simp [tmT, Tm.args])
    have hk1 : (k == 1) = false := by cases hN <;> rfl
    have hk2 : (k == 2) = false := by cases hN <;> rfl
    rcases ih1 hg g1 w1 (by omega) with t1 | e1
    · have gs := HasTy_G t1 hg g1
      rcases NodeTy.small hN (by simp [gs.2]) with hs | ⟨_, a, b, e, _⟩
      · exact .inl (.n1 (NodeTy.toG hN hs) t1)
      · cases e
    · refine .inr (c_inferErr g k ty [x] [a] 0 hk1 hk2 (by simp) (by simp) rfl (by intro i x a hi; omega) ?_)
      intro y hy; simp at hy; subst hy; exact e1
  | @n2 g k ty s a b x y hN h1 h2 ih1 ih2 =>
    intro hg hG hW hb
    have z : tmSz (tmT k ty [x, y]) = tmSz x + tmSz y + 1 := by simp [tmT, tmSz, tmSzL]
    have w1 : TmW x := hW.arg (by simp [tmT, Tm.args])
    have w2 : TmW y := hW.arg (by simp [tmT, Tm.args])
    have g1 : TmG x := hG.arg (by simp [tmT, Tm.args])
    have g2 : TmG y := hG.arg (by simp [tmT, Tm.args])
    have hk1 : (k == 1) = false := by cases hN <;> rfl
    have hk2 : (k == 2) = false := by cases hN <;> rfl
    have hgW : ∀ y ∈ g, TyW y := fun y hy => (hg y hy).1.W
    rcases ih1 hg g1 w1 (by omega) with t1 | e1
    case inr =>
      refine .inr (c_inferErr g k ty [x, y] [a, b] 0 hk1 hk2 (by simp) (by simp) rfl (by intro i x a hi; omega) ?_)
      intro u hu; simp at hu; subst hu; exact e1
    have c1 := c_infer t1 hgW w1 (by omega)
    rcases ih2 hg g2 w2 (by omega) with t2 | e2
    case inr =>
      refine .inr (c_inferErr g k ty [x, y] [a, b] 1 hk1 hk2 (by simp) (by simp) rfl ?_ ?_)
      · intro i u c hi hu hc
        have e : i = 0 := by omega
        subst e
        simp at hu hc; subst hu; subst hc; exact c1
      · intro u hu; simp at hu; subst hu; exact e2
    have gs1 := HasTy_G t1 hg g1
    have gs2 := HasTy_G t2 hg g2
    by_cases hs : tySz s ≤ 64
    · exact .inl (.n2 (NodeTy.toG hN hs) t1 t2)
    · rcases NodeTy.small hN (by simp [gs1.2, gs2.2]) with hs' | ⟨rfl, a', b', e, rfl, hp, hz⟩
      · exact absurd hs' hs
      · simp only [List.cons.injEq, and_true] at e
        obtain ⟨rfl, rfl⟩ := e
        exact .inr (c_inferBig g ty x y a b gs1.1.W gs2.1.W hp hz hs c1 (c_infer t2 hgW w2 (by omega)))
  | @n3 g k ty s a b c x y z hN h1 h2 h3 ih1 ih2 ih3 =>
    intro hg hG hW hb
    have zz : tmSz (tmT k ty [x, y, z]) = tmSz x + (tmSz y + tmSz z) + 1 := tmSz_T3
    have w1 : TmW x := hW.arg (by simp [tmT, Tm.args])
    have w2 : TmW y := hW.arg (by simp [tmT, Tm.args])
    have w3 : TmW z := hW.arg (by simp [tmT, Tm.args])
    have g1 : TmG x := hG.arg (by simp [tmT, Tm.args])
    have g2 : TmG y := hG.arg (by simp [tmT, Tm.args])
    have g3 : TmG z := hG.arg (by simp [tmT, Tm.args])
    have hk1 : (k == 1) = false := by cases hN <;> rfl
    have hk2 : (k == 2) = false := by cases hN <;> rfl
    have hgW : ∀ y ∈ g, TyW y := fun y hy => (hg y hy).1.W
    rcases ih1 hg g1 w1 (by omega) with t1 | e1
    case inr =>
      refine .inr (c_inferErr g k ty [x, y, z] [a, b, c] 0 hk1 hk2 (by simp) (by simp) rfl (by intro i x a hi; omega) ?_)
      intro u hu; simp at hu; subst hu; exact e1
    have c1 := c_infer t1 hgW w1 (by omega)
    rcases ih2 hg g2 w2 (by omega) with t2 | e2
    case inr =>
      refine .inr (c_inferErr g k ty [x, y, z] [a, b, c] 1 hk1 hk2 (by simp) (by simp) rfl ?_ ?_)
      · intro i u d hi hu hd
        have e : i = 0 := by omega
        subst e
        simp at hu hd; subst hu; subst hd; exact c1
      · intro u hu; simp at hu; subst hu; exact e2
    have c2 := c_infer t2 hgW w2 (by omega)
    rcases ih3 hg g3 w3 (by omega) with t3 | e3
    case inr =>
      refine .inr (c_inferErr g k ty [x, y, z] [a, b, c] 2 hk1 hk2 (by simp) (by simp) rfl ?_ ?_)
      · intro i u d hi hu hd
        obtain rfl | rfl : i = 0 ∨ i = 1 := by omega
        · simp at hu hd; subst hu; subst hd; exact c1
        · simp at hu hd; subst hu; subst hd; exact c2
      · intro u hu; simp at hu; subst hu; exact e3
    have gs1 := HasTy_G t1 hg g1
    have gs2 := HasTy_G t2 hg g2
    have gs3 := HasTy_G t3 hg g3
    rcases NodeTy.small hN (by simp [gs1.2, gs2.2, gs3.2]) with hs | ⟨_, a', b', e, _⟩
    · exact .inl (.n3 (NodeTy.toG hN hs) t1 t2 t3)
    · simp at e

theorem c_r02Typed (g : List Ty) (t : Tm) (s : Ty) (e : Int) (ht : TmW t) (he : tmErr t = 0)
    (h2 : Pure Tryz.prog env 190 [.sl .any (g.map Ty.cells), .agg t.cells] (.tup [.agg s.cells, .int .i64 e])) :
    Pure Tryz.prog env 116 [.sl .any (g.map Ty.cells), .agg t.cells] (.tup [.agg s.cells, .int .i64 e]) := by
  have h1 := c_tmCheck t ht
  rw [he] at h1
  have n0 : ((0 : Int) != 0) = false := rfl
  clear ht he
  intro h
  refine enter Tryz.func116 [.cell 4 25, .tmp 5] rfl (by kernel_rfl) follows (by kernel_rfl) rfl fun g0 w0 gen hrel hfr hfr' hres => ?_
  repeat' (first
    | exact hin _ | exact agf (by assumption)
    | (first | refine wp rfl ?_ | refine spt rfl ?_ | refine spf rfl ?_ | (refine spl (fun hc => ?_) fun hc => ?_) <;> (try rw [beq_iff_eq] at hc) <;> try simp only [hc] | refine Call1_pure (h1) ?_ | refine Call1_pure (h2) ?_ | refine finF hrel ?_ ?_ ?_) <;> try simp only [go_sem, *])

theorem c_r08free : ∀ t : Fm, FmW t → t.mfree = true → Pure Tryz.prog env 131 [.agg t.cells] (.bool true) := by
  intro t
  induction t using Fm.ind with | h t ih => ?_
  intro ht hf h
  have hlen := ht.len
  rw [Fm.mfree_eq, Bool.and_eq_true] at hf
  obtain ⟨hk, hl⟩ := hf
  have ha : ∀ (l : List Fm), Fm.mfreeL l = true → ∀ x ∈ l, x.mfree = true := by
    intro l
    induction l with
    | nil => simp
    | cons y l ihl =>
      intro hm x hx
      rw [Fm.mfreeL_cons, Bool.and_eq_true] at hm
      rcases List.mem_cons.1 hx with rfl | hx
      · exact hm.1
      · exact ihl hm.2 x hx
  have ih' : ∀ x ∈ t.args, Pure Tryz.prog env 131 [.agg x.cells] (.bool true) := fun x hx => ih x hx (ht.arg hx) (ha _ hl x hx)
  clear ih ha
  have hkd : decide (t.kind ≥ 4) = false := by
    simp only [Bool.or_eq_true, beq_iff_eq] at hk
    simp; omega
  clear hk hl
  refine enter Tryz.func131 [.tmp 2] rfl (by kernel_rfl) follows (by kernel_rfl) rfl fun g0 w0 gen hrel hfr hfr' hres => ?_
  repeat' (first
    | exact hin _ | exact agf (by assumption)
    | (first | refine wp rfl ?_ | refine spt rfl ?_ | refine spf rfl ?_ | (refine spl (fun hc => ?_) fun hc => ?_) <;> (try rw [beq_iff_eq] at hc) <;> try simp only [hc] | refine finF hrel ?_ ?_ ?_) <;> try simp only [go_sem, *])
  refine AR_range [9] [] (fun i σ => Agree h σ.h ∧ True) (t.args).length (by first | omega | (simp only [go_sem, *] <;> omega)) ⟨rfl, rfl, rfl⟩ rfl (by simp only [go_sem, *]) (by simp only [go_sem, *]) ?_ (by intro i σ t v ht hK; simp only [List.mem_cons, List.not_mem_nil, or_false] at ht; rcases ht with rfl | rfl | rfl <;> exact hK) ?_ ?_
  · simp only [go_sem, *]
    exact (by repeat (first | exact Agree.refl _ | assumption | refine Agree.new ?_ (hgf0 _ _) | refine Agree.new ?_ (hfr' _ _)))
  ·
    intro i σ gr0 hgl_gr0 hgn hlt jI jN jS ⟨jA, _⟩
    obtain ⟨jT, jB⟩ := jS
    simp only [go_sem] at jT jB
    have hgf := fresh_of hgn
    have hgf0 : ∀ r i, h ⟨gr0, r, i⟩ = none := fun r i => agree_fresh jA (hgf r i)
    have eg_gen_gr0 := gen_lt (show gen < gr0 by omega)
    have eh_gen_gr0 := gen_lt' (show gen < gr0 by omega)
    obtain ⟨x, hx⟩ : ∃ x, (t.args)[i]? = some x := ⟨_, List.getElem?_eq_getElem hlt⟩
    have hxm := List.mem_of_getElem? hx
    have hm := min_lt hlt
    clear hgn
    have h1 := ih' x hxm
    clear ih'
    repeat' (first
      | (first | refine wp rfl ?_ | refine spt rfl ?_ | refine spf rfl ?_ | (refine spl (fun hc => ?_) fun hc => ?_) <;> (try rw [beq_iff_eq] at hc) <;> try simp only [hc] | refine Call1_pure (h1) ?_ | refine AR_inv ?_) <;> try simp only [go_sem, *])
    all_goals exact Agree.new jA (hgf0 _ _)
  · clear ih'
    intro σ ga0 hgl_ga0 hgn jS ⟨jA, _⟩
    obtain ⟨jT, jB⟩ := jS
    simp only [go_sem] at jT jB
    have hgf := fresh_of hgn
    have hgf0 : ∀ r i, h ⟨ga0, r, i⟩ = none := fun r i => agree_fresh jA (hgf r i)
    have eg_gen_ga0 := gen_lt (show gen < ga0 by omega)
    have eh_gen_ga0 := gen_lt' (show gen < ga0 by omega)
    clear hgn
    repeat' (first
      | exact hin _ | exact agf (by assumption)
      | (first | refine wp rfl ?_ | refine spt rfl ?_ | refine spf rfl ?_ | (refine spl (fun hc => ?_) fun hc => ?_) <;> (try rw [beq_iff_eq] at hc) <;> try simp only [hc] | refine finF hrel ?_ ?_ ?_) <;> try simp only [go_sem, *])

theorem c_r08Free (t : Fm) (ht : FmW t) (hf : t.mfree = true) (he : fmErr t = 0) : Pure Tryz.prog env 53 [.agg t.cells] (.tup [.bool true, .int .i64 0]) := by
  have h1 := c_refFmCheck t ht
  rw [he] at h1
  have h2 := c_r08free t ht hf
  have n0 : ((0 : Int) != 0) = false := rfl
  clear he hf
  intro h
  refine enter Tryz.func53 [.tmp 2, .tmp 3] rfl (by kernel_rfl) follows (by kernel_rfl) rfl fun g0 w0 gen hrel hfr hfr' hres => ?_
  repeat' (first
    | exact hin _ | exact agf (by assumption)
    | (first | refine wp rfl ?_ | refine spt rfl ?_ | refine spf rfl ?_ | (refine spl (fun hc => ?_) fun hc => ?_) <;> (try rw [beq_iff_eq] at hc) <;> try simp only [hc] | refine Call1_pure (h1) ?_ | refine Call1_pure (h2) ?_ | refine finF hrel ?_ ?_ ?_) <;> try simp only [go_sem, *])
end Go.Proofs.YtnhjlnkogoihhaaGreatDoor
