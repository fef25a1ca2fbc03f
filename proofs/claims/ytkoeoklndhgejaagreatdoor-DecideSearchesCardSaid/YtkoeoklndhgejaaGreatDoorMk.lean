/-
 Walks: several parts in one text.
-/
import Derived.Test.YtkoeoklndhgejaaGreatDoorGq
import Derived.Test.YtkoeoklndhgejaaGreatDoorAbsDc
import Derived.Test.YtkoeoklndhgejaaGreatDoorGt
set_option linter.unusedSimpArgs false
set_option linter.unusedVariables false
set_option maxRecDepth 20000
set_option maxHeartbeats 4000000
namespace Go.Proofs.YtkoeoklndhgejaaGreatDoor
open Go GoAbs Go.Proofs
theorem zTy_cells : (Ty.mk 0 []).cells = [.int .i64 0, .sl .any []] := by rw [Ty.cells_eq]; rfl
theorem c_okE (t : Ty) (ht : TyF t) (hs : 64 < tySz t) (hs2 : tySz t ≤ 1000) : Pure Tryz.prog env 230 [.agg t.cells] (.tup [.agg (Ty.mk 0 []).cells, .int .i64 4]) := by
 intro h
 have h1 := c_refTyCheck t ht.W
 rw [ht.err (by omega), if_neg (by omega)] at h1
 have n0 : ((4 : Int) != 0) = true := rfl
 have zc := zTy_cells
 clear ht hs hs2
 exact ek_ Tryz.func230 [.cell 2 25, .tmp 3]
theorem c_inferNodeE (g : List Ty) (k : Int) (ty : Ty) (hty : TyW ty) (l : List Tm) (ts : List Ty) (e : Int) (hN : NodeEr k ty ts e) (hlen : l.length = ts.length) (hts : ∀ y ∈ ts, TyG y)
  (ih : ∀ (j : Nat) (x : Tm) (a : Ty), l[j]? = some x → ts[j]? = some a → Pure Tryz.prog env 212 [.sl .any (g.map Ty.cells), .agg x.cells] (.tup [.agg a.cells, .int .i64 0])) :
  Pure Tryz.prog env 212 [.sl .any (g.map Ty.cells), .agg (tmT k ty l).cells] (.tup [.agg (Ty.mk 0 []).cells, .int .i64 e]) := by
 intro h
 have zc := zTy_cells
 have hk1 : (k == 1) = false := by cases hN <;> rfl
 have hk2 : (k == 2) = false := by cases hN <;> rfl
 have hl3 : l.length ≤ 3 := by rw [hlen]; cases hN <;> simp
 have e1 : (tmT k ty l).kind = k := rfl
 have e2 : (tmT k ty l).type = ty := rfl
 have e3 : (tmT k ty l).args = l := rfl
 generalize tmT k ty l = t at *
 have n0 : ((0 : Int) != 0) = false := rfl
 have hget : ∀ (i : Nat) (x : Tm), l[i]? = some x → ∃ a, ts[i]? = some a := fun i x hx => ⟨_, List.getElem?_eq_getElem (by have := (List.getElem?_eq_some_iff.1 hx).1; omega)⟩
 have hlen' : ts.take l.length = ts := by rw [hlen, List.take_length]
 clear hlen
 refine en_ Tryz.func212 [.cell 4 25, .tmp 5] fun g0 w0 gen hrel hfr hfr' hres => ?_
 refine wq_ ?_
 refine ar_ [0, 3, 4, 67] [⟨gen, 0, 0⟩, ⟨gen, 0, 1⟩] (fun i σ => Agree h σ.h ∧ OwnS h σ.h (σ.tm 8) 2 ((ts.take i).map Ty.cells)) (l).length ?_ ?_ ?_
 ·simp only [go_sem, *]
  exact ⟨ag_, .inl rfl⟩
 ·clear hlen' hN hts
  intro i σ gr0 hgl_gr0 hgn hlt jI jN jS ⟨jA, jO0⟩
  obtain ⟨jT, jB⟩ := jS
  simp only [go_sem] at jT jB
  obtain ⟨hgf, hgf0, eg_gen_gr0, eh_gen_gr0⟩ := rnd hgn hgl_gr0 jA
  obtain ⟨x, hx, hxm, hm⟩ := rnx hlt
  clear hgn
  obtain ⟨a, ha⟩ := hget i x hx
  have hc := ih i x a hx ha
  have hts : (ts.take (i + 1)).map Ty.cells = (ts.take i).map Ty.cells ++ [a.cells] := by rw [map_take_succ ha]
  have htl : (ts.take i).length = i := by rw [List.length_take]; have := (List.getElem?_eq_some_iff.1 ha).1; omega
  clear ih hget
  repeat' (first
   |(refine ⟨?_,?_⟩; focus ((repeat' (first|refine ⟨?_,?_⟩|refine .inr ?_)); all_goals kernel_rfl))
   |(refine okE_app_own jO0 (by repeat (first|exact Keeps.refl _|refine Keeps.new ?_ (hgf _ _)|refine Keeps.new ?_ (hfr' _ _)|refine Keeps.box ?_ rfl|refine Keeps.box ?_ (by simp only [go_sem, *]))) rfl (by simp only [go_sem, *] <;> omega) (by first|exact hgf0 _ _|exact hfr' _ _) (by simp only [go_sem, *]) (by intro hd; cases hd) ?_; intro v' h' log' jO jK jAg jAb jF; simp only [go_sem, *])
   | (first|refine wp rfl ?_|refine spt rfl ?_|refine spf rfl ?_|(refine spl (fun hc => ?_) fun hc => ?_) <;> (try rw [beq_iff_eq] at hc) <;> try simp only [hc]|(refine gs (fun hb => ?_) fun hb => ?_) <;> try simp only [Bool.not_true, Bool.not_false] at hb|refine cp hc ?_|refine AR_inv ?_)<;>try simp only [go_sem, *])
  exact jAg (by repeat (first|exact jA|refine Agree.new ?_ (hgf0 _ _)))
 ·
  intro σ ga0 hgl_ga0 hgn jS ⟨jA, jO0⟩
  obtain ⟨jT, jB⟩ := jS
  simp only [go_sem] at jT jB
  obtain ⟨hgf, hgf0, eg_gen_ga0, eh_gen_ga0⟩ := rnd hgn hgl_ga0 jA
  clear hgn
  rw [hlen'] at jO0
  obtain ⟨c, jO0⟩ := jO0.val
  clear ih hget hlen'
  have hS := fun a b (ha : TyW a) (hb : TyW b) => c_refSame a ha b hb
  have hST : ∀ y, TyW y → Pure Tryz.prog env 21 [.agg y.cells, .agg y.cells] (.bool true) := fun y hy => by
   have := c_refSame y hy y hy
   rw [Ty.same_refl] at this; exact this
  have hSF : ∀ a b, TyW a → TyW b → a ≠ b → Pure Tryz.prog env 21 [.agg a.cells, .agg b.cells] (.bool false) := fun a b ha hb hne => by
   have := c_refSame a ha b hb
   rw [same_ne hne] at this; exact this
  clear hS
  cases hN with
  | @app _ a b hne =>
   have ga := hts a (by simp)
   have gb := hts b (by simp)
   rcases ga.notFun hne with q4 | ⟨x, y, rfl, hxb, gx⟩
   ·clear hST hSF hts hne
    have zq0 := c_refNat
    have zq1 := c_refList
    exact wk_
   ·have s1 := hSF x b gx.1.W gb.1.W hxb
    have f1 : (tFun x y).kind = 4 := rfl
    have f2 : (tFun x y).args = [x, y] := rfl
    have q4 : ((4 : Int) != 4) = false := rfl
    clear hST hSF hts hne
    have zq0 := c_refNat
    have zq1 := c_refList
    exact wk_
  | @succ _ a hne =>
   have s1 := hSF a tNat (hts a (by simp)).1.W tNat_W hne
   clear hST hSF hts
   have zq0 := c_refNat
   have zq1 := c_refList
   exact wk_
  | @recr _ a b c hne =>
   have wa := (hts a (by simp)).1.W
   have wb := (hts b (by simp)).1.W
   have wc := (hts c (by simp)).1.W
   have w1 := tFun_W hty hty
   have w2 := tFun_W tNat_W w1
   have r1 := c_refFun ty ty hty hty
   have r2 := c_refFun tNat _ tNat_W w1
   by_cases h1 : a = ty
   ·subst h1
    have s1 := hST a wa
    by_cases h2 : b = tFun tNat (tFun a a)
    ·subst h2
     have s2 := hST _ w2
     have s3 := hSF c tNat wc tNat_W (fun e => hne ⟨rfl, rfl, e⟩)
     clear hST hSF hts hne
     have zq0 := c_refNat
     have zq1 := c_refList
     exact wk_
    ·have s2 := hSF b _ wb w2 h2
     clear hST hSF hts hne
     have zq0 := c_refNat
     have zq1 := c_refList
     exact wk_
   ·have s1 := hSF a ty wa hty h1
    clear hST hSF hts hne
    have zq0 := c_refNat
    have zq1 := c_refList
    exact wk_
  | @cons _ a b hne =>
   have wa := (hts a (by simp)).1.W
   have wb := (hts b (by simp)).1.W
   by_cases h1 : a = tNat
   ·subst h1
    have s1 := hST tNat tNat_W
    have s2 := hSF b tList wb tList_W (fun e => hne ⟨rfl, e⟩)
    clear hST hSF hts hne
    have zq0 := c_refNat
    have zq1 := c_refList
    exact wk_
   ·have s1 := hSF a tNat wa tNat_W h1
    clear hST hSF hts hne
    have zq0 := c_refNat
    have zq1 := c_refList
    exact wk_
  | @fold _ a b c hne =>
   have wa := (hts a (by simp)).1.W
   have wb := (hts b (by simp)).1.W
   have wc := (hts c (by simp)).1.W
   have w1 := tFun_W hty hty
   have w2 := tFun_W tList_W w1
   have w3 := tFun_W tNat_W w2
   have r1 := c_refFun ty ty hty hty
   have r2 := c_refFun tList _ tList_W w1
   have r4 := c_refFun tNat _ tNat_W w2
   by_cases h1 : a = ty
   ·subst h1
    have s1 := hST a wa
    by_cases h2 : b = tFun tNat (tFun tList (tFun a a))
    ·subst h2
     have s2 := hST _ w3
     have s3 := hSF c tList wc tList_W (fun e => hne ⟨rfl, rfl, e⟩)
     clear hST hSF hts hne
     have zq0 := c_refNat
     have zq1 := c_refList
     exact wk_
    ·have s2 := hSF b _ wb w3 h2
     clear hST hSF hts hne
     have zq0 := c_refNat
     have zq1 := c_refList
     exact wk_
   ·have s1 := hSF a ty wa hty h1
    clear hST hSF hts hne
    have zq0 := c_refNat
    have zq1 := c_refList
    exact wk_
  | @pair _ a b hp =>
   have ga := hts a (by simp)
   have gb := hts b (by simp)
   have r1 := c_refTwo a b ga.1.W gb.1.W
   have r2 := c_okE (tPair a b) (.pair ga.1 gb.1) (by rw [tySz_pair]; omega) (by rw [tySz_pair]; have := ga.2; have := gb.2; omega)
   clear hST hSF hts ga gb
   have zq0 := c_refNat
   have zq1 := c_refList
   exact wk_
  | @fst _ a hne =>
   have q3 := (hts a (by simp)).notPair hne
   clear hST hSF hts hne
   have zq0 := c_refNat
   have zq1 := c_refList
   exact wk_
  | @snd _ a hne =>
   have q3 := (hts a (by simp)).notPair hne
   clear hST hSF hts hne
   have zq0 := c_refNat
   have zq1 := c_refList
   exact wk_
theorem c_inferArgE (g : List Ty) (k : Int) (ty : Ty) (hty : TyW ty) (l : List Tm) (ts : List Ty) (x0 : Tm) (e : Int) (hk1 : (k == 1) = false) (hk2 : (k == 2) = false) (hl3 : l.length ≤ 3) (he : (e != 0) = true) (hx0 : l[ts.length]? = some x0)
  (ih : ∀ (j : Nat) (x : Tm) (a : Ty), l[j]? = some x → ts[j]? = some a → Pure Tryz.prog env 212 [.sl .any (g.map Ty.cells), .agg x.cells] (.tup [.agg a.cells, .int .i64 0]))
  (ihE : Pure Tryz.prog env 212 [.sl .any (g.map Ty.cells), .agg x0.cells] (.tup [.agg (Ty.mk 0 []).cells, .int .i64 e])) :
  Pure Tryz.prog env 212 [.sl .any (g.map Ty.cells), .agg (tmT k ty l).cells] (.tup [.agg (Ty.mk 0 []).cells, .int .i64 e]) := by
 intro h
 have zc := zTy_cells
 have e1 : (tmT k ty l).kind = k := rfl
 have e2 : (tmT k ty l).type = ty := rfl
 have e3 : (tmT k ty l).args = l := rfl
 generalize tmT k ty l = t at *
 have n0 : ((0 : Int) != 0) = false := rfl
 have hlx : ts.length < l.length := (List.getElem?_eq_some_iff.1 hx0).1
 refine en_ Tryz.func212 [.cell 4 25, .tmp 5] fun g0 w0 gen hrel hfr hfr' hres => ?_
 refine wq_ ?_
 refine ar_ [0, 3, 4, 67] [⟨gen, 0, 0⟩, ⟨gen, 0, 1⟩] (fun i σ => Agree h σ.h ∧ i ≤ ts.length ∧ OwnS h σ.h (σ.tm 8) 2 ((ts.take i).map Ty.cells)) (l).length ?_ ?_ ?_
 ·simp only [go_sem, *]
  exact ⟨ag_, Nat.zero_le _, .inl rfl⟩
 ·
  intro i σ gr0 hgl_gr0 hgn hlt jI jN jS ⟨jA, ji, jO0⟩
  obtain ⟨jT, jB⟩ := jS
  simp only [go_sem] at jT jB
  obtain ⟨hgf, hgf0, eg_gen_gr0, eh_gen_gr0⟩ := rnd hgn hgl_gr0 jA
  obtain ⟨x, hx, hxm, hm⟩ := rnx hlt
  clear hgn
  rcases Nat.lt_or_ge i ts.length with hi | hi
  ·obtain ⟨a, ha⟩ : ∃ a, ts[i]? = some a := ⟨_, List.getElem?_eq_getElem hi⟩
   have hc := ih i x a hx ha
   have hts : (ts.take (i + 1)).map Ty.cells = (ts.take i).map Ty.cells ++ [a.cells] := by rw [map_take_succ ha]
   have htl : (ts.take i).length = i := by rw [List.length_take]; omega
   clear ih ihE hx0 ji
   repeat' (first
    |(refine ⟨?_,?_⟩; focus ((repeat' (first|refine ⟨?_,?_⟩|refine .inr ?_)); all_goals kernel_rfl))
    |(refine okE_app_own jO0 (by repeat (first|exact Keeps.refl _|refine Keeps.new ?_ (hgf _ _)|refine Keeps.new ?_ (hfr' _ _)|refine Keeps.box ?_ rfl|refine Keeps.box ?_ (by simp only [go_sem, *]))) rfl (by simp only [go_sem, *] <;> omega) (by first|exact hgf0 _ _|exact hfr' _ _) (by simp only [go_sem, *]) (by intro hd; cases hd) ?_; intro v' h' log' jO jK jAg jAb jF; simp only [go_sem, *])
    | (first|refine wp rfl ?_|refine spt rfl ?_|refine spf rfl ?_|(refine spl (fun hc => ?_) fun hc => ?_) <;> (try rw [beq_iff_eq] at hc) <;> try simp only [hc]|(refine gs (fun hb => ?_) fun hb => ?_) <;> try simp only [Bool.not_true, Bool.not_false] at hb|refine cp hc ?_|refine AR_inv ?_)<;>try simp only [go_sem, *])
   exact ⟨jAg (by repeat (first|exact jA|refine Agree.new ?_ (hgf0 _ _))), hi⟩
  ·obtain rfl : i = ts.length := by omega
   rw [hx] at hx0
   cases hx0
   clear ih
   exact wk_
 ·
  intro σ ga0 hgl_ga0 hgn jS ⟨jA, ji, jO0⟩
  obtain ⟨jT, jB⟩ := jS
  simp only [go_sem] at jT jB
  obtain ⟨hgf, hgf0, eg_gen_ga0, eh_gen_ga0⟩ := rnd hgn hgl_ga0 jA
  clear hgn
  omega
theorem c_inferE {g : List Ty} {t : Tm} {e : Int} (h : TmEr g t e) : (∀ y ∈ g, TyW y) → TmW t → g.length + tmSz t ≤ 1000000 →
  Pure Tryz.prog env 212 [.sl .any (g.map Ty.cells), .agg t.cells] (.tup [.agg (Ty.mk 0 []).cells, .int .i64 e]) := by
 induction h with
 | @var g i hi =>
  intro hw _ hb h
  have zc := zTy_cells
  have e1 : (tmVar i).kind = 1 := rfl
  have e2 : (tmVar i).index = i := rfl
  have hd : decide (i ≥ (g.length : Int)) = true := by simp; omega
  generalize tmVar i = x at *
  clear hw hi
  exact ek_ Tryz.func212 [.cell 4 25, .tmp 5]
 | @lamE g a t e gaa hE ih =>
  intro hw hW hb h
  rw [tmSz_T1] at hb
  have wa := hW.ty
  have wt : TmW t := hW.arg (by simp [tmT, Tm.args])
  have hwa : TyW a := wa
  have hc := ih (by intro y hy; rcases List.mem_append.1 hy with hy | hy; exact hw y hy; simp at hy; subst hy; exact hwa) wt (by simp; omega)
  have zc := zTy_cells
  have he := hE.ne
  have e1 : (tmT 2 a [t]).kind = 2 := rfl
  have e2 : (tmT 2 a [t]).type = a := rfl
  have e3 : (tmT 2 a [t]).args = [t] := rfl
  have hwk : weakLL (g.map Ty.cells ++ [a.cells]) = (g ++ [a]).map Ty.cells := by rw [← weakLL_Ty (g ++ [a])]; simp
  have b3 : (g.length + 1) * 32 ≤ 140737488355328 := by omega
  have b4 : g.length + 1 ≤ 140737488355328 := by omega
  have t1 : (0 : Int) ≤ (g.length : Int) := by omega
  have t2 : ((g.length : Int)).toNat = g.length := Int.toNat_natCast _
  have t3 : List.take g.length (g.map Ty.cells) = g.map Ty.cells := List.take_of_length_le (by simp)
  have t4 : 0 ≤ g.length := by omega
  have t5 : g.length ≤ g.length := Nat.le_refl _
  have mn : ∀ (f : Operand → V), Option.map f none = none := fun _ => rfl
  have ml : (g.map Ty.cells).length = g.length := by simp
  generalize tmT 2 a [t] = x at *
  clear hw hW ih wa wt hwa hE gaa
  exact ek_ Tryz.func212 [.cell 4 25, .tmp 5]
 | @lamS g a b t hT ga gb hsz =>
  intro hw hW hb h
  rw [tmSz_T1] at hb
  have wa := hW.ty
  have wt : TmW t := hW.arg (by simp [tmT, Tm.args])
  have hwa : TyW a := wa
  have hc := c_infer hT (by intro y hy; rcases List.mem_append.1 hy with hy | hy; exact hw y hy; simp at hy; subst hy; exact hwa) wt (by simp; omega)
  have wb : TyW b := gb.1.W
  have zc := zTy_cells
  have r1 := c_refFun a b hwa wb
  have r2 := c_okE (tFun a b) (.func ga.1 gb.1) (by rw [tySz_fun]; omega) (by rw [tySz_fun]; have := ga.2; have := gb.2; omega)
  have e1 : (tmT 2 a [t]).kind = 2 := rfl
  have e2 : (tmT 2 a [t]).type = a := rfl
  have e3 : (tmT 2 a [t]).args = [t] := rfl
  have n0 : ((0 : Int) != 0) = false := rfl
  have hwk : weakLL (g.map Ty.cells ++ [a.cells]) = (g ++ [a]).map Ty.cells := by rw [← weakLL_Ty (g ++ [a])]; simp
  have b3 : (g.length + 1) * 32 ≤ 140737488355328 := by omega
  have b4 : g.length + 1 ≤ 140737488355328 := by omega
  have t1 : (0 : Int) ≤ (g.length : Int) := by omega
  have t2 : ((g.length : Int)).toNat = g.length := Int.toNat_natCast _
  have t3 : List.take g.length (g.map Ty.cells) = g.map Ty.cells := List.take_of_length_le (by simp)
  have t4 : 0 ≤ g.length := by omega
  have t5 : g.length ≤ g.length := Nat.le_refl _
  have mn : ∀ (f : Operand → V), Option.map f none = none := fun _ => rfl
  have ml : (g.map Ty.cells).length = g.length := by simp
  generalize tmT 2 a [t] = x at *
  clear hw hW wa wt wb hwa hT ga gb hsz
  exact ek_ Tryz.func212 [.cell 4 25, .tmp 5]
 | @arg g k ty l ts x e hk1 hk2 hl3 hts hT hx hE ih =>
  intro hw hW hb
  have hsub : ∀ (j : Nat) (y : Tm), l[j]? = some y → TmW y ∧ g.length + tmSz y ≤ 1000000 := fun j y hy => by
   have hm := List.mem_of_getElem? hy
   refine ⟨hW.arg (by simpa [tmT, Tm.args] using hm), ?_⟩
   have := tmSzL_mem hm
   have : tmSz (tmT k ty l) = tmSzL l + 1 := by simp [tmT, tmSz]
   omega
  exact c_inferArgE g k ty hW.ty l ts x e hk1 hk2 hl3 hE.ne hx (fun j y a hy ha => c_infer (hT j y a hy ha) hw (hsub j y hy).1 (hsub j y hy).2) (ih hw (hsub _ _ hx).1 (hsub _ _ hx).2)
 | @node g k ty l ts e hl hts hT hN =>
  intro hw hW hb
  have hsub : ∀ (j : Nat) (y : Tm), l[j]? = some y → TmW y ∧ g.length + tmSz y ≤ 1000000 := fun j y hy => by
   have hm := List.mem_of_getElem? hy
   refine ⟨hW.arg (by simpa [tmT, Tm.args] using hm), ?_⟩
   have := tmSzL_mem hm
   have : tmSz (tmT k ty l) = tmSzL l + 1 := by simp [tmT, tmSz]
   omega
  exact c_inferNodeE g k ty hW.ty l ts e hN hl hts (fun j y a hy ha => c_infer (hT j y a hy ha) hw (hsub j y hy).1 (hsub j y hy).2)
theorem c_refTypedE (g : List Ty) (t : Tm) (e : Int) (h : TmEr g t e) (hg : ∀ y ∈ g, TyW y) (ht : TmW t) (he : tmErr t = 0) (hb : g.length + tmSz t ≤ 1000000) :
  Pure Tryz.prog env 187 [.sl .any (g.map Ty.cells), .agg t.cells] (.tup [.agg (Ty.mk 0 []).cells, .int .i64 e]) := by
 have h1 := c_tmCheck t ht
 rw [he] at h1
 have h2 := c_inferE h hg ht hb
 have n0 : ((0 : Int) != 0) = false := rfl
 clear h hg ht he hb
 intro h
 exact ek_ Tryz.func187 [.cell 4 25, .tmp 5]
theorem c_typedT (f : Fm) (g : List Ty) (wf : FmW f) (hgl : g.length ≤ 100000) (i0 : Nat) (x0 : Tm) (E : Int) (hx0 : f.terms[i0]? = some x0)
  (ok : ∀ (j : Nat) (x : Tm), j < i0 → f.terms[j]? = some x → Pure Tryz.prog env 187 [.sl .any (g.map Ty.cells), .agg x.cells] (.tup [.agg tNat.cells, .int .i64 0]))
  (bad : ∃ (s : Ty) (e : Int), Pure Tryz.prog env 187 [.sl .any (g.map Ty.cells), .agg x0.cells] (.tup [.agg s.cells, .int .i64 e]) ∧ (((e != 0) = true ∧ E = e) ∨ (e = 0 ∧ (s.kind != 1) = true ∧ E = 7))) :
  Pure Tryz.prog env 145 [.sl .any (g.map Ty.cells), .agg f.cells] (.int .i64 E) := by
 intro h
 have hlen := wf.len
 have htlen := wf.tlen
 have hlx : i0 < f.terms.length := (List.getElem?_eq_some_iff.1 hx0).1
 have hk1 : ((1 : Int) != 1) = false := rfl
 have n0 : ((0 : Int) != 0) = false := rfl
 have hnk : tNat.kind = 1 := rfl
 clear wf
 refine en_ Tryz.func145 [.tmp 4] fun g0 w0 gen hrel hfr hfr' hres => ?_
 refine wq_ ?_
 refine ar_ [0, 3, 13] [⟨gen, 0, 0⟩] (fun i σ => Agree h σ.h ∧ i ≤ i0) (f.terms).length ?_ ?_ ?_
 ·simp only [go_sem, *]
  exact ⟨ag_, Nat.zero_le _⟩
 ·
  intro i σ gr0 hgl_gr0 hgn hlt jI jN jS ⟨jA, ji⟩
  obtain ⟨jT, jB⟩ := jS
  simp only [go_sem] at jT jB
  obtain ⟨hgf, hgf0, eg_gen_gr0, eh_gen_gr0⟩ := rnd hgn hgl_gr0 jA
  obtain ⟨x, hx, hxm, hm⟩ := rnx hlt
  clear hgn
  rcases Nat.lt_or_ge i i0 with hi | hi
  ·have h1 := ok i x hi hx
   clear ok bad hx0 ji
   refine wq_ ?_
   exact ⟨by repeat (first|exact jA|refine Agree.new ?_ (hgf0 _ _)), hi⟩
  ·obtain rfl : i = i0 := by omega
   rw [hx] at hx0
   cases hx0
   obtain ⟨s, e, h1, ⟨he, rfl⟩ | ⟨rfl, hs, rfl⟩⟩ := bad
   ·clear ok
    exact wk_
   ·clear ok
    exact wk_
 ·
  intro σ ga0 hgl_ga0 hgn jS ⟨jA, ji⟩
  obtain ⟨jT, jB⟩ := jS
  simp only [go_sem] at jT jB
  obtain ⟨hgf, hgf0, eg_gen_ga0, eh_gen_ga0⟩ := rnd hgn hgl_ga0 jA
  clear hgn
  omega
theorem c_typedA (f : Fm) (g : List Ty) (wf : FmW f) (hgl : g.length ≤ 100000) (i0 : Nat) (x0 : Fm) (e : Int) (he : (e != 0) = true) (hx0 : f.args[i0]? = some x0)
  (hterm : ∀ x ∈ f.terms, Pure Tryz.prog env 187 [.sl .any (g.map Ty.cells), .agg x.cells] (.tup [.agg tNat.cells, .int .i64 0]))
  (ok : ∀ (j : Nat) (x : Fm), j < i0 → f.args[j]? = some x → Pure Tryz.prog env 145 [.sl .any ((if quant f.kind then g ++ [f.type] else g).map Ty.cells), .agg x.cells] (.int .i64 0))
  (bad : Pure Tryz.prog env 145 [.sl .any ((if quant f.kind then g ++ [f.type] else g).map Ty.cells), .agg x0.cells] (.int .i64 e)) :
  Pure Tryz.prog env 145 [.sl .any (g.map Ty.cells), .agg f.cells] (.int .i64 e) := by
 intro h
 have hlen := wf.len
 have htlen := wf.tlen
 have hlx : i0 < f.args.length := (List.getElem?_eq_some_iff.1 hx0).1
 have hq := c_quant f.kind
 have hk1 : ((1 : Int) != 1) = false := rfl
 have n0 : ((0 : Int) != 0) = false := rfl
 have hnk : tNat.kind = 1 := rfl
 have t1 : (0 : Int) ≤ (g.length : Int) := by omega
 have t2 : ((g.length : Int)).toNat = g.length := Int.toNat_natCast _
 have t3 : List.take g.length (g.map Ty.cells) = g.map Ty.cells := List.take_of_length_le (by simp)
 have t4 : 0 ≤ g.length := by omega
 have t5 : g.length ≤ g.length := Nat.le_refl _
 have mn : ∀ (f : Operand → V), Option.map f none = none := fun _ => rfl
 have ml : (g.map Ty.cells).length = g.length := by simp
 have b3 : (g.length + 1) * 32 ≤ 140737488355328 := by omega
 have b4 : g.length + 1 ≤ 140737488355328 := by omega
 clear wf
 refine en_ Tryz.func145 [.tmp 4] fun g0 w0 gen hrel hfr hfr' hres => ?_
 refine wq_ ?_
 refine ar_ [0, 3, 13] [⟨gen, 0, 0⟩] (fun i σ => Agree h σ.h ∧ True) (f.terms).length ?_ ?_ ?_
 ·simp only [go_sem, *]
  exact ag_
 ·clear ok bad
  intro i σ gr0 hgl_gr0 hgn hlt jI jN jS ⟨jA, _⟩
  obtain ⟨jT, jB⟩ := jS
  simp only [go_sem] at jT jB
  obtain ⟨hgf, hgf0, eg_gen_gr0, eh_gen_gr0⟩ := rnd hgn hgl_gr0 jA
  obtain ⟨x, hx, hxm, hm⟩ := rnx hlt
  clear hgn
  have h1 := hterm x hxm
  clear hterm
  first|refine wq_ ?_|exact wk_
  all_goals exact (by repeat (first|exact jA|refine Agree.new ?_ (hgf0 _ _)))
 clear hterm
 intro σ ga0 hgl_ga0 hgn jS ⟨jA, _⟩
 obtain ⟨jT, jB⟩ := jS
 simp only [go_sem] at jT jB
 obtain ⟨hgf, hgf0, eg_gen_ga0, eh_gen_ga0⟩ := rnd hgn hgl_ga0 jA
 clear hgn
 have hwk : weakLL (g.map Ty.cells ++ [f.type.cells]) = (g ++ [f.type]).map Ty.cells := by rw [← weakLL_Ty (g ++ [f.type])]; simp
 cases hqq : quant f.kind with
 | false =>
  rw [hqq] at hq ok bad
  simp only [Bool.false_eq_true, if_false] at ok bad
  clear hqq
  refine wq_ ?_
  refine ar_ [0, 46] [] (fun i σ => Agree h σ.h ∧ i ≤ i0) (f.args).length ?_ ?_ ?_
  ·simp only [go_sem, *]
   exact Nat.zero_le _
  ·
   intro i σ gr1 hgl_gr1 hgn hlt jI jN jS ⟨jA, ji⟩
   obtain ⟨jT, jB⟩ := jS
   simp only [go_sem] at jT jB
   have hgf := fresh_of hgn
   have hgf0 := fun r i => agree_fresh jA (hgf r i)
   have eg_gen_gr1 := gen_lt (show gen < gr1 by omega)
   have eh_gen_gr1 := gen_lt' (show gen < gr1 by omega)
   have eg_ga0_gr1 := gen_lt (show ga0 < gr1 by omega)
   have eh_ga0_gr1 := gen_lt' (show ga0 < gr1 by omega)
   obtain ⟨x, hx, hxm, hm⟩ := rnx hlt
   clear hgn
   rcases Nat.lt_or_ge i i0 with hi | hi
   ·have h1 := ok i x hi hx
    clear ok bad hx0 ji
    refine wq_ ?_
    exact ⟨by repeat (first|exact jA|refine Agree.new ?_ (hgf0 _ _)), hi⟩
   ·obtain rfl : i = i0 := by omega
    rw [hx] at hx0
    cases hx0
    clear ok
    exact wk_
  ·
   intro σ ga1 hgl_ga1 hgn jS ⟨jA, ji⟩
   obtain ⟨jT, jB⟩ := jS
   simp only [go_sem] at jT jB
   have hgf := fresh_of hgn
   have hgf0 := fun r i => agree_fresh jA (hgf r i)
   have eg_gen_ga1 := gen_lt (show gen < ga1 by omega)
   have eh_gen_ga1 := gen_lt' (show gen < ga1 by omega)
   have eg_ga0_ga1 := gen_lt (show ga0 < ga1 by omega)
   have eh_ga0_ga1 := gen_lt' (show ga0 < ga1 by omega)
   clear hgn
   omega
 | true =>
  rw [hqq] at hq ok bad
  simp only [if_true] at ok bad
  clear hqq
  refine wq_ ?_
  refine ar_ [0, 46] [] (fun i σ => Agree h σ.h ∧ i ≤ i0) (f.args).length ?_ ?_ ?_
  ·simp only [go_sem, *]
   exact ⟨Agree.new jA (hgf0 _ _), Nat.zero_le _⟩
  ·
   intro i σ gr1 hgl_gr1 hgn hlt jI jN jS ⟨jA, ji⟩
   obtain ⟨jT, jB⟩ := jS
   simp only [go_sem] at jT jB
   have hgf := fresh_of hgn
   have hgf0 := fun r i => agree_fresh jA (hgf r i)
   have eg_gen_gr1 := gen_lt (show gen < gr1 by omega)
   have eh_gen_gr1 := gen_lt' (show gen < gr1 by omega)
   have eg_ga0_gr1 := gen_lt (show ga0 < gr1 by omega)
   have eh_ga0_gr1 := gen_lt' (show ga0 < gr1 by omega)
   obtain ⟨x, hx, hxm, hm⟩ := rnx hlt
   clear hgn
   rcases Nat.lt_or_ge i i0 with hi | hi
   ·have h1 := ok i x hi hx
    clear ok bad hx0 ji
    refine wq_ ?_
    exact ⟨by repeat (first|exact jA|refine Agree.new ?_ (hgf0 _ _)), hi⟩
   ·obtain rfl : i = i0 := by omega
    rw [hx] at hx0
    cases hx0
    clear ok
    exact wk_
  ·
   intro σ ga1 hgl_ga1 hgn jS ⟨jA, ji⟩
   obtain ⟨jT, jB⟩ := jS
   simp only [go_sem] at jT jB
   have hgf := fresh_of hgn
   have hgf0 := fun r i => agree_fresh jA (hgf r i)
   have eg_gen_ga1 := gen_lt (show gen < ga1 by omega)
   have eh_gen_ga1 := gen_lt' (show gen < ga1 by omega)
   have eg_ga0_ga1 := gen_lt (show ga0 < ga1 by omega)
   have eh_ga0_ga1 := gen_lt' (show ga0 < ga1 by omega)
   clear hgn
   omega
theorem c_typedE {g : List Ty} {f : Fm} {e : Int} (h : FmEr g f e) : FmG true f → fmSz f ≤ 4096 → FmW f → (∀ y ∈ g, TyW y) → g.length + fmSz f ≤ 5000 →
  Pure Tryz.prog env 145 [.sl .any (g.map Ty.cells), .agg f.cells] (.int .i64 e) := by
 induction h with
 | @eq1 g x y e h1 =>
  intro gf zf wf hg hb
  rw [fmSz_eq] at zf hb
  have gx := gf.eqn.1
  exact c_typedT _ g wf (by omega) 0 x e rfl (fun j _ hj => absurd hj (by omega)) ⟨_, _, c_refTypedE g x e h1 hg (wf.term (by simp [fmEq, Fm.terms])) (gx.err0 (by omega)) (by omega), .inl ⟨h1.ne, rfl⟩⟩
 | @eq1T g x y s h1 gs hs =>
  intro gf zf wf hg hb
  rw [fmSz_eq] at zf hb
  have gx := gf.eqn.1
  exact c_typedT _ g wf (by omega) 0 x 7 rfl (fun j _ hj => absurd hj (by omega)) ⟨_, _, c_refTyped g x s h1 hg (wf.term (by simp [fmEq, Fm.terms])) (gx.err0 (by omega)) (by omega), .inr ⟨rfl, gs.notNat hs, rfl⟩⟩
 | @eq2 g x y e h1 h2 =>
  intro gf zf wf hg hb
  rw [fmSz_eq] at zf hb
  obtain ⟨gx, gy⟩ := gf.eqn
  refine c_typedT _ g wf (by omega) 1 y e rfl (fun j z hj hz => ?_) ⟨_, _, c_refTypedE g y e h2 hg (wf.term (by simp [fmEq, Fm.terms])) (gy.err0 (by omega)) (by omega), .inl ⟨h2.ne, rfl⟩⟩
  obtain rfl : j = 0 := by omega
  simp [fmEq, Fm.terms] at hz
  subst hz
  exact c_refTyped g x tNat h1 hg (wf.term (by simp [fmEq, Fm.terms])) (gx.err0 (by omega)) (by omega)
 | @eq2T g x y s h1 h2 gs hs =>
  intro gf zf wf hg hb
  rw [fmSz_eq] at zf hb
  obtain ⟨gx, gy⟩ := gf.eqn
  refine c_typedT _ g wf (by omega) 1 y 7 rfl (fun j z hj hz => ?_) ⟨_, _, c_refTyped g y s h2 hg (wf.term (by simp [fmEq, Fm.terms])) (gy.err0 (by omega)) (by omega), .inr ⟨rfl, gs.notNat hs, rfl⟩⟩
  obtain rfl : j = 0 := by omega
  simp [fmEq, Fm.terms] at hz
  subst hz
  exact c_refTyped g x tNat h1 hg (wf.term (by simp [fmEq, Fm.terms])) (gx.err0 (by omega)) (by omega)
 | @two1 g k a b e hk h1 ih =>
  intro gf zf wf hg hb
  rw [fmSz_two] at zf hb
  obtain ⟨ga, gb⟩ := gf.twoA hk
  have hq : quant (fmTwo k a b).kind = false := by rcases hk with rfl | rfl <;> rfl
  refine c_typedA _ g wf (by omega) 0 a e h1.ne rfl (by simp [fmTwo, Fm.terms]) (fun j _ hj => absurd hj (by omega)) ?_
  rw [hq]
  simp only [Bool.false_eq_true, if_false]
  exact ih ga (by omega) (wf.arg (by simp [fmTwo, Fm.args])) hg (by omega)
 | @two2 g k a b e hk h1 h2 ih =>
  intro gf zf wf hg hb
  rw [fmSz_two] at zf hb
  obtain ⟨ga, gb⟩ := gf.twoA hk
  have hq : quant (fmTwo k a b).kind = false := by rcases hk with rfl | rfl <;> rfl
  refine c_typedA _ g wf (by omega) 1 b e h2.ne rfl (by simp [fmTwo, Fm.terms]) (fun j z hj hz => ?_) ?_
  ·obtain rfl : j = 0 := by omega
   simp [fmTwo, Fm.args] at hz
   subst hz
   rw [hq]
   simp only [Bool.false_eq_true, if_false]
   exact c_typed _ a g (Nat.le_refl _) h1 ga (by omega) (wf.arg (by simp [fmTwo, Fm.args])) hg (by omega)
  ·rw [hq]
   simp only [Bool.false_eq_true, if_false]
   exact ih gb (by omega) (wf.arg (by simp [fmTwo, Fm.args])) hg (by omega)
 | @q g k s a e hk gs h1 ih =>
  intro gf zf wf hg hb
  rw [fmSz_q] at zf hb
  have ga := gf.qA hk
  have hq : quant (fmQ k s a).kind = true := by rcases hk with rfl | rfl | rfl | rfl <;> rfl
  refine c_typedA _ g wf (by omega) 0 a e h1.ne rfl (by simp [fmQ, Fm.terms]) (fun j _ hj => absurd hj (by omega)) ?_
  rw [hq]
  simp only [if_true]
  exact ih ga (by omega) (wf.arg (by simp [fmQ, Fm.args])) (by intro y hy; rcases List.mem_append.1 hy with hy | hy; exact hg y hy; simp [fmQ, Fm.type] at hy; subst hy; exact gs.1.W) (by simp; omega)
end Go.Proofs.YtkoeoklndhgejaaGreatDoor
