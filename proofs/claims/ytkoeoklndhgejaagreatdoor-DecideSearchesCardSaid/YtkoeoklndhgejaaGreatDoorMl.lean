/-
 Walks: several parts in one text.
-/
import Derived.Test.YtkoeoklndhgejaaGreatDoorOd
import Derived.Test.YtkoeoklndhgejaaGreatDoorAbsDc
set_option linter.unusedSimpArgs false
set_option linter.unusedVariables false
set_option maxRecDepth 20000
set_option maxHeartbeats 4000000
namespace Go.Proofs.YtkoeoklndhgejaaGreatDoor
open Go GoAbs Go.Proofs
theorem c_sSameF (a b : Ty) (ha : TyW a) (hb : TyW b) (hne : a ≠ b) : Pure Tryz.prog env 245 [.agg (szC a), .agg (szC b)] (.bool false) := by
 intro h
 have hc := c_SameType a ha b hb
 rw [same_ne hne, ty_cells, ty_cells] at hc
 unfold szC
 cases hq : (tyN a == tyN b) with
 | true =>
  clear ha hb hne
  exact ek_ Tryz.func245 [.tmp 4]
 | false =>
  clear ha hb hne
  exact ek_ Tryz.func245 [.tmp 4]
theorem c_sJoinE (k : Int) (a b : Ty) (ha : TyG a) (hb : TyG b) (hs : 63 < tySz a + tySz b) : Pure Tryz.prog env 232 [.int .i64 k, .agg (szC a), .agg (szC b)] (.tup [.agg zS, .int .i64 4]) := by
 intro h
 have za := ha.2
 have zb := hb.2
 unfold szC zS
 rw [tyN_G ha, tyN_G hb]
 have w1 : IntKind.i64.wrap (1 + (tySz a : Int)) = 1 + (tySz a : Int) := wrap_eq rfl (by omega) (by omega)
 have w2 : IntKind.i64.wrap (1 + (tySz a : Int) + (tySz b : Int)) = 1 + (tySz a : Int) + (tySz b : Int) := wrap_eq rfl (by omega) (by omega)
 have hd : decide (1 + (tySz a : Int) + (tySz b : Int) > 64) = true := by simp; omega
 clear hs
 exact ek_ Tryz.func232 [.cell 6 183, .tmp 7]
theorem c_nodeAppE (t : Tm) (a b : Ty) (hk : t.kind = 3) (ga : TyG a) (gb : TyG b) (hne : ∀ s, a ≠ tFun b s) : Pure Tryz.prog env 233 [.agg t.cells, .agg (padS [a, b])] (.tup [.agg zS, .int .i64 7]) := by
 intro h
 have h1 := c_plainK 3 [] rfl
 simp only [List.map_nil] at h1
 have p0 : decide (((0 : Nat) : Int) > 0) = false := rfl
 have z0 : ((0 : Int) < ((3 : Nat) : Int)) = True := by simp
 have z1 : ((1 : Int) < ((3 : Nat) : Int)) = True := by simp
 rcases ga.notFun hne with q4 | ⟨x, y, rfl, hxb, gx⟩
 ·have i1 := c_sIs a 4
  rw [show (a.kind == 4) = false by simpa using q4] at i1
  clear hne q4 ga gb
  rw [padS2]
  unfold szC zS at *
  exact ek_ Tryz.func233 [.cell 4 183, .tmp 5]
 ·have i1 := c_sIs (tFun x y) 4
  have i2 := c_sPart (tFun x y) 0 x rfl gx.1.W
  have i4 := c_sSameF x b gx.1.W gb.1.W hxb
  rw [show ((tFun x y).kind == 4) = true from rfl] at i1
  clear hne ga gb gx hxb
  generalize tFun x y = f at *
  rw [padS2]
  unfold szC zS at *
  exact ek_ Tryz.func233 [.cell 4 183, .tmp 5]
theorem c_nodeSuccE (t : Tm) (a : Ty) (hk : t.kind = 5) (ga : TyG a) (hne : a ≠ tNat) : Pure Tryz.prog env 233 [.agg t.cells, .agg (padS [a])] (.tup [.agg zS, .int .i64 7]) := by
 intro h
 have h1 := c_plainK t.kind [1, 1] (by rw [hk]; rfl)
 have i1 := c_sIs a 1
 rw [show (a.kind == 1) = false by simpa using ga.notNat hne] at i1
 simp only [List.map_nil, List.map_cons] at h1
 rw [padS1]
 unfold szC zS at *
 clear hk hne ga
 have mn : ∀ (f : Operand → V), Option.map f none = none := fun _ => rfl
 have p2 : decide (((2 : Nat) : Int) > 0) = true := rfl
 refine en_ Tryz.func233 [.cell 4 183, .tmp 5] fun g0 w0 gen hrel hfr hfr' hres => ?_
 refine wq_ ?_
 refine ar_ [2, 3, 4, 6, 18] [⟨gen, 0, 0⟩, ⟨gen, 0, 1⟩, ⟨gen, 0, 2⟩] (fun i σ => Agree h σ.h ∧ i ≤ 0) ([(1 : Int)]).length ?_ ?_ ?_
 ·simp only [go_sem, *]
  exact ag_
 ·
  intro i σ gr0 hgl_gr0 hgn hlt jI jN jS ⟨jA, jU⟩
  obtain ⟨jT, jB⟩ := jS
  simp only [go_sem] at jT jB
  obtain ⟨hgf, hgf0, eg_gen_gr0, eh_gen_gr0⟩ := rnd hgn hgl_gr0 jA
  obtain ⟨x, hx, hxm, hm⟩ := rnx hlt
  clear hgn
  obtain rfl : i = 0 := by simpa using hlt
  replace jI : σ.tm 20 = .int .i64 0 := jI
  have z0 : ((0 : Int) < ((3 : Nat) : Int)) = True := by simp
  simp at hx
  subst hx
  exact wk_
 ·
  intro σ ga0 hgl_ga0 hgn jS ⟨jA, jU⟩
  obtain ⟨jT, jB⟩ := jS
  simp only [go_sem] at jT jB
  obtain ⟨hgf, hgf0, eg_gen_ga0, eh_gen_ga0⟩ := rnd hgn hgl_ga0 jA
  clear hgn
  exact absurd jU (by simp)
theorem c_nodeConsE (t : Tm) (a b : Ty) (hk : t.kind = 8) (ga : TyG a) (gb : TyG b) (hne : ¬(a = tNat ∧ b = tList)) : Pure Tryz.prog env 233 [.agg t.cells, .agg (padS [a, b])] (.tup [.agg zS, .int .i64 7]) := by
 intro h
 have h1 := c_plainK t.kind [2, 1, 2] (by rw [hk]; rfl)
 have i1 := c_sIs a 1
 have i2 := c_sIs b 2
 have hn : (a.kind == 1) = false ∨ ((a.kind == 1) = true ∧ (b.kind == 2) = false) := by
  by_cases ha : a = tNat
  ·subst ha
   exact .inr ⟨rfl, by simpa using gb.notList (fun e => hne ⟨rfl, e⟩)⟩
  ·exact .inl (by simpa using ga.notNat ha)
 simp only [List.map_nil, List.map_cons] at h1
 rw [padS2]
 unfold szC zS at *
 clear hk hne ga gb
 have mn : ∀ (f : Operand → V), Option.map f none = none := fun _ => rfl
 have p3 : decide (((3 : Nat) : Int) > 0) = true := rfl
 rcases hn with hn | ⟨hn, hm⟩
 ·rw [hn] at i1
  clear i2 hn
  refine en_ Tryz.func233 [.cell 4 183, .tmp 5] fun g0 w0 gen hrel hfr hfr' hres => ?_
  refine wq_ ?_
  refine ar_ [2, 3, 4, 6, 18] [⟨gen, 0, 0⟩, ⟨gen, 0, 1⟩, ⟨gen, 0, 2⟩] (fun i σ => Agree h σ.h ∧ i ≤ 0) ([(1 : Int), 2]).length ?_ ?_ ?_
  ·simp only [go_sem, *]
   exact ag_
  ·
   intro i σ gr0 hgl_gr0 hgn hlt jI jN jS ⟨jA, jU⟩
   obtain ⟨jT, jB⟩ := jS
   simp only [go_sem] at jT jB
   obtain ⟨hgf, hgf0, eg_gen_gr0, eh_gen_gr0⟩ := rnd hgn hgl_gr0 jA
   obtain ⟨x, hx, hxm, hm⟩ := rnx hlt
   clear hgn
   obtain rfl : i = 0 := by omega
   replace jI : σ.tm 20 = .int .i64 0 := jI
   have z0 : ((0 : Int) < ((3 : Nat) : Int)) = True := by simp
   simp at hx
   subst hx
   exact wk_
  ·
   intro σ ga0 hgl_ga0 hgn jS ⟨jA, jU⟩
   obtain ⟨jT, jB⟩ := jS
   simp only [go_sem] at jT jB
   obtain ⟨hgf, hgf0, eg_gen_ga0, eh_gen_ga0⟩ := rnd hgn hgl_ga0 jA
   clear hgn
   exact absurd jU (by simp)
 ·rw [hn] at i1
  rw [hm] at i2
  clear hn hm
  refine en_ Tryz.func233 [.cell 4 183, .tmp 5] fun g0 w0 gen hrel hfr hfr' hres => ?_
  refine wq_ ?_
  refine ar_ [2, 3, 4, 6, 18] [⟨gen, 0, 0⟩, ⟨gen, 0, 1⟩, ⟨gen, 0, 2⟩] (fun i σ => Agree h σ.h ∧ i ≤ 1) ([(1 : Int), 2]).length ?_ ?_ ?_
  ·simp only [go_sem, *]
   exact ag_
  ·
   intro i σ gr0 hgl_gr0 hgn hlt jI jN jS ⟨jA, jU⟩
   obtain ⟨jT, jB⟩ := jS
   simp only [go_sem] at jT jB
   obtain ⟨hgf, hgf0, eg_gen_gr0, eh_gen_gr0⟩ := rnd hgn hgl_gr0 jA
   obtain ⟨x, hx, hxm, hm⟩ := rnx hlt
   clear hgn
   match i, hlt with
   | 0, _ =>
    replace jI : σ.tm 20 = .int .i64 0 := jI
    have z0 : ((0 : Int) < ((3 : Nat) : Int)) = True := by simp
    simp at hx
    subst hx
    clear jU
    first|refine wq_ ?_|exact wk_
    all_goals first | rfl | simp
   | 1, _ =>
    replace jI : σ.tm 20 = .int .i64 1 := jI
    have z1 : ((1 : Int) < ((3 : Nat) : Int)) = True := by simp
    simp at hx
    subst hx
    exact wk_
   | i + 2, h2 => simp at h2; omega
  ·
   intro σ ga0 hgl_ga0 hgn jS ⟨jA, jU⟩
   obtain ⟨jT, jB⟩ := jS
   simp only [go_sem] at jT jB
   obtain ⟨hgf, hgf0, eg_gen_ga0, eh_gen_ga0⟩ := rnd hgn hgl_ga0 jA
   clear hgn
   exact absurd jU (by simp)
theorem c_nodeRecE (t : Tm) (x : Ty) (n : Int) (a b c : Ty) (hx : (t.kind = 6 ∧ x = tNat ∧ n = 1) ∨ (t.kind = 9 ∧ x = tList ∧ n = 2)) (gt : TyG t.type) (ga : TyG a) (gb : TyG b) (gc : TyG c)
  (hne : ¬(a = t.type ∧ b = (if t.kind == 9 then funs [tNat, tList, t.type] t.type else funs [tNat, t.type] t.type) ∧ c = x)) :
  Pure Tryz.prog env 233 [.agg t.cells, .agg (padS [a, b, c])] (.tup [.agg zS, .int .i64 7]) := by
 intro h
 have h2 := c_tStep t (by rcases hx with h | h; exact .inl h.1; exact .inr h.1)
 have i1 := c_sOf t.type gt.1.W
 have wf : TyW (if t.kind == 9 then funs [tNat, tList, t.type] t.type else funs [tNat, t.type] t.type) := by
  split
  ·exact tFun_W tNat_W (tFun_W tList_W (tFun_W gt.1.W gt.1.W))
  ·exact tFun_W tNat_W (tFun_W gt.1.W gt.1.W)
 have i3 := c_SameType b gb.1.W _ wf
 have hcase : (a ≠ t.type) ∨ (a = t.type ∧ b ≠ (if t.kind == 9 then funs [tNat, tList, t.type] t.type else funs [tNat, t.type] t.type)) ∨ (a = t.type ∧ b = (if t.kind == 9 then funs [tNat, tList, t.type] t.type else funs [tNat, t.type] t.type) ∧ (c.kind == n) = false) := by
  by_cases h1 : a = t.type
  ·by_cases h2 : b = (if t.kind == 9 then funs [tNat, tList, t.type] t.type else funs [tNat, t.type] t.type)
   ·refine .inr (.inr ⟨h1, h2, ?_⟩)
    have hc : c ≠ x := fun e => hne ⟨h1, h2, e⟩
    rcases hx with ⟨_, rfl, rfl⟩ | ⟨_, rfl, rfl⟩
    ·simpa using gc.notNat hc
    ·simpa using gc.notList hc
   ·exact .inr (.inl ⟨h1, h2⟩)
  ·exact .inl h1
 have i4 := c_sIs c n
 have p0 : decide (((0 : Nat) : Int) > 0) = false := rfl
 have z0 : ((0 : Int) < ((3 : Nat) : Int)) = True := by simp
 have z1 : ((1 : Int) < ((3 : Nat) : Int)) = True := by simp
 have z2 : ((2 : Int) < ((3 : Nat) : Int)) = True := by simp
 have hk : (t.kind = 6 ∧ n = 1) ∨ (t.kind = 9 ∧ n = 2) := by rcases hx with ⟨h, _, h'⟩ | ⟨h, _, h'⟩ <;> simp [h, h']
 have hF : a ≠ t.type → Pure Tryz.prog env 245 [.agg (szC a), .agg (szC t.type)] (.bool false) := fun hn => c_sSameF a t.type ga.1.W gt.1.W hn
 have hT := c_sSame a ga.1.W
 generalize hf : (if t.kind == 9 then funs [tNat, tList, t.type] t.type else funs [tNat, t.type] t.type) = f at *
 have fc := ty_cells f
 have bc := ty_cells b
 rw [padS3]
 have key : ∀ (k : Int), t.kind = k → plainK k = [] → Pure Tryz.prog env 243 [.int .i64 k] (.sl .any []) := fun k _ hp => c_plainK k [] hp
 clear hne hx gt gb gc wf hf
 rcases hcase with hn | ⟨rfl, hn⟩ | ⟨rfl, rfl, hn⟩
 ·have i2 := hF hn
  clear hF hT i3 hn ga
  rw [fc] at h2
  unfold szC zS at *
  rcases hk with ⟨hk, rfl⟩ | ⟨hk, rfl⟩
  ·have h1 := key 6 hk rfl
   clear key
   exact ek_ Tryz.func233 [.cell 4 183, .tmp 5]
  ·have h1 := key 9 hk rfl
   clear key
   exact ek_ Tryz.func233 [.cell 4 183, .tmp 5]
 ·rw [same_ne hn, fc, bc] at i3
  rw [fc] at h2
  clear hF hn ga
  generalize hta : t.type = a at *
  unfold szC zS at *
  rcases hk with ⟨hk, rfl⟩ | ⟨hk, rfl⟩
  ·have h1 := key 6 hk rfl
   clear key
   exact ek_ Tryz.func233 [.cell 4 183, .tmp 5]
  ·have h1 := key 9 hk rfl
   clear key
   exact ek_ Tryz.func233 [.cell 4 183, .tmp 5]
 ·rw [Ty.same_refl, bc] at i3
  rw [hn] at i4
  rw [bc] at h2
  clear hF hn ga fc
  generalize hta : t.type = a at *
  unfold szC zS at *
  rcases hk with ⟨hk, rfl⟩ | ⟨hk, rfl⟩
  ·have h1 := key 6 hk rfl
   clear key
   exact ek_ Tryz.func233 [.cell 4 183, .tmp 5]
  ·have h1 := key 9 hk rfl
   clear key
   exact ek_ Tryz.func233 [.cell 4 183, .tmp 5]
theorem c_nodePairE (t : Tm) (a b : Ty) (hk : t.kind = 10) (ga : TyG a) (gb : TyG b) (hs : 63 < tySz a + tySz b) : Pure Tryz.prog env 233 [.agg t.cells, .agg (padS [a, b])] (.tup [.agg zS, .int .i64 4]) := by
 intro h
 have h1 := c_plainK 10 [] rfl
 have i1 := c_sJoinE 3 a b ga gb hs
 simp only [List.map_nil] at h1
 rw [padS2]
 unfold szC zS at *
 have p0 : decide (((0 : Nat) : Int) > 0) = false := rfl
 have z0 : ((0 : Int) < ((3 : Nat) : Int)) = True := by simp
 have z1 : ((1 : Int) < ((3 : Nat) : Int)) = True := by simp
 clear ga gb hs
 exact ek_ Tryz.func233 [.cell 4 183, .tmp 5]
theorem c_nodeProjE (t : Tm) (a : Ty) (hk : t.kind = 11 ∨ t.kind = 12) (ga : TyG a) (hne : ∀ x y, a ≠ tPair x y) : Pure Tryz.prog env 233 [.agg t.cells, .agg (padS [a])] (.tup [.agg zS, .int .i64 7]) := by
 intro h
 have i1 := c_sIs a 3
 rw [show (a.kind == 3) = false by simpa using ga.notPair hne] at i1
 have p0 : decide (((0 : Nat) : Int) > 0) = false := rfl
 have z0 : ((0 : Int) < ((3 : Nat) : Int)) = True := by simp
 clear ga hne
 rw [padS1]
 unfold szC zS at *
 rcases hk with hk | hk
 ·have h1 := c_plainK 11 [] rfl
  simp only [List.map_nil] at h1
  exact ek_ Tryz.func233 [.cell 4 183, .tmp 5]
 ·have h1 := c_plainK 12 [] rfl
  simp only [List.map_nil] at h1
  exact ek_ Tryz.func233 [.cell 4 183, .tmp 5]
theorem c_typeOfNodeE (g : List Ty) (k : Int) (ty : Ty) (hty : TyW ty) (l : List Tm) (ts : List Ty) (e : Int) (hN : NodeEr k ty ts e) (hlen : l.length = ts.length) (hts : ∀ y ∈ ts, TyG y) (hgt : typed k = true → TyG ty)
  (ih : ∀ (j : Nat) (x : Tm) (a : Ty), l[j]? = some x → ts[j]? = some a → Pure Tryz.prog env 217 [.sl .any (g.map szC), .agg x.cells] (.tup [.agg (szC a), .int .i64 0])) :
  Pure Tryz.prog env 217 [.sl .any (g.map szC), .agg (tmT k ty l).cells] (.tup [.agg zS, .int .i64 e]) := by
 intro h
 have hl3 : l.length ≤ 3 := by rw [hlen]; cases hN <;> simp
 have hnode : Pure Tryz.prog env 233 [.agg (tmT k ty l).cells, .agg (padS ts)] (.tup [.agg zS, .int .i64 e]) := by
  cases hN with
  | app hne => exact c_nodeAppE _ _ _ rfl (hts _ (by simp)) (hts _ (by simp)) hne
  | succ hne => exact c_nodeSuccE _ _ rfl (hts _ (by simp)) hne
  | recr hne => exact c_nodeRecE (tmT 6 ty l) tNat 1 _ _ _ (.inl ⟨rfl, rfl, rfl⟩) (hgt rfl) (hts _ (by simp)) (hts _ (by simp)) (hts _ (by simp)) hne
  | cons hne => exact c_nodeConsE _ _ _ rfl (hts _ (by simp)) (hts _ (by simp)) hne
  | fold hne => exact c_nodeRecE (tmT 9 ty l) tList 2 _ _ _ (.inr ⟨rfl, rfl, rfl⟩) (hgt rfl) (hts _ (by simp)) (hts _ (by simp)) (hts _ (by simp)) hne
  | pair hs => exact c_nodePairE _ _ _ rfl (hts _ (by simp)) (hts _ (by simp)) hs
  | fst hne => exact c_nodeProjE _ _ (.inl rfl) (hts _ (by simp)) hne
  | snd hne => exact c_nodeProjE _ _ (.inr rfl) (hts _ (by simp)) hne
 have hk1 : (k == 1) = false := by cases hN <;> rfl
 have hk2 : (k == 2) = false := by cases hN <;> rfl
 have e1 : (tmT k ty l).kind = k := rfl
 have e3 : (tmT k ty l).args = l := rfl
 generalize tmT k ty l = t at *
 have n0 : ((0 : Int) != 0) = false := rfl
 have hget : ∀ (i : Nat) (x : Tm), l[i]? = some x → ∃ a, ts[i]? = some a := fun i x hx => ⟨_, List.getElem?_eq_getElem (by have := (List.getElem?_eq_some_iff.1 hx).1; omega)⟩
 have hlen' : ts.take l.length = ts := by rw [hlen, List.take_length]
 clear hlen hgt hty hN hts
 refine en_ Tryz.func217 [.cell 4 183, .tmp 5] fun g0 w0 gen hrel hfr hfr' hres => ?_
 refine wq_ ?_
 refine ar_ [0, 3, 4, 9, 65] [⟨gen, 0, 0⟩, ⟨gen, 0, 1⟩] (fun i σ => Agree h σ.h ∧ σ.h ⟨gen, 11, 0⟩ = some (.box (padF (ts.take i)))) (l).length ?_ ?_ ?_
 ·simp only [go_sem, *]
  exact ⟨ag_, rfl⟩
 ·clear hlen' hnode
  intro i σ gr0 hgl_gr0 hgn hlt jI jN jS ⟨jA, jb⟩
  obtain ⟨jT, jB⟩ := jS
  simp only [go_sem] at jT jB
  obtain ⟨hgf, hgf0, eg_gen_gr0, eh_gen_gr0⟩ := rnd hgn hgl_gr0 jA
  obtain ⟨x, hx, hxm, hm⟩ := rnx hlt
  clear hgn
  obtain ⟨a, ha⟩ := hget i x hx
  have hc := ih i x a hx ha
  have htk : ts.take (i + 1) = ts.take i ++ [a] := by rw [List.take_add_one, ha]; rfl
  have htl : (ts.take i).length = i := by rw [List.length_take]; have := (List.getElem?_eq_some_iff.1 ha).1; omega
  generalize ts.take i = q at *
  clear ih hget
  unfold szC at hc
  match q, htl with
  | [], e =>
   obtain rfl : i = 0 := e.symm
   replace jI : σ.tm 67 = .int .i64 0 := jI
   have z0 : ((0 : Int) < ((3 : Nat) : Int)) = True := by simp
   rw [padF0] at jb
   simp only [htk, List.nil_append, padF1]
   first|refine wq_ ?_|exact wk_
   all_goals first | rfl|exact ag_
  | [b], e =>
   obtain rfl : i = 1 := e.symm
   replace jI : σ.tm 67 = .int .i64 1 := jI
   have z0 : ((1 : Int) < ((3 : Nat) : Int)) = True := by simp
   rw [padF1] at jb
   simp only [htk, List.cons_append, List.nil_append, padF2]
   first|refine wq_ ?_|exact wk_
   all_goals first | rfl|exact ag_
  | [b, c], e =>
   obtain rfl : i = 2 := e.symm
   replace jI : σ.tm 67 = .int .i64 2 := jI
   have z0 : ((2 : Int) < ((3 : Nat) : Int)) = True := by simp
   rw [padF2] at jb
   simp only [htk, List.cons_append, List.nil_append, padF3]
   first|refine wq_ ?_|exact wk_
   all_goals first | rfl|exact ag_
  | _ :: _ :: _ :: _, e => simp at e; omega
 ·
  intro σ ga0 hgl_ga0 hgn jS ⟨jA, jb⟩
  obtain ⟨jT, jB⟩ := jS
  simp only [go_sem] at jT jB
  obtain ⟨hgf, hgf0, eg_gen_ga0, eh_gen_ga0⟩ := rnd hgn hgl_ga0 jA
  clear hgn
  rw [hlen'] at jb
  have pl : (padF ts).length = 9 ∧ weakL (padF ts) = padS ts := by
   have : ts.length ≤ 3 := by rw [← hlen', List.length_take]; omega
   clear jb hnode hlen'
   match ts, this with
   | [], _ => exact ⟨rfl, by simp [padF0, padS0, weakL, weak, weakLL]⟩
   | [a], _ => exact ⟨rfl, by simp [padF1, padS1, weakL, weak, weakLL, weakLL_Ty]⟩
   | [a, b], _ => exact ⟨rfl, by simp [padF2, padS2, weakL, weak, weakLL, weakLL_Ty]⟩
   | [a, b, c], _ => exact ⟨rfl, by simp [padF3, padS3, weakL, weak, weakLL, weakLL_Ty]⟩
   | _ :: _ :: _ :: _ :: _, h => simp at h
  clear ih hget hlen'
  generalize padF ts = pc at *
  generalize padS ts = pd at *
  obtain ⟨pl, pw⟩ := pl
  have pt : List.take 9 pc = pc := List.take_of_length_le (by omega)
  unfold zS at *
  exact wk_
theorem c_typeOfArgE (g : List Ty) (k : Int) (ty : Ty) (l : List Tm) (ts : List Ty) (x0 : Tm) (e : Int) (hk1 : (k == 1) = false) (hk2 : (k == 2) = false) (hl3 : l.length ≤ 3) (he : (e != 0) = true) (hx0 : l[ts.length]? = some x0)
  (ih : ∀ (j : Nat) (x : Tm) (a : Ty), l[j]? = some x → ts[j]? = some a → Pure Tryz.prog env 217 [.sl .any (g.map szC), .agg x.cells] (.tup [.agg (szC a), .int .i64 0]))
  (ihE : Pure Tryz.prog env 217 [.sl .any (g.map szC), .agg x0.cells] (.tup [.agg zS, .int .i64 e])) :
  Pure Tryz.prog env 217 [.sl .any (g.map szC), .agg (tmT k ty l).cells] (.tup [.agg zS, .int .i64 e]) := by
 intro h
 have e1 : (tmT k ty l).kind = k := rfl
 have e3 : (tmT k ty l).args = l := rfl
 generalize tmT k ty l = t at *
 have n0 : ((0 : Int) != 0) = false := rfl
 have hlx : ts.length < l.length := (List.getElem?_eq_some_iff.1 hx0).1
 unfold zS at *
 refine en_ Tryz.func217 [.cell 4 183, .tmp 5] fun g0 w0 gen hrel hfr hfr' hres => ?_
 refine wq_ ?_
 refine ar_ [0, 3, 4, 9, 65] [⟨gen, 0, 0⟩, ⟨gen, 0, 1⟩] (fun i σ => Agree h σ.h ∧ i ≤ ts.length ∧ σ.h ⟨gen, 11, 0⟩ = some (.box (padF (ts.take i)))) (l).length ?_ ?_ ?_
 ·simp only [go_sem, *]
  exact ⟨ag_, Nat.zero_le _, rfl⟩
 ·
  intro i σ gr0 hgl_gr0 hgn hlt jI jN jS ⟨jA, ji, jb⟩
  obtain ⟨jT, jB⟩ := jS
  simp only [go_sem] at jT jB
  obtain ⟨hgf, hgf0, eg_gen_gr0, eh_gen_gr0⟩ := rnd hgn hgl_gr0 jA
  obtain ⟨x, hx, hxm, hm⟩ := rnx hlt
  clear hgn
  rcases Nat.lt_or_ge i ts.length with hi | hi
  ·obtain ⟨a, ha⟩ : ∃ a, ts[i]? = some a := ⟨_, List.getElem?_eq_getElem hi⟩
   have hc := ih i x a hx ha
   have htk : ts.take (i + 1) = ts.take i ++ [a] := by rw [List.take_add_one, ha]; rfl
   have htl : (ts.take i).length = i := by rw [List.length_take]; omega
   generalize ts.take i = q at *
   clear ih ihE hx0 ji
   unfold szC at hc
   match q, htl with
   | [], e =>
    obtain rfl : i = 0 := e.symm
    replace jI : σ.tm 67 = .int .i64 0 := jI
    have z0 : ((0 : Int) < ((3 : Nat) : Int)) = True := by simp
    rw [padF0] at jb
    simp only [htk, List.nil_append, padF1]
    first|refine wq_ ?_|exact wk_
    all_goals first | rfl|exact ⟨ag_, hi, rfl⟩|exact ⟨ag_, hi⟩|exact hi
   | [b], e =>
    obtain rfl : i = 1 := e.symm
    replace jI : σ.tm 67 = .int .i64 1 := jI
    have z0 : ((1 : Int) < ((3 : Nat) : Int)) = True := by simp
    rw [padF1] at jb
    simp only [htk, List.cons_append, List.nil_append, padF2]
    first|refine wq_ ?_|exact wk_
    all_goals first | rfl|exact ⟨ag_, hi, rfl⟩|exact ⟨ag_, hi⟩|exact hi
   | [b, c], e => simp at e; omega
   | _ :: _ :: _ :: _, e => simp at e; omega
  ·obtain rfl : i = ts.length := by omega
   rw [hx] at hx0
   cases hx0
   clear ih
   exact wk_
 ·
  intro σ ga0 hgl_ga0 hgn jS ⟨jA, ji, jb⟩
  obtain ⟨jT, jB⟩ := jS
  simp only [go_sem] at jT jB
  obtain ⟨hgf, hgf0, eg_gen_ga0, eh_gen_ga0⟩ := rnd hgn hgl_ga0 jA
  clear hgn
  omega
theorem c_typeOfE {g : List Ty} {t : Tm} {e : Int} (h : TmEr g t e) : TmG t → (∀ y ∈ g, TyW y) → TmW t → g.length + tmSz t ≤ 1000000 →
  Pure Tryz.prog env 217 [.sl .any (g.map szC), .agg t.cells] (.tup [.agg zS, .int .i64 e]) := by
 induction h with
 | @var g i hi =>
  intro _ hw _ hb h
  have e1 : (tmVar i).kind = 1 := rfl
  have e2 : (tmVar i).index = i := rfl
  have hd : decide (i ≥ (g.length : Int)) = true := by simp; omega
  generalize tmVar i = x at *
  clear hw hi
  unfold zS at *
  exact ek_ Tryz.func217 [.cell 4 183, .tmp 5]
 | @lamE g a t e gaa hE ih =>
  intro hG hw hW hb h
  rw [tmSz_T1] at hb
  have hwa : TyW a := hW.ty
  have wt : TmW t := hW.arg (by simp [tmT, Tm.args])
  have hc := ih (hG.arg (by simp [tmT, Tm.args])) (by intro y hy; rcases List.mem_append.1 hy with hy | hy; exact hw y hy; simp at hy; subst hy; exact hwa) wt (by simp; omega)
  have r1 := c_sOf a hwa
  have he := hE.ne
  have e1 : (tmT 2 a [t]).kind = 2 := rfl
  have e2 : (tmT 2 a [t]).type = a := rfl
  have e3 : (tmT 2 a [t]).args = [t] := rfl
  have n0 : ((0 : Int) != 0) = false := rfl
  have hwk : weakLL (g.map szC ++ [szC a]) = (g ++ [a]).map szC := by rw [← weakLL_sz (g ++ [a])]; simp
  have b3 : (g.length + 1) * 40 ≤ 140737488355328 := by omega
  have b4 : g.length + 1 ≤ 140737488355328 := by omega
  have t1 : (0 : Int) ≤ (g.length : Int) := by omega
  have t2 : ((g.length : Int)).toNat = g.length := Int.toNat_natCast _
  have t3 : List.take g.length (g.map szC) = g.map szC := List.take_of_length_le (by simp)
  have t4 : 0 ≤ g.length := by omega
  have t5 : g.length ≤ g.length := Nat.le_refl _
  have mn : ∀ (f : Operand → V), Option.map f none = none := fun _ => rfl
  have ml : (g.map szC).length = g.length := by simp
  generalize tmT 2 a [t] = x at *
  clear hw hW ih wt hwa hE gaa hG
  unfold zS at *
  exact ek_ Tryz.func217 [.cell 4 183, .tmp 5]
 | @lamS g a b t hT ga gb hsz =>
  intro hG hw hW hb h
  rw [tmSz_T1] at hb
  have hwa : TyW a := hW.ty
  have wt : TmW t := hW.arg (by simp [tmT, Tm.args])
  have hc := c_typeOf hT (by intro y hy; rcases List.mem_append.1 hy with hy | hy; exact hw y hy; simp at hy; subst hy; exact hwa) wt (by simp; omega)
  have r1 := c_sOf a hwa
  have r2 := c_sJoinE 4 a b ga gb hsz
  have e1 : (tmT 2 a [t]).kind = 2 := rfl
  have e2 : (tmT 2 a [t]).type = a := rfl
  have e3 : (tmT 2 a [t]).args = [t] := rfl
  have n0 : ((0 : Int) != 0) = false := rfl
  have hwk : weakLL (g.map szC ++ [szC a]) = (g ++ [a]).map szC := by rw [← weakLL_sz (g ++ [a])]; simp
  have b3 : (g.length + 1) * 40 ≤ 140737488355328 := by omega
  have b4 : g.length + 1 ≤ 140737488355328 := by omega
  have t1 : (0 : Int) ≤ (g.length : Int) := by omega
  have t2 : ((g.length : Int)).toNat = g.length := Int.toNat_natCast _
  have t3 : List.take g.length (g.map szC) = g.map szC := List.take_of_length_le (by simp)
  have t4 : 0 ≤ g.length := by omega
  have t5 : g.length ≤ g.length := Nat.le_refl _
  have mn : ∀ (f : Operand → V), Option.map f none = none := fun _ => rfl
  have ml : (g.map szC).length = g.length := by simp
  generalize tmT 2 a [t] = x at *
  clear hw hW wt hwa hT ga gb hsz hG
  unfold zS at *
  exact ek_ Tryz.func217 [.cell 4 183, .tmp 5]
 | @arg g k ty l ts x e hk1 hk2 hl3 hts hT hx hE ih =>
  intro hG hw hW hb
  have hsub : ∀ (j : Nat) (y : Tm), l[j]? = some y → TmG y ∧ TmW y ∧ g.length + tmSz y ≤ 1000000 := fun j y hy => by
   have hm := List.mem_of_getElem? hy
   refine ⟨hG.arg (by simpa [tmT, Tm.args] using hm), hW.arg (by simpa [tmT, Tm.args] using hm), ?_⟩
   have := tmSzL_mem hm
   have : tmSz (tmT k ty l) = tmSzL l + 1 := by simp [tmT, tmSz]
   omega
  exact c_typeOfArgE g k ty l ts x e hk1 hk2 hl3 hE.ne hx (fun j y a hy ha => c_typeOf (hT j y a hy ha) hw (hsub j y hy).2.1 (hsub j y hy).2.2) (ih (hsub _ _ hx).1 hw (hsub _ _ hx).2.1 (hsub _ _ hx).2.2)
 | @node g k ty l ts e hl hts hT hN =>
  intro hG hw hW hb
  have hsub : ∀ (j : Nat) (y : Tm), l[j]? = some y → TmW y ∧ g.length + tmSz y ≤ 1000000 := fun j y hy => by
   have hm := List.mem_of_getElem? hy
   refine ⟨hW.arg (by simpa [tmT, Tm.args] using hm), ?_⟩
   have := tmSzL_mem hm
   have : tmSz (tmT k ty l) = tmSzL l + 1 := by simp [tmT, tmSz]
   omega
  exact c_typeOfNodeE g k ty hW.ty l ts e hN hl hts (fun hk => hG.tyG hk) (fun j y a hy ha => c_typeOf (hT j y a hy ha) hw (hsub j y hy).1 (hsub j y hy).2)
end Go.Proofs.YtkoeoklndhgejaaGreatDoor
