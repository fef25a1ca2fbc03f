/-
 The abstract layer: plain laws, further ones.
-/
import Derived.Test.YteaijonkbbkkjaaGreatDoorAbsDb
import Derived.Test.YteaijonkbbkkjaaGreatDoorAbsDc
import Derived.Test.YteaijonkbbkkjaaGreatDoorAbsD
import Derived.ArgAppend
import Derived.OrdersIn
import Derived.BigRegionIn
set_option linter.unusedSimpArgs false
set_option linter.unusedVariables false
set_option linter.unusedSectionVars false
namespace GoAbs
open Go Go.RowKit
theorem stepIn_nothing {P : Program} {ops : Array Oper} {o : Oper} {a : Act} {w : World} {K : Act → World → Prop} {Q : Exit → Act → World → Prop} {E : Prop} {m : Nat}
  (hg : o.guard = none) (s x : Operand) (t : TypeId) (hop : o.op = Op.call { callee := Callee.builtin Builtin.append, args := #[s, x], argTypes := #[t, t] })
  (e : TypeId) (i : TypeInfo) (h1 : P.underlying t = some (.slice e)) (h2 : P.info? e = some i)
  (ao : Option Addr) (n cap : Nat) (hs : a.eval s = .slice ao n cap) (hle : n ≤ cap) (bo : Option Addr) (c : Nat) (hx : a.eval x = .slice bo 0 c)
  (hK : K (a.put o.dst (.slice ao n cap)) w) :
  if Region.wanted o (yielded ops a.tmps) = true then Oper.wpIn Fence.wide m P o a w K Q else E := by
 have hw : Region.wanted o (yielded ops a.tmps) = true := by simp [Region.wanted, hg]
 rw [if_pos hw]
 have hrun : (Builtin.append_ #[t, t] o.type #[.slice ao n cap, .slice bo 0 c]).run P w = .ok (.slice ao n cap) w := by
  cases ao <;> cases bo <;> simp [Builtin.append_, run_underlying h1, Go.sizeOf, typeInfo, h2, Builtin.lenOf, hle, Builtin.firstCells, loadCells, loadCellsFrom, storeCells]
 refine ⟨fun f _ => trivial, ?_⟩
 have : (o.semAt Fence.wide.round a.eval).run P w = .ok (.value (.slice ao n cap)) w := by
  simp [Oper.semAt, Fence.wide, execOp, hop, resolve, invoke, builtin, hs, hx, hrun, Result.andThen]
 rw [this]
 exact hK
theorem stepIn_grow {P : Program} {ops : Array Oper} {o : Oper} {a : Act} {w : World} {K : Act → World → Prop} {Q : Exit → Act → World → Prop} {E : Prop} {l : Nat}
  (hg : o.guard = none) (s x : Operand) (t : TypeId) (hop : o.op = Op.call { callee := Callee.builtin Builtin.append, args := #[s, x], argTypes := #[t, t] })
  (e : TypeId) (i : TypeInfo) (z : Value) (h1 : P.underlying t = some (.slice e)) (h2 : P.info? e = some i) (h3 : i.zero = some z)
  (b : Addr) (cap : Nat) (hs : a.eval s = .slice (some b) 0 cap)
  (ad : Addr) (m c : Nat) (news : List Value) (hx : a.eval x = .slice (some ad) m c) (hn : news.length = m * i.size) (hc : ∀ j u, news[j]? = some u → w.cell? (ad.add j) = some u)
  (hfull : cap < m) (b1 : m ≤ 1000) (b2 : i.bytes ≤ 1000)
  (hK : ∀ (c' : Nat) (arr : Array Value), m ≤ c' → (∀ (j : Nat) (u : Value), news[j]? = some u → arr[j]? = some u) → K (a.put o.dst (.slice (some ⟨w.heap.size, 0, none⟩) m c')) (w.drew.alloc (.cells arr e))) :
  if Region.wanted o (yielded ops a.tmps) = true then Oper.wpIn Fence.wide l P o a w K Q else E := by
 have hw : Region.wanted o (yielded ops a.tmps) = true := by simp [Region.wanted, hg]
 rw [if_pos hw]
 have hmb : m * i.bytes ≤ 140737488355328 := Nat.le_trans (Nat.mul_le_mul b1 b2) (by decide)
 have hrun := run_append_grow (P := P) w t o.type e i z h1 h2 h3 b 0 cap [] (by simp) (fun j u h => by simp at h) ad m c news hn hc (by omega) (by omega) (growslice_fits (by omega) (by simpa using hmb))
 rw [Nat.zero_add] at hrun
 refine ⟨fun f _ => trivial, ?_⟩
 have : (o.semAt Fence.wide.round a.eval).run P w = .ok (.value (.slice (some ⟨w.heap.size, 0, none⟩) m (grownCap w m cap e))) (w.drew.alloc (.cells ((#[] : Array Value) ++ news.toArray ++ Builtin.zeroCells z.cells (grownCap w m cap e - m)) e)) := by
  simp [Oper.semAt, Fence.wide, execOp, hop, resolve, invoke, builtin, hs, hx, hrun, Result.andThen]
 rw [this]
 refine hK _ _ (grownCap_ge w m cap e) fun j u h => ?_
 have hj : j < news.length := (List.getElem?_eq_some_iff.1 h).1
 rw [Array.getElem?_append_left (by simp; omega)]
 simpa using h
theorem run_eqIn_sliceNil {P : Program} (w : World) (d : Nat) (t e : TypeId) (a : Option Addr) (n c n' c' : Nat) (h : P.underlying t = some (.slice e)) :
  (Op.equalIn (d + 1) t (.slice a n c) (.slice none n' c')).run P w = .ok a.isNone w := by
 cases a <;> simp [Op.equalIn, run_underlying h]
theorem nilcmp_run {P : Program} {ρc : Operand → Value} {o : Oper} {t e t' : TypeId} {x y : Operand} (hop : o.op = .binOp .eql t x y t') (ht : P.underlying t = some (.slice e)) {a : Option Addr} {n c n' c' : Nat} (hx : ρc x = .slice a n c) (hy : ρc y = .slice none n' c') (w : World) :
  (execOp ρc o).run P w = .ok (.value (.bool a.isNone)) w := by
 simp only [execOp, hop, hx, hy, eqGuard, binOp]
 simp [Op.equal, Op.maxDepth, run_eqIn_sliceNil w 9999 t e a n c n' c' ht]
theorem AR_region_nil {c : Ctx} {gen : Nat} {k : List It} {σ : St} {id : Nat} {ops : Array Oper} (j : Nat) {o : Oper} {x : Operand} {t e t' : TypeId} {d n' c' : Nat} (hops : ops[j]? = some o) (hg : o.guard = none) (hdst : o.dst = some d)
  (hop : o.op = .binOp .eql t x (.const (.slice none n' c')) t') (ht : c.P.underlying t = some (.slice e))
  (h : aops c.P c.env ops false gen id (ops.toList.take j) 0 [] (fun σ1 => ∃ cc es, av c.env σ1.tm x = .sl cc es ∧ ∀ b : Bool, (b = true → es = []) →
   aops c.P c.env ops false gen id (ops.toList.drop (j + 1)) (j + 1) [] (fun σ' => AR c gen k .normal σ') ⟨upd σ1.tm (some d) (.bool b), σ1.h⟩) σ) :
  AR c gen (.code (.region id ops false) :: k) .normal σ := by
 rw [← hdst] at h
 intro ok hm g a w hx r
 simp only [okStk, okCode, Bool.and_eq_true] at ok
 obtain ⟨⟨hd, _⟩, okk⟩ := ok
 have hj : j < ops.size := (Array.getElem?_eq_some_iff.1 hops).1
 obtain ⟨l1, σ1, h1, h2, cc, es, hA, hq⟩ := aops_pre (ops.toList.take j) 0 [] σ (fun i o h => by
  rw [List.getElem?_take] at h
  split at h
  ·simpa using h
  ·cases h) h
 have hl1 : l1.map (·.1) = List.range j := by
  rw [h1, List.length_take]
  rw [Nat.min_eq_left (by simpa using Nat.le_of_lt hj)]
  simp
 refine wp_region ?_
 have hsplit : List.range ops.size = List.range j ++ (j :: (List.range (ops.size - (j + 1))).map (j + 1 + ·)) := by
  apply List.ext_getElem?
  intro i
  by_cases hi : i < j
  ·rw [List.getElem?_append_left (by simpa using hi), List.getElem?_range (by omega), List.getElem?_range hi]
  ·rw [List.getElem?_append_right (by simpa using hi)]
   simp only [List.length_range]
   rcases Nat.eq_or_lt_of_le (Nat.le_of_not_lt hi) with e | hlt
   ·subst e; simp [hj]
   ·obtain ⟨m, rfl⟩ : ∃ m, i = j + 1 + m := ⟨i - (j + 1), by omega⟩
    rw [show j + 1 + m - j = m + 1 by omega, List.getElem?_cons_succ]
    by_cases hm : m < ops.size - (j + 1)
    ·rw [List.getElem?_map, List.getElem?_range hm, List.getElem?_range (by omega)]; simp
    ·rw [List.getElem?_eq_none (by simp; omega), List.getElem?_eq_none (by simp; omega)]
 rw [hsplit, ← hl1]
 refine chain_app hd _ l1 h2 r fun g' a' w' hx' r' => ?_
 rw [wpOps_cons]
 unfold wpOp
 rw [hops]
 have hw : Region.wanted o (yielded ops a'.tmps) = true := by unfold Region.wanted; rw [hg]
 simp only [hw, if_true]
 have hrx := rv_av r' x
 rw [hA] at hrx
 obtain ⟨ao, cap, hev, hne⟩ : ∃ ao cap, a'.eval x = .slice ao es.length cap ∧ (ao.isNone = true → es = []) := by
  generalize a'.eval x = v at hrx
  cases hrx with
  | sl ao cap _ _ kk cell hk hcap hrun hr hc =>
   refine ⟨ao, cap, rfl, fun hn => ?_⟩
   by_cases he : es = []
   ·exact he
   ·obtain ⟨b, off, e, _⟩ := hrun he
    rw [e] at hn; simp at hn
 have hrun := nilcmp_run (P := c.P) (ρc := a'.eval) hop ht hev rfl w'
 refine .inl ?_
 simp only [Oper.wp, hrun, Oper.upon_value]
 have r2 := r'.put (Ext.refl g' w') (d := o.dst) (fun t ht => dstOk_at hd hops t ht) r'.rel (RV.bool ao.isNone)
 obtain ⟨l3, σ3, h3, h4, h5⟩ := aops_pre (ops.toList.drop (j + 1)) (j + 1) [] _ (fun i o h => by
  rw [List.getElem?_drop] at h
  simpa using h) (hq ao.isNone hne)
 have hl3 : l3.map (·.1) = (List.range (ops.size - (j + 1))).map (j + 1 + ·) := by
  rw [h3, List.length_drop]; simp
 rw [← hl3]
 exact chain_ops hd l3 h4 r2 fun g3 a3 w3 hx3 r3 => h5 okk hm g3 a3 w3 ((hx.trans hx').trans hx3) r3
def yO (c : Ctx) : YC := ⟨Fence.wide, [], fun _ w => c.w0.heap.size ≤ w.heap.size, bodyPostM Fence.wide 0 c.P c.fn c.R, fun _ => False, c.w0.heap.size⟩
theorem yO_ok (c : Ctx) : YOk c (yO c) :=
 ⟨fun _ => trivial, rfl, fun k args w R h => callsIn_wide.2 h, fun h => h, fun h => h, fun g w g' w' x h => Nat.le_trans h x.size,
  fun g W W' B hB t hz h => Nat.le_trans h t.size, fun g w g' w' hf h x ho => Nat.le_trans h x.size, fun g w h => h, fun _ h => h.elim⟩
abbrev xT : G → World → Prop := fun _ _ => True
theorem xT_st {bd : Nat} : XSt bd xT := ⟨fun _ _ _ _ _ h => h, fun _ _ _ _ _ _ _ h => h⟩
theorem ARX_O {c : Ctx} {gen : Nat} {k : List It} {e : Exit} {σ : St} (h : ARX c ((yO c).at xT) gen k e σ) : ARX c (xF c) gen k e σ :=
 fun g a w hx _ r => h g a w hx ⟨trivial, hx.size⟩ r
theorem ARX_oendM {c : Ctx} {X : G → World → Prop} {D gen : Nat} {σ : St} (hm : c.P.follows .mixedOrders = true) (hl0 : ∀ b, c.w0.heap.size ≤ b → c.g0.lim b = 0) (hD : c.w0.heap.size ≤ D) (h : AR c gen [] .ret σ) :
  ARX c (((yO c).mk1 D).at X) gen [] .ret σ := by
 intro g a w hx ⟨_, h1, h4, h5⟩ r
 exact ARX_doneD hm hl0 h g a w hx ⟨hD, h5, h4⟩ r
theorem After.trans {C : Cons} {g1 g2 g3 : G} {w1 w2 w3 : World} {h1 h2 h3 : H} (a : After C g1 w1 h1 g2 w2 h2) (b : After C g2 w2 h2 g3 w3 h3) : After C g1 w1 h1 g3 w3 h3 :=
 ⟨ext_via a.ext free_wr b.ext, fun id q1 q2 => (b.same id q1 (by rw [a.same id q1 q2]; exact q2)).trans (a.same id q1 q2), fun b0 o q1 q2 q3 => b.obj b0 o q1 (a.obj b0 o q1 q2 q3) q3⟩
def RawIt (P : Program) (gf : Nat) (g : G) (w : World) (x : Value) (n : Nat) (vals : Nat → Value) (prot : List Value) : Prop :=
 ∀ (l : Nat) (K : Nat → Option Nat → World → Prop) (Kx : World → Prop), (∀ i p W o, K i p W → K i p (W.alloc o)) → (∀ i p W, K i p W → K i p W.drew) →
  (∀ i W arr ty, K i none W → (∀ (j : Nat) u, prot[j]? = some u → arr[j]? = some u) → K i (some W.heap.size) (W.alloc (.cells arr ty))) →
  (∀ i p W, K i p W → ∀ b o, o < g.lim b → W.cell? ⟨b, o, none⟩ = w.cell? ⟨b, o, none⟩) →
  (∀ i b W, K i (some b) W → ∀ (j : Nat) u, prot[j]? = some u → W.cell? ⟨b, j, none⟩ = some u) →
  (∀ i p W, i < n → K i p W → YieldAt Fence.wide (0 - 1) P l #[vals i] W fun e W' => (e = .returned (.bool true) ∧ K (i + 1) p W') ∨ (e = .returned (.bool false) ∧ Kx W')) →
  ∀ W, K 0 none W → CallsIn Fence.wide 0 P gf #[.func (.yield l) #[] #[], x] W fun e W' => (∃ v, e = .returned v) ∧ ((∃ p, K n p W') ∨ Kx W')
theorem iter_of_raw {P : Program} {env : Nat → Option (List V)} {gf : Nat} {cs : List V} {vs : List (List V)} (hcall : Callable P gf)
  (hraw : ∀ g w x, RV g w x (.el cs 0) → ∃ (vals : Nat → Value) (prot : List Value), (∀ (i : Nat) v, vs[i]? = some v → ∃ v0, v = [v0] ∧ RV g w (vals i) v0) ∧ RawIt P gf g w x vs.length vals prot) :
  Iter P env (.fn (.func gf) [] [.el cs 0]) vs := by
 intro g w x hx
 cases hx with
 | fn _ fs cs1 _ _ l1 l2 _ r2 =>
 have e1 : fs = #[] := by simpa using l1
 subst e1
 obtain ⟨c1, rfl⟩ : ∃ c1, cs1 = #[c1] := by
  have h2' : cs1.size = 1 := l2
  refine ⟨cs1[0], ?_⟩
  apply Array.ext
  ·simpa using h2'
  ·intro i hi hi2; simp at hi2; subst hi2; rfl
 obtain ⟨vals, prot, hvals, hgo⟩ := hraw g w c1 (r2 0 c1 _ rfl rfl)
 refine ⟨gf, #[c1], rfl, hcall, fun C hC g1 W1 h1 x1 q1 hY hbase => ?_⟩
 have hlim := q1.limnew
 refine (hgo C.l
  (fun i p W => ∃ g' h', After C g1 W1 h1 g' W h' ∧ Rel env g' W h' ∧ C.Y i g' W h' ∧ ∀ b, p = some b → prot.length ≤ g'.lim b ∧ ∀ (j : Nat) u, prot[j]? = some u → W.cell? ⟨b, j, none⟩ = some u)
  (fun W => ∃ g' h', After C g1 W1 h1 g' W h' ∧ Rel env g' W h' ∧ C.Z g' W h') ?_ ?_ ?_ ?_ ?_ ?_ W1 ?_).mono ?_
 ·rintro i p W o ⟨g', h', a, q, y, z⟩
  have t : Turned W.heap.size W (W.alloc o) := turned_alloc (Nat.le_refl _)
  have hbd := hC.Ybd _ _ _ _ y
  refine ⟨g'.up W.heap.size, h', ⟨t.extF hlim a.ext, a.same, fun b o' q1 q2 q3 => ?_⟩, t.rel q, hC.Yt _ _ _ _ _ _ hbd t q.limnew y, fun b hb => ?_⟩
  ·have := a.obj b o' q1 q2 q3
   exact (t.same b (Array.getElem?_eq_some_iff.1 this).1).trans this
  ·obtain ⟨z1, z2⟩ := z b hb
   refine ⟨z1, fun j u hu => ?_⟩
   have hc := z2 j u hu
   exact (t.cell b j (World.block_lt_of_cell? _ _ hc)).trans hc
 ·rintro i p W ⟨g', h', a, q, y, z⟩
  have x := Ext.drew g' W
  exact ⟨g', h', ⟨a.ext.trans x, a.same, a.obj⟩, q.drew, hC.Yext _ _ _ _ _ _ x y, z⟩
 ·rintro i W arr ty ⟨g', h', a, q, y, z⟩ harr
  obtain ⟨g'', x, q', hl⟩ := new_row q arr ty
  have hsz : prot.length ≤ arr.size := by
   rcases Nat.eq_zero_or_pos prot.length with h0 | h0
   ·omega
   ·have := harr (prot.length - 1) _ (List.getElem?_eq_getElem (by omega))
    have := (Array.getElem?_eq_some_iff.1 this).1
    omega
  refine ⟨g'', h', ⟨a.ext.trans x, a.same, fun b o q1 q2 q3 => ?_⟩, q', hC.Yext _ _ _ _ _ _ x y, fun b hb => ?_⟩
  ·have := a.obj b o q1 q2 q3
   exact (Go.RowKit.Below.heap_alloc W _ b (Array.getElem?_eq_some_iff.1 this).1).trans this
  ·cases hb
   refine ⟨by rw [hl]; exact hsz, fun j u hu => ?_⟩
   have e := harr j u hu
   simp [World.cell?_alloc_new, e]
 ·rintro i p W ⟨g', h', a, q, y, z⟩ b o ho
  have h1' : o < g1.lim b := Nat.lt_of_lt_of_le ho (x1.lim b)
  exact (a.ext.cells b o h1').trans (x1.cells b o ho)
 ·rintro i b W ⟨g', h', a, q, y, z⟩ j u hu
  exact (z b rfl).2 j u hu
 ·rintro i p W hi ⟨g', h', a, q, y, z⟩
  obtain ⟨v0, hv, hrv⟩ := hvals i _ (List.getElem?_eq_getElem hi)
  have hr := hC.round i [v0] [vals i] g' W h' (by rw [List.getElem?_eq_getElem hi, hv]) y q rfl (fun j x v hx hv => by
   match j with
   | 0 => simp at hx hv; subst hx; subst hv; exact ((hrv.mono x1).wrs _).mono a.ext
   | j + 1 => simp at hx)
  obtain ⟨fn, tmps, assign, body, hy, hR⟩ := hr
  refine ⟨fn, tmps, assign, body, hy, hR.mono ?_⟩
  rintro e W' ⟨g'', h'', b, q', hh⟩
  have hz : ∀ b0, p = some b0 → prot.length ≤ g''.lim b0 ∧ ∀ (j : Nat) u, prot[j]? = some u → W'.cell? ⟨b0, j, none⟩ = some u := fun b0 hb => by
   obtain ⟨z1, z2⟩ := z b0 hb
   refine ⟨Nat.le_trans z1 (b.ext.lim b0), fun j u hu => ?_⟩
   have hj : j < prot.length := (List.getElem?_eq_some_iff.1 hu).1
   exact (b.ext.cells b0 j (Nat.lt_of_lt_of_le hj z1)).trans (z2 j u hu)
  rcases hh with ⟨he, hy'⟩ | ⟨he, hz'⟩
  ·exact .inl ⟨he, g'', h'', a.trans b, q', hy', hz⟩
  ·exact .inr ⟨he, g'', h'', a.trans b, q', hz'⟩
 ·exact ⟨g1, h1, ⟨ext_free (Ext.refl _ _), fun _ _ _ => rfl, fun _ _ _ h _ => h⟩, q1, hY, fun b hb => by cases hb⟩
 ·rintro e W' ⟨hv, ⟨p, g', h', a, q, y, z⟩ | ⟨g', h', a, q, z⟩⟩
  ·exact ⟨hv, g', h', a, q, .inl y⟩
  ·exact ⟨hv, g', h', a, q, .inr z⟩
inductive IsVls : List Ty → List PVl → List Tm → Prop
 | nil : IsVls [] [] []
 | snoc {g : List Ty} {l : List PVl} {ts : List Tm} {a : Ty} {v : PVl} {t : Tm} : IsVls g l ts → IsVl a v t → TyG a → tmSz t ≤ 4096 → IsVls (g ++ [a]) (l ++ [v]) (ts ++ [t])
theorem IsVls.len {g : List Ty} {l : List PVl} {ts : List Tm} (h : IsVls g l ts) : l.length = g.length ∧ ts.length = g.length := by
 induction h with
 | nil => exact ⟨rfl, rfl⟩
 | snoc _ _ _ _ ih => simp [ih.1, ih.2]
theorem IsVls.at {g : List Ty} {l : List PVl} {ts : List Tm} (h : IsVls g l ts) : ∀ i, i < g.length → ∃ a v t, g[i]? = some a ∧ l[i]? = some v ∧ ts[i]? = some t ∧ IsVl a v t ∧ TyG a ∧ tmSz t ≤ 4096 := by
 induction h with
 | nil => intro i hi; simp at hi
 | @snoc g l ts a v t hs hv ha hz ih =>
  intro i hi
  obtain ⟨l1, l2⟩ := hs.len
  by_cases hlt : i < g.length
  ·obtain ⟨a', v', t', h1, h2, h3, h4⟩ := ih i hlt
   exact ⟨a', v', t', by rw [List.getElem?_append_left hlt]; exact h1, by rw [List.getElem?_append_left (by omega)]; exact h2, by rw [List.getElem?_append_left (by omega)]; exact h3, h4⟩
  ·obtain rfl : i = g.length := by simp at hi; omega
   exact ⟨a, v, t, by simp, by rw [← l1]; simp, by rw [← l2]; simp, hv, ha, hz⟩
def holdsR (lim : Nat) (f : Fm) (ts : List Tm) : Ans := if (putsR f ts.reverse).2 != 0 then (false, 0, (putsR f ts.reverse).2) else dA lim (putsR f ts.reverse).1
theorem take_rev {ts : List Tm} {i : Nat} {t : Tm} (h : ts[i]? = some t) : (ts.take (i + 1)).reverse = t :: (ts.take i).reverse := by
 rw [List.take_add_one, h]; simp
theorem take_ty {g : List Ty} {i : Nat} {t : Ty} (h : g[i]? = some t) : g.take (i + 1) = g.take i ++ [t] := by
 rw [List.take_add_one, h]; rfl
def PlainTy (t : Ty) : Prop := t = tNat ∨ t = tList ∨ t = tUnit ∨ t = tPair tNat tList ∨ t = tPair tNat tNat
theorem PlainTy.mk {t : Ty} (h : PlainTy t) : MkTy 1 t := by
 rcases h with rfl | rfl | rfl | rfl | rfl
 ·exact .nat
 ·exact .list
 ·exact .unit
 ·exact .pair .nat .list
 ·exact .pair .nat .nat
theorem PlainTy.G {t : Ty} (h : PlainTy t) : TyG t := h.mk.G (by omega)
def lns (F : Ty → List PVl) : List Ty → List (List PVl)
 | [] => [[]]
 | t :: ts => (F t).flatMap fun v => (lns F ts).map (v :: ·)
def rowsL (bs : List PVl) (L : List (List PVl)) : List (List V) := L.map fun l => [V.sl .any ((bs ++ l).map PVl.cells)]
theorem rowsL_len (bs : List PVl) (L : List (List PVl)) : (rowsL bs L).length = L.length := by simp [rowsL]
theorem rowsL_cons (F : Ty → List PVl) (bs : List PVl) (t : Ty) (ts : List Ty) : rowsL bs (lns F (t :: ts)) = (F t).flatMap fun v => rowsL (bs ++ [v]) (lns F ts) := by
 simp only [rowsL, lns, List.map_flatMap, List.map_map]
 congr 1
 funext v
 congr 1
 funext l
 simp
theorem rowsL_nil (F : Ty → List PVl) (bs : List PVl) : rowsL bs (lns F []) = [[V.sl .any (bs.map PVl.cells)]] := by simp [rowsL, lns]
theorem vals_isVl {b : Nat} (hb : b ≤ 16) {t : Ty} (ht : PlT t) : ∀ v ∈ vals b t, ∃ s, IsVl t v s ∧ tmSz s ≤ 50 * tySz t := by
 induction ht with
 | nat =>
  intro v hv
  have e : vals b tNat = valsN b := by rw [tNat]; rfl
  rw [e] at hv
  obtain ⟨n, hn, rfl⟩ := List.mem_map.1 hv
  have := List.mem_range.1 hn
  exact ⟨_, .num n, by rw [tmSz_num, tySz_nat]; omega⟩
 | list =>
  intro v hv
  have e : vals b tList = valsL b := by rw [tList]; rfl
  rw [e] at hv
  unfold valsL at hv
  have key : ∀ l : List Nat, lsz l ≤ 50 → ∃ s, IsVl tList (listP l) s ∧ tmSz s ≤ 50 * tySz tList := fun l hl => ⟨_, .list l, by rw [listT_sz, tySz_list]; omega⟩
  rcases List.mem_append.1 hv with h | h
  ·rcases List.mem_cons.1 h with rfl | h
   ·exact key [] (by simp [lsz])
   ·obtain ⟨n, hn, rfl⟩ := List.mem_map.1 h
    have := List.mem_range.1 hn
    exact key [n] (by simp [lsz]; omega)
  ·obtain ⟨n, hn, h⟩ := List.mem_flatMap.1 h
   obtain ⟨m, hm, rfl⟩ := List.mem_map.1 h
   have := List.mem_range.1 hn
   have := List.mem_range.1 hm
   exact key [n, m] (by simp [lsz]; omega)
 | unit =>
  intro v hv
  have e : vals b tUnit = [unitP] := by rw [tUnit]; rfl
  rw [e] at hv
  obtain rfl := List.mem_singleton.1 hv
  exact ⟨_, .unit, by rw [tmSz_0, tySz_unit]; omega⟩
 | @pair a c _ _ h1 h2 =>
  intro v hv
  have e : vals b (tPair a c) = valsP (vals b a) (vals b c) := by rw [tPair, vals]
  rw [e] at hv
  unfold valsP at hv
  obtain ⟨x, hx, h⟩ := List.mem_flatMap.1 hv
  obtain ⟨y, hy, rfl⟩ := List.mem_map.1 h
  obtain ⟨s, i1, z1⟩ := h1 x hx
  obtain ⟨u, i2, z2⟩ := h2 y hy
  exact ⟨_, .pair i1 i2, by rw [tmSz_2, tySz_pair]; omega⟩
theorem IsVls.cons {g : List Ty} {l : List PVl} {ts : List Tm} {a : Ty} {v : PVl} {t : Tm} (h : IsVls g l ts) (i1 : IsVl a v t) (ha : TyG a) (hz : tmSz t ≤ 4096) : IsVls (a :: g) (v :: l) (t :: ts) := by
 induction h with
 | nil => exact .snoc .nil i1 ha hz
 | snoc _ j1 j2 j3 ih => exact .snoc ih j1 j2 j3
theorem lns_isVls {b m : Nat} (hb : b ≤ 16) : ∀ (ts : List Ty), (∀ t ∈ ts, PlT t ∧ TyG t ∧ tySz t ≤ 80) → ∀ l ∈ lns (fun t => (vals b t).take m) ts, ∃ tms, IsVls ts l tms
 | [], _, l, hl => by
  simp only [lns, List.mem_singleton] at hl
  subst hl
  exact ⟨[], .nil⟩
 | t :: ts, ht, l, hl => by
  simp only [lns] at hl
  obtain ⟨v, hv, h⟩ := List.mem_flatMap.1 hl
  obtain ⟨l', hl', rfl⟩ := List.mem_map.1 h
  obtain ⟨p1, p2, p3⟩ := ht t (by simp)
  obtain ⟨s, i1, z1⟩ := vals_isVl hb p1 v (List.mem_of_mem_take hv)
  obtain ⟨tms, i2⟩ := lns_isVls hb ts (fun t q => ht t (by simp [q])) l' hl'
  exact ⟨s :: tms, i2.cons i1 p2 (by omega)⟩
def findR (H : List PVl → Nat → Ans) : List (List PVl) → Nat → Option (List PVl) × Int
 | [], _ => (none, 0)
 | l :: L, w => if (H l w).2.2 != 0 then (none, (H l w).2.2) else if (H l w).1 then findR H L (w - (H l w).2.1) else (some l, 0)
structure HoldOk (H : List PVl → Nat → Ans) (l : List PVl) : Prop where
 code : ∀ w, w ≤ 65536 → (H l w).2.2 = 0 ∨ (H l w).2.2 = 4 ∨ (H l w).2.2 = 5
 up : ∀ w b u w', (H l w) = (b, u, 0) → w ≤ w' → u ≤ w ∧ H l w' = (b, u, 0)
theorem findR_code {H : List PVl → Nat → Ans} : ∀ (L : List (List PVl)) (w : Nat), (∀ l ∈ L, HoldOk H l) → w ≤ 65536 → (findR H L w).2 = 0 ∨ (findR H L w).2 = 4 ∨ (findR H L w).2 = 5
 | [], w, _, _ => .inl rfl
 | l :: L, w, h, hw => by
  rw [findR]
  split
  ·exact (h l (by simp)).code w hw
  ·split
   ·exact findR_code L _ (fun x hx => h x (by simp [hx])) (by omega)
   ·exact .inl rfl
theorem findR_some {H : List PVl → Nat → Ans} {l : List PVl} : ∀ (L : List (List PVl)) (w : Nat), (∀ x ∈ L, HoldOk H x) → (findR H L w).1 = some l → l ∈ L ∧ (findR H L w).2 = 0 ∧ ∃ w' u, w' ≤ w ∧ H l w' = (false, u, 0)
 | [], w, _, h => by simp [findR] at h
 | x :: L, w, hk, h => by
  rw [findR] at h ⊢
  split at h
  ·simp at h
  ·rename_i h1
   rw [if_neg h1]
   split at h
   ·rename_i h2
    rw [if_pos h2]
    obtain ⟨p1, p0, w', u, p2, p3⟩ := findR_some L _ (fun y hy => hk y (by simp [hy])) h
    exact ⟨by simp [p1], p0, w', u, by omega, p3⟩
   ·rename_i h2
    rw [if_neg h2]
    simp only [Option.some.injEq] at h
    subst h
    refine ⟨by simp, rfl, w, (H x w).2.1, Nat.le_refl _, ?_⟩
    generalize H x w = a at *
    obtain ⟨b, u, e⟩ := a
    simp at h1 h2
    simp [h1, h2]
theorem findR_none {H : List PVl → Nat → Ans} : ∀ (L : List (List PVl)) (w : Nat), (findR H L w).1 = none → (findR H L w).2 = 0 → ∀ l ∈ L, ∃ w' u, w' ≤ w ∧ H l w' = (true, u, 0)
 | [], w, _, _ => by simp
 | x :: L, w, h, h0 => by
  rw [findR] at h h0
  split at h
  ·rename_i h1
   rw [if_pos h1] at h0
   simp only at h0
   rw [h0] at h1
   simp at h1
  ·rename_i h1
   rw [if_neg h1] at h0
   split at h
   ·rename_i h2
    rw [if_pos h2] at h0
    intro l hl
    rcases List.mem_cons.1 hl with rfl | hl
    ·refine ⟨w, (H l w).2.1, Nat.le_refl _, ?_⟩
     generalize H l w = a at *
     obtain ⟨b, u, e⟩ := a
     simp at h1 h2
     simp [h1, h2]
    ·obtain ⟨w', u, p1, p2⟩ := findR_none L _ h h0 l hl
     exact ⟨w', u, by omega, p2⟩
   ·simp at h
theorem findR_more {H : List PVl → Nat → Ans} {A B : List (List PVl)} (hA : ∀ l ∈ A, HoldOk H l) (hB : ∀ l ∈ B, HoldOk H l) (hs : ∀ l ∈ A, l ∈ B) {w : Nat} {l : List PVl} (ha : (findR H A w).1 = some l) (hb : (findR H B w).2 = 0) : ∃ l', (findR H B w).1 = some l' := by
 cases h : (findR H B w).1 with
 | some l' => exact ⟨l', rfl⟩
 | none =>
  obtain ⟨p1, p0, w1, u1, p2, p3⟩ := findR_some A w hA ha
  obtain ⟨w2, u2, q2, q3⟩ := findR_none B w h hb l (hs l p1)
  rcases Nat.le_total w1 w2 with hle | hle
  ·have := ((hA l p1).up _ _ _ _ p3 hle).2
   rw [this] at q3; simp at q3
  ·have := ((hA l p1).up _ _ _ _ q3 hle).2
   rw [this] at p3; simp at p3
theorem findR_refutes {H : List PVl → Nat → Ans} {A : List (List PVl)} (hA : ∀ l ∈ A, HoldOk H l) {w : Nat} {l : List PVl} (ha : (findR H A w).1 = some l) : ∃ u, H l w = (false, u, 0) := by
 obtain ⟨p1, p0, w1, u1, p2, p3⟩ := findR_some A w hA ha
 exact ⟨u1, ((hA l p1).up _ _ _ _ p3 p2).2⟩
theorem lns_mono {F G : Ty → List PVl} : ∀ (ts : List Ty), (∀ t ∈ ts, ∀ v ∈ F t, v ∈ G t) → ∀ l ∈ lns F ts, l ∈ lns G ts
 | [], _, l, h => h
 | t :: ts, hs, l, h => by
  simp only [lns] at h ⊢
  obtain ⟨v, hv, h⟩ := List.mem_flatMap.1 h
  obtain ⟨x, hx, rfl⟩ := List.mem_map.1 h
  exact List.mem_flatMap.2 ⟨v, hs t (by simp) v hv, List.mem_map.2 ⟨x, lns_mono ts (fun t ht => hs t (by simp [ht])) x hx, rfl⟩⟩
theorem take_sub {α : Type} {l : List α} {m n : Nat} (h : m ≤ n) : ∀ v ∈ l.take m, v ∈ l.take n := by
 intro v hv
 have : l.take m = (l.take n).take m := by rw [List.take_take, Nat.min_eq_left h]
 rw [this] at hv
 exact List.mem_of_mem_take hv
theorem terms_of {ts : List Ty} : ∃ T : List PVl → List Tm, ∀ l, (∃ tms, IsVls ts l tms) → IsVls ts l (T l) := by
 classical
 exact ⟨fun l => if h : ∃ tms, IsVls ts l tms then Classical.choose h else [], fun l h => by simp only [dif_pos h]; exact Classical.choose_spec h⟩
theorem putsR_dc {g : List Ty} {l : List PVl} {ts : List Tm} (h : IsVls g l ts) : ∀ {f : Fm}, g.length ≤ 16 → Dc g f → fmSz f ≤ 4096 → (putsR f ts.reverse).2 = 0 → Dc [] (putsR f ts.reverse).1 ∧ fmSz (putsR f ts.reverse).1 ≤ 4096 := by
 induction h with
 | nil => intro f _ h1 h2 _; exact ⟨h1, h2⟩
 | @snoc g l ts a v t _ j1 j2 j3 ih =>
  intro f hl h1 h2 h3
  rw [List.length_append] at hl
  rw [List.reverse_append] at h3 ⊢
  simp only [List.reverse_cons, List.reverse_nil, List.nil_append, List.cons_append, putsR] at h3 ⊢
  split at h3
  ·rename_i hz
   simp only at h3
   rw [h3] at hz; simp at hz
  ·rename_i hz
   rw [if_neg hz]
   obtain ⟨p1, p2⟩ := putR_dc h1 j1 j2 j3 (by omega) h2 (by simpa using hz)
   exact ih (by omega) p1 p2 h3
theorem putsR_code : ∀ (ts : List Tm) (f : Fm), (putsR f ts).2 = 0 ∨ (putsR f ts).2 = 4
 | [], f => .inl rfl
 | t :: ts, f => by
  rw [putsR]
  split
  ·exact putR_code f t
  ·exact putsR_code ts _
theorem holds_ok {g : List Ty} {l : List PVl} {T : List PVl → List Tm} (h : IsVls g l (T l)) {f : Fm} (hg : g.length ≤ 16) (hf : Dc g f) (zf : fmSz f ≤ 4096) : HoldOk (fun l w => holdsR w f (T l)) l := by
 refine ⟨fun w hw => ?_, fun w b u w' e hle => ?_⟩
 ·show (holdsR w f (T l)).2.2 = 0 ∨ (holdsR w f (T l)).2.2 = 4 ∨ (holdsR w f (T l)).2.2 = 5
  unfold holdsR
  split
  ·rename_i hz
   rcases putsR_code (T l).reverse f with e | e
   ·rw [e] at hz; simp at hz
   ·exact .inr (.inl e)
  ·rename_i hz
   obtain ⟨p1, p2⟩ := putsR_dc h hg hf zf (by simpa using hz)
   exact dA_code p1 p2
 ·replace e : holdsR w f (T l) = (b, u, 0) := e
  show u ≤ w ∧ holdsR w' f (T l) = (b, u, 0)
  unfold holdsR at e ⊢
  split at e
  ·rename_i hz
   simp only [Prod.mk.injEq] at e
   rw [e.2.2] at hz; simp at hz
  ·rename_i hz
   rw [if_neg hz]
   obtain ⟨p1, p2⟩ := putsR_dc h hg hf zf (by simpa using hz)
   unfold dA at e ⊢
   obtain ⟨q1, q2, q3⟩ := dT_up (lim := w) (lim' := w') _ _ (Nat.le_refl _) p1 p2 _ (Nat.le_refl _) 0 b u 0 (by omega) e (by omega) (by omega)
   exact ⟨q2, by simpa using q3⟩
theorem Dc.univ {g : List Ty} {f : Fm} (h : Dc g f) : (f.univ = ([], f)) ∨ ∃ b, f.univ = ([tNat], b) ∧ Dc (g ++ [tNat]) b ∧ fmSz b ≤ fmSz f := by
 cases h with
 | eq _ _ _ _ => exact .inl (Fm.univ_n rfl)
 | @two _ k a b hk _ _ => exact .inl (Fm.univ_n (by rcases hk with rfl | rfl <;> rfl))
 | @bnd _ all q a h1 h2 h3 h4 =>
  cases all with
  | false => exact .inl (Fm.univ_n rfl)
  | true =>
   refine .inr ⟨fmTwo 3 (lessF (tmVar 0) q) a, ?_, ?_, ?_⟩
   ·rw [Fm.univ_4 (a := fmTwo 3 (lessF (tmVar 0) q) a) rfl rfl, Fm.univ_n (f := fmTwo 3 (lessF (tmVar 0) q) a) rfl]; rfl
   ·exact .two (.inr rfl) (.eq (.t2 ar3 rfl (.t2 ar3 rfl subT_G (.t1 ar5 rfl v0_G)) h1) (.t0 ar4 rfl) (.n2 (ty := .mk 0 []) .app (.n2 (ty := .mk 0 []) .app .sub (.n1 (ty := .mk 0 []) .succ .v0)) h2) (.n0 (ty := .mk 0 []) .zero)) h4
   ·rw [bnd_sz, fmSz_two, lessF_sz, tmSz_v]; omega
theorem allF_uni {f : Fm} : ∀ g : List Ty, (allF g f).univ = (g ++ f.univ.1, f.univ.2)
 | [] => rfl
 | s :: g => by
  show (fmQ 4 s (allF g f)).univ = _
  rw [Fm.univ_4 (f := fmQ 4 s (allF g f)) (a := allF g f) rfl rfl, allF_uni g]; rfl
theorem allF_ty {f : Fm} : ∀ (g' g : List Ty), (∀ t ∈ g', TyG t) → FmTy TyG (g ++ g') f → FmTy TyG g (allF g' f)
 | [], g, _, h => by rw [List.append_nil] at h; exact h
 | s :: g', g, ht, h => by
  show FmTy TyG g (fmQ 4 s (allF g' f))
  exact .q (by simp) (allF_ty g' (g ++ [s]) (fun t q => ht t (by simp [q])) (by simpa using h))
theorem PlainTy.plT {t : Ty} (h : PlainTy t) : PlT t := by
 rcases h with rfl | rfl | rfl | rfl | rfl
 ·exact .nat
 ·exact .list
 ·exact .unit
 ·exact .pair .nat .list
 ·exact .pair .nat .nat
theorem PlainTy.sz {t : Ty} (h : PlainTy t) : tySz t ≤ 3 := by
 rcases h with rfl | rfl | rfl | rfl | rfl
 ·rw [tySz_nat]; omega
 ·rw [tySz_list]; omega
 ·rw [tySz_unit]; omega
 ·rw [tySz_pair, tySz_nat, tySz_list]; omega
 ·rw [tySz_pair, tySz_nat]; omega
structure Front (g : List Ty) (f : Fm) (k : List Ty) (b : Fm) : Prop where
 univ : (allF g f).univ = (k, b)
 dc : Dc k b
 sz : fmSz b ≤ 300
 plain : ∀ y ∈ k, PlainTy y
 len : k.length ≤ 3
 ty : FmTy TyG [] (allF g f)
 good : FmG true (allF g f)
 size : fmSz (allF g f) ≤ 400
theorem front_of {g : List Ty} {f : Fm} (df : Dc g f) (zf : fmSz f ≤ 300) (hg : ∀ y ∈ g, PlainTy y) (hl : g.length ≤ 2) : ∃ k b, Front g f k b := by
 have hT : ∀ y ∈ g, TyG y := fun y hy => (hg y hy).G
 have t1 : FmTy TyG [] (allF g f) := allF_ty g [] hT (by simpa using df.ty)
 have t2 : FmG true (allF g f) := allF_G hT df.G
 have t3 : fmSz (allF g f) ≤ 400 := by rw [allF_sz]; omega
 rcases df.univ with h | ⟨b, h, h2, h3⟩
 ·exact ⟨g, f, by rw [allF_uni, h, List.append_nil], df, zf, hg, by omega, t1, t2, t3⟩
 ·refine ⟨g ++ [tNat], b, by rw [allF_uni, h], h2, by omega, fun y hy => ?_, by simp; omega, t1, t2, t3⟩
  rcases List.mem_append.1 hy with hy | hy
  ·exact hg y hy
  ·simp at hy; subst hy; exact .inl rfl
theorem front_mk {g : List Ty} {f : Fm} (mf : MkDec 1 g f) (hg : ∀ y ∈ g, PlainTy y) (hl : g.length ≤ 2) : ∃ k b, Front g f k b := by
 have hm : ∀ y ∈ g, MkTy 1 y := fun y hy => (hg y hy).mk
 exact front_of (mf.dc hm (by omega)) (by have := (mf.all hm (by omega)).2.1; omega) hg hl
def tries (bd m : Nat) (k : List Ty) : List (List PVl) := lns (fun t => (vals bd t).take m) k
theorem tries_is {bd m : Nat} {k : List Ty} (hb : bd ≤ 16) (hk : ∀ y ∈ k, PlainTy y) : ∀ l ∈ tries bd m k, ∃ tms, IsVls k l tms :=
 lns_isVls hb k fun t ht => ⟨(hk t ht).plT, (hk t ht).G, by have := (hk t ht).sz; omega⟩
theorem tries_more {bd m n : Nat} {k : List Ty} (h : m ≤ n) : ∀ l ∈ tries bd m k, l ∈ tries bd n k := lns_mono k fun t _ => take_sub h
def holdsT (b : Fm) (T : List PVl → List Tm) (l : List PVl) (w : Nat) : Ans := holdsR w b (T l)
theorem holdsT_ok {b : Fm} {k : List Ty} {T : List PVl → List Tm} {l : List PVl} (h : IsVls k l (T l)) (hk : k.length ≤ 16) (db : Dc k b) (zb : fmSz b ≤ 4096) : HoldOk (holdsT b T) l := holds_ok h hk db zb
end GoAbs
