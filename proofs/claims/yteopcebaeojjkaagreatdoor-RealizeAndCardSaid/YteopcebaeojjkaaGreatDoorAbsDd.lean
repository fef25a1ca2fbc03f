/-
 The abstract layer: plain laws, further ones.
-/
import Derived.Test.YteopcebaeojjkaaGreatDoorAbsC
import Derived.Test.YteopcebaeojjkaaGreatDoorAbsD
import Derived.Test.YteopcebaeojjkaaGreatDoorAbsDb
set_option linter.unusedSimpArgs false
set_option linter.unusedVariables false
set_option linter.unusedSectionVars false
namespace GoAbs
open Go
theorem Ext.drew (g : G) (w : World) : Ext g w g w.drew :=
 ⟨rfl, rfl, rfl, by simp, fun _ => Nat.le_refl _, fun _ _ _ => rfl, fun _ _ h => ⟨rfl, h⟩, fun id h => ⟨h, rfl, .inl rfl⟩, Nat.le_refl _⟩
theorem Rel.drew {env : Nat → Option (List V)} {g : G} {w : World} {h : H} (r : Rel env g w h) : Rel env g w.drew h := by
 have hx := Ext.drew g w
 refine ⟨r.dom, r.top, ?_, r.inj, ?_, r.apart, r.apart2, ?_, fun k cs' e => (r.glob k cs' e).mono hx⟩
 ·intro id cs e
  obtain ⟨vs, h1, h2, h3, h4, h5⟩ := r.box id cs e
  exact ⟨vs, h1, h2, fun i c v a b => (h3 i c v a b).mono hx, h4, h5⟩
 ·intro id n k e
  obtain ⟨h1, h2, h3, hk⟩ := r.tok id n k e
  exact ⟨h1, h2, fun hlt => by
   obtain ⟨b, off, vs', s1, s2, s3, s4, s5⟩ := h3 hlt
   exact ⟨b, off, vs', s1, s2, s3, s4, s5⟩, hk⟩
 ·intro b hb; simp only [World.size_drew] at hb; exact r.limnew b hb
/-- 'append' to a row that is full (nil): a new box with the elements, and unknown room behind them. -/
theorem append_box {P : Program} {env : Nat → Option (List V)} {g : G} {w : World} {h : H} {ρc : Operand → Value} {ρ : Operand → V} (r : Rel env g w h) (hρ : ∀ x, RV g w (ρc x) (ρ x))
  {o : Oper} {x y : Operand} {t t2 : TypeId} {nid : Id} {i j : TyI} {xs : List (List V)} {cc : Cap}
  (ho : o.op = .call { callee := .builtin .append, args := #[x, y], argTypes := #[t, t2] }) (hi : tyi P t = some i) (hj : tyi P t2 = some j)
  (hx1 : ρ x = .sl .full []) (hy1 : ρ y = .sl cc xs) (hne : xs ≠ []) (hn : h nid = none)
  (hk1 : i.kind = 4) (hk2 : j.kind = 4) (hk3 : i.esize ≠ 0) (hk4 : i.ezero.length = i.esize) (hk6 : xs.all (fun e => e.length == i.esize) = true)
  (hk8 : xs.length * i.ebytes ≤ 140737488355328) (hk9 : xs.length ≤ 140737488355328) :
  ∃ (q : Nat) (c : Value) (w' : World) (g' : G), (execOp ρc o).run P w = .ok (.value c) w' ∧ Ext g w g' w' ∧ Rel env g' w' (hset h nid (.box (xs.flatten ++ List.replicate q .undef))) ∧ RV g' w' c (.slb nid xs.length) := by
 obtain ⟨inf, d, z, i1, i2, i0, is, ib, ia, iz, _, ik4, _, _, _, _, _, iez⟩ := tyi_inv hi
 obtain ⟨e, rfl, hes, heb, _⟩ := ik4 hk1
 obtain ⟨inf2, d2, z2, j1, j2, j0, _, _, _, _, _, jk4, _⟩ := tyi_inv hj
 obtain ⟨e2, rfl, _⟩ := jk4 hk2
 obtain ⟨ie, de, he1, he2, he3⟩ := szOf_some (P := P) (t := e) (by rw [← hes]; exact hk3)
 have hez := (iez e (.inl rfl)).2 ie he1
 have hsz : ie.size = i.esize := by rw [he3, hes]
 obtain ⟨ze, hze, hzel⟩ : ∃ ze, ie.zero = some ze ∧ ze.cells.size = i.esize := by
  cases hz0 : ie.zero with
  | none => rw [hz0] at hez; rw [hez] at hk4; simp at hk4; exact absurd hk4.symm hk3
  | some ze => rw [hz0] at hez; rw [hez] at hk4; exact ⟨ze, rfl, by simpa using hk4⟩
 have hbytes : ie.bytes = i.ebytes := by rw [heb]; simp [bytesOf, he1]
 have hx := hρ x
 have hy := hρ y
 rw [hx1] at hx; rw [hy1] at hy
 generalize hcx : ρc x = vx at hx
 generalize hcy : ρc y = vy at hy
 cases hx with | sl a cap _ es k cs hke hcaps hruns hrs hccs => ?_
 cases hy with | sl a2 cap2 _ xs k2 cx hkx hcapx hrunx hrx hccx => ?_
 have hxs' : ∀ e ∈ xs, e.length = i.esize := by
  rw [List.all_eq_true] at hk6; intro e he; simpa using hk6 e he
 obtain ⟨b, off, rfl, hlx, hcellx⟩ := hrunx hne
 have hk2' : k2 = i.esize := by
  cases xs with
  | nil => exact absurd rfl hne
  | cons e0 _ => rw [← hkx e0 (by simp), hxs' e0 (by simp)]
 subst hk2'
 have hfx := flat_len xs i.esize hxs'
 have hc0 : cap = 0 := hccs
 subst hc0
 have hpos : 0 < xs.length := List.length_pos_iff.2 hne
 have hnc := nextcap_le xs.length 0 hpos
 generalize hq : w.tape w.drawn (.appendCap xs.length 0 e) % (9223372036854775808 - xs.length) = q
 let arr : Array Value := ((List.range (xs.length * ie.size)).map cx).toArray ++ Builtin.zeroCells ze.cells q
 have hrun : (execOp ρc o).run P w = .ok (.value (.slice (some ⟨w.heap.size, 0, none⟩) xs.length (xs.length + q))) (w.drew.alloc (.cells arr e)) := by
  have b1 : ¬ ((9223372036854775807 : Int) < (xs.length : Int) ∧ ie.bytes = 0) := by omega
  have b2 : ¬ (281474976710656 < Builtin.nextslicecap xs.length 0 * ie.bytes) := by
   rw [hbytes]
   have : Builtin.nextslicecap xs.length 0 * i.ebytes ≤ 2 * xs.length * i.ebytes := Nat.mul_le_mul_right _ hnc
   rw [Nat.mul_assoc] at this; omega
  have b3 : ¬ (xs.length ≤ 0) := by omega
  have f1 : (Builtin.firstCells ie.size 0 (.slice a 0 0)).run P w.drew = .ok #[] w.drew := by
   cases a with
   | none => simp [Builtin.firstCells]
   | some a => simp [Builtin.firstCells, loadCells, loadCellsFrom]
  have f2 := run_first (P := P) (g := g) (w := w) (a := some ⟨b, off, none⟩) (cap := cap2) (k := i.esize) (es := xs) (cell := cx) (fun _ => ⟨b, off, rfl, hlx, hcellx⟩) w.drew (fun _ => rfl)
  rw [← hsz] at f2
  simp [execOp, ho, resolve, invoke, builtin, Builtin.append_, run_underlying i2, run_underlying j2, run_sizeOf' he1, hcx, hcy, Builtin.lenOf, typeInfo, he1, b3, Question.forced, Question.cut]
  rw [if_neg (by omega)]
  rw [if_neg b1, if_neg b2, f1]
  simp only [Result.andThen_ok]
  rw [f2]
  simp [zeroValue, typeInfo, he1, hze, newRow, hq, arr]
 have hv : RVL g w.drew arr (xs.flatten ++ List.replicate (q * i.esize) .undef) := by
  have hx' := Ext.drew g w
  refine ⟨by simp only [arr, Array.size_append, zero_size, hzel, hsz]; simp [hfx], fun n c v hc hv => ?_⟩
  by_cases hlt : n < xs.flatten.length
  ·rw [List.getElem?_append_left hlt] at hv
   simp only [arr] at hc
   rw [Array.getElem?_append_left (by simp; rw [hsz]; omega)] at hc
   simp only [List.getElem?_toArray, List.getElem?_map] at hc
   rw [List.getElem?_range (by rw [hsz]; omega)] at hc
   simp only [Option.map_some, Option.some.injEq] at hc
   subst hc
   exact (hrx n v hv).mono hx'
  ·rw [List.getElem?_append_right (by omega), List.getElem?_replicate] at hv
   split at hv
   ·cases hv; exact .undef _
   ·cases hv
 obtain ⟨g', hx', hr', hv'⟩ := new_box (r.drew) hn hv e
 refine ⟨q * i.esize, _, _, g', hrun, (Ext.drew g w).trans hx', hr', ?_⟩
 generalize hp : Value.pointer (some ⟨w.drew.heap.size, 0, none⟩) = p at hv'
 cases hv' with
 | ptr _ _ hd =>
  simp only [Value.pointer.injEq, Option.some.injEq, Addr.mk.injEq] at hp
  rw [show w.heap.size = g'.loc nid from hp.1]
  exact .slb nid xs.length (xs.length + q) hd (by omega)
theorem aops_pre {P : Program} {env : Nat → Option (List V)} {ops : Array Oper} {gen reg : Nat} {K : St → Prop} :
  ∀ (rest : List Oper) (i : Nat) (log : List LogE) (σ : St), (∀ j o, rest[j]? = some o → ops[i + j]? = some o) → aops P env ops false gen reg rest i log K σ →
   ∃ l σe, l.map (·.1) = (List.range rest.length).map (i + ·) ∧ Chain P env ops gen reg l σ σe ∧ K σe
 | [], i, log, σ, _, h => ⟨[], σ, rfl, .nil σ, h⟩
 | o :: rest, i, log, σ, hr, h => by
  have ho : ops[i]? = some o := by have := hr 0 o; simpa using this
  have hr' : ∀ j p, rest[j]? = some p → ops[i + 1 + j]? = some p := fun j p hp => by
   have := hr (j + 1) p (by simpa using hp)
   rw [show i + (j + 1) = i + 1 + j by omega] at this
   exact this
  have hidx : i :: (List.range rest.length).map (i + 1 + ·) = (List.range (o :: rest).length).map (i + ·) := by
   rw [List.length_cons, List.range_succ_eq_map, List.map_cons, List.map_map]
   simp only [Nat.add_zero]
   congr 1
   apply List.map_congr_left
   intro j _; simp; omega
  rcases aops_stp h with ⟨hg, h'⟩ | ⟨hg, e, hs, hlog, h'⟩
  ·obtain ⟨l, σe, h1, h2, h3⟩ := aops_pre rest (i + 1) log _ hr' h'
   exact ⟨(i, none) :: l, σe, by rw [List.map_cons, h1]; exact hidx, .cons _ _ _ _ _ ⟨o, ho, hg, rfl⟩ h2, h3⟩
  ·obtain ⟨l, σe, h1, h2, h3⟩ := aops_pre rest (i + 1) _ _ hr' h'
   exact ⟨(i, some e) :: l, σe, by rw [List.map_cons, h1]; exact hidx, .cons _ _ _ _ _ ⟨o, ho, hg, hs, rfl⟩ h2, h3⟩
theorem chain_app {P : Program} {env : Nat → Option (List V)} {ops : Array Oper} {gen reg n : Nat} (hn : dstOk n ops = true) (l2 : List Nat) :
  ∀ (l : List (Nat × Option Eff)) {σ σe : St} (h : Chain P env ops gen reg l σ σe) {g : G} {w : World} {a : Act} (r : RelSt env n g w a σ)
  {Q : Exit → Act → World → Prop} (hk : ∀ g' a' w', Ext g w g' w' → RelSt env n g' w' a' σe → wpOps P ops Q l2 a' w'), wpOps P ops Q (l.map (·.1) ++ l2) a w
 | [], _, _, .nil _, g, w, a, r, Q, hk => hk g a w (Ext.refl g w) r
 | x :: l, _, _, .cons _ _ _ σ1 _ hs t, g, w, a, r, Q, hk => by
  rw [List.map_cons, List.cons_append, wpOps_cons]
  exact cstep_wp hn hs r fun g' a' w' hx r' => chain_app hn l2 l t r' fun g2 a2 w2 hx2 r2 => hk g2 a2 w2 (hx.trans hx2) r2
/-- What is asked of an 'append' that makes a new box. -/
structure AppOk (P : Program) (s x : V) (T U : Option TyI) (xs : List (List V)) : Prop where
 s : s = .sl .full []
 x : ∃ cc, x = .sl cc xs
 ne : xs ≠ []
 ty : ∃ i j, T = some i ∧ U = some j ∧ i.kind = 4 ∧ j.kind = 4 ∧ i.esize ≠ 0 ∧ i.ezero.length = i.esize ∧ xs.all (fun e => e.length == i.esize) = true ∧ xs.length * i.ebytes ≤ 140737488355328 ∧ xs.length ≤ 140737488355328
/-- A region with an 'append' to nil whose row is stored into later: a new box. -/
theorem AR_region_app {c : Ctx} {gen : Nat} {k : List It} {σ : St} {id : Nat} {ops : Array Oper} (j : Nat) {o : Oper} {x y : Operand} {t t2 : TypeId} {d : Nat} (hops : ops[j]? = some o) (hg : o.guard = none) (hdst : o.dst = some d)
  (hop : o.op = .call { callee := .builtin .append, args := #[x, y], argTypes := #[t, t2] })
  (h : aops c.P c.env ops false gen id (ops.toList.take j) 0 [] (fun σ1 => ∃ xs, AppOk c.P (av c.env σ1.tm x) (av c.env σ1.tm y) (tyi c.P t) (tyi c.P t2) xs ∧ σ1.h ⟨gen, id, j⟩ = none ∧
   ∀ q, aops c.P c.env ops false gen id (ops.toList.drop (j + 1)) (j + 1) [] (fun σ' => AR c gen k .normal σ')
    ⟨upd σ1.tm (some d) (.slb ⟨gen, id, j⟩ xs.length), hset σ1.h ⟨gen, id, j⟩ (.box (xs.flatten ++ List.replicate q .undef))⟩) σ) :
  AR c gen (.code (.region id ops false) :: k) .normal σ := by
 rw [← hdst] at h
 intro ok hm g a w hx r
 simp only [okStk, okCode, Bool.and_eq_true] at ok
 obtain ⟨⟨hd, _⟩, okk⟩ := ok
 have hj : j < ops.size := (Array.getElem?_eq_some_iff.1 hops).1
 obtain ⟨l1, σ1, h1, h2, xs, hA, hnone, hq⟩ := aops_pre (ops.toList.take j) 0 [] σ (fun i o h => by
  rw [List.getElem?_take] at h
  split at h
  ·simpa using h
  ·cases h) h
 have hl1 : l1.map (·.1) = List.range j := by
  rw [h1, List.length_take]
  rw [Nat.min_eq_left (by simpa using Nat.le_of_lt hj)]
  simp
 refine wp_region ?_
 have hsplit : List.range ops.size = List.range j ++ (j :: (List.range (ops.size - (j + 1))).map (j + 1 + ·)) := by
  apply List.ext_getElem?
  intro i
  by_cases hi : i < j
  ·rw [List.getElem?_append_left (by simpa using hi), List.getElem?_range (by omega), List.getElem?_range hi]
  ·rw [List.getElem?_append_right (by simpa using hi)]
   simp only [List.length_range]
   rcases Nat.eq_or_lt_of_le (Nat.le_of_not_lt hi) with e | hlt
   ·subst e; simp [hj]
   ·obtain ⟨m, rfl⟩ : ∃ m, i = j + 1 + m := ⟨i - (j + 1), by omega⟩
    rw [show j + 1 + m - j = m + 1 by omega, List.getElem?_cons_succ]
    by_cases hm : m < ops.size - (j + 1)
    ·rw [List.getElem?_map, List.getElem?_range hm, List.getElem?_range (by omega)]; simp
    ·rw [List.getElem?_eq_none (by simp; omega), List.getElem?_eq_none (by simp; omega)]
 rw [hsplit, ← hl1]
 refine chain_app hd _ l1 h2 r fun g' a' w' hx' r' => ?_
 rw [wpOps_cons]
 unfold wpOp
 rw [hops]
 have hw : Region.wanted o (yielded ops a'.tmps) = true := by unfold Region.wanted; rw [hg]
 simp only [hw, if_true]
 obtain ⟨a1, ⟨cc, a2⟩, a3, i, jj, t1, t2', k1, k2, k3, k4, k6, k8, k9⟩ := hA
 obtain ⟨q, cv, w2, g2, hrun, hx2, hr2, hv2⟩ := append_box (ρc := a'.eval) (ρ := av c.env σ1.tm) r'.rel (fun x => rv_av r' x) hop t1 t2' a1 a2 a3 hnone k1 k2 k3 k4 k6 k8 k9
 refine .inl ?_
 simp only [Oper.wp, hrun, Oper.upon_value]
 have r2 := r'.put hx2 (d := o.dst) (fun t ht => dstOk_at hd hops t ht) hr2 hv2
 obtain ⟨l3, σ3, h3, h4, h5⟩ := aops_pre (ops.toList.drop (j + 1)) (j + 1) [] _ (fun i o h => by
  rw [List.getElem?_drop] at h
  simpa using h) (hq q)
 have hl3 : l3.map (·.1) = (List.range (ops.size - (j + 1))).map (j + 1 + ·) := by
  rw [h3, List.length_drop]; simp
 rw [← hl3]
 exact chain_ops hd l3 h4 r2 fun g3 a3 w3 hx3 r3 => h5 okk hm g3 a3 w3 (((hx.trans hx').trans hx2).trans hx3) r3
/-- A value when the box of its row becomes immutable. -/
def Fz (id : Id) (n : Nat) (rows : List (List V)) (v v' : V) : Prop := v' = .undef ∨ v' = v ∨ (v = .slb id n ∧ v' = .sl .any rows)
theorem RV.freeze {g g' : G} {w : World} {S : Id → Prop} (hl : ∀ b, g.lim b ≤ g'.lim b) (hS : ∀ id, S id → g'.dom id = true ∧ g'.loc id = g.loc id ∧ g'.buf id = g.buf id)
  {c : Value} {v : V} (h : RV g w c v) (hin : InV S v) : RV g' w c v := by
 induction h with
 | undef c => exact .undef c
 | bool b => exact .bool b
 | int k n => exact .int k n
 | str s => exact .str s
 | agg vs cs h _ ih => rw [InV] at hin; exact .agg vs cs h fun i c v hc hv => ih i c v hc hv (InL_get hin hv)
 | tup vs cs h _ ih => rw [InV] at hin; exact .tup vs cs h fun i c v hc hv => ih i c v hc hv (InL_get hin hv)
 | sl a cap c es k cell hk hcap hrun _ hc ih =>
  rw [InV] at hin
  refine .sl a cap c es k cell hk hcap (fun hne => ?_) (fun i v hv => ih i v hv (InL_get (InLL_flat.1 hin.2) hv)) ?_
  ·obtain ⟨b, off, e, h1, h2⟩ := hrun hne
   exact ⟨b, off, e, Nat.le_trans h1 (hl b), h2⟩
  cases c with
  | any => trivial
  | full => exact hc
  | own id =>
   obtain ⟨a1, a2, a3⟩ := hS id hin.1
   exact ⟨a1, by rw [a3]; exact hc.2⟩
 | ptr id off h => rw [InV] at hin; rw [← (hS id hin).2.1]; exact .ptr id off (hS id hin).1
 | slb id n cap h h2 => rw [InV] at hin; rw [← (hS id hin).2.1]; exact .slb id n cap (hS id hin).1 h2
 | el b off cs o cell hlm hrun _ ih => rw [InV] at hin; exact .el b off cs o cell (Nat.le_trans hlm (hl b)) hrun fun i v hv => ih i v hv (InL_get hin hv)
 | nilp => exact .nilp
 | fn f fs cs fs' cs' h1 h2 _ _ ih1 ih2 =>
  rw [InV] at hin
  exact .fn f fs cs fs' cs' h1 h2 (fun i c v hc hv => ih1 i c v hc hv (InL_get hin.1 hv)) (fun i c v hc hv => ih2 i c v hc hv (InL_get hin.2 hv))
 | nilf => exact .nilf
 | iface t c v _ ih => rw [InV] at hin; exact .iface t c v (ih hin)
 | nili => exact .nili
/-- A row that was stored into becomes immutable; what is kept must not mention its box. -/
theorem AR_freeze {c : Ctx} {gen : Nat} {k : List It} {e : Exit} {σ : St} (id : Id) {n kk : Nat} {rows : List (List V)} {cs : List V} {tm' : Nat → V} {h' : H}
  (hrel0 : Rel c.env c.g0 c.w0 c.h0) (hb : σ.h id = some (.box cs)) (hrows : cs.take (n * kk) = rows.flatten) (hlen : rows.length = n) (hk : ∀ r ∈ rows, r.length = kk) (hle : n * kk ≤ cs.length)
  (hrin : InLL (fun j => h' j ≠ none) rows) (hid : h' id = none)
  (hh : ∀ j, h' j ≠ none → (h' j = σ.h j ∧ ∀ bs, h' j = some (.box bs) → c.h0 j = some (.box bs)) ∨
   ∃ bs bs', σ.h j = some (.box bs) ∧ h' j = some (.box bs') ∧ bs.length = bs'.length ∧ (∀ (i : Nat) v v', bs[i]? = some v → bs'[i]? = some v' → Fz id n rows v v') ∧ InL (fun j => h' j ≠ none) bs')
  (hdom : ∀ j, c.h0 j ≠ none → h' j ≠ none) (htm : ∀ t, Fz id n rows (σ.tm t) (tm' t) ∧ InV (fun j => h' j ≠ none) (tm' t))
  (h : AR c gen k e ⟨tm', h'⟩) : AR c gen k e σ := by
 intro ok hm g a w hx r
 have q := r.rel
 obtain ⟨vs, ⟨ty, b1⟩, b2, b3, b4, b5⟩ := q.box id cs hb
 let g' : G := { g with dom := fun j => decide (h' j ≠ none), lim := fun b => if b = g.loc id then n * kk else g.lim b }
 have hl : ∀ b, g.lim b ≤ g'.lim b := fun b => by
  show g.lim b ≤ if b = g.loc id then n * kk else g.lim b
  split
  ·rename_i e; rw [e, b4]; omega
  ·exact Nat.le_refl _
 have hlo : ∀ b, b ≠ g.loc id → g'.lim b = g.lim b := fun b hb => by show (if b = g.loc id then _ else g.lim b) = _; rw [if_neg hb]
 have hS : ∀ j, h' j ≠ none → g'.dom j = true ∧ g'.loc j = g.loc j ∧ g'.buf j = g.buf j := fun j hj => ⟨by show decide (h' j ≠ none) = true; simpa using hj, rfl, rfl⟩
 have hmv : ∀ {c : Value} {v : V}, RV g w c v → InV (fun j => h' j ≠ none) v → RV g' w c v := fun h1 h2 => h1.freeze hl hS h2
 have hsame : ∀ j, h' j ≠ none → ∃ ob, σ.h j = some ob := fun j hj => by
  rcases hh j hj with ⟨h1, _⟩ | ⟨bs, bs', h1, _⟩
  ·rw [← h1]; cases hj' : h' j with
   | none => exact absurd hj' hj
   | some ob => exact ⟨ob, rfl⟩
  ·exact ⟨_, h1⟩
 have hx' : Ext c.g0 c.w0 g' w := by
  refine ⟨hx.os, hx.tape, hx.output, hx.size, fun b => Nat.le_trans (hx.lim b) (hl b), hx.cells, hx.wr, fun j hj => ?_, hx.top⟩
  obtain ⟨_, a2, a3⟩ := hx.dom j hj
  exact ⟨by show decide (h' j ≠ none) = true; simpa using hdom j ((hrel0.dom j).1 hj), a2, a3⟩
 have hrow : ∀ cap, n ≤ cap → RV g' w (.slice (some ⟨g.loc id, 0, none⟩) n cap) (.sl .any rows) := fun cap hcap => by
  have hfl := flat_len rows kk hk
  rw [hlen] at hfl
  rw [← hlen]
  refine .sl _ cap .any rows kk (fun i => vs[i]?.getD undef) hk (by omega) (fun _ => ⟨g.loc id, 0, rfl, ?_, fun i hi => ?_⟩) (fun i v hv => ?_) trivial
  ·show 0 + _ ≤ if g.loc id = g.loc id then n * kk else _
   rw [if_pos rfl, hlen]; omega
  ·rw [Nat.zero_add]
   have : i < vs.size := by rw [b2]; rw [hlen] at hi; omega
   simp [World.cell?, b1, this]
  ·have hv' : cs[i]? = some v := by
    rw [← hrows, List.getElem?_take] at hv
    split at hv
    ·exact hv
    ·cases hv
   obtain ⟨c0, hc1, hc2⟩ := (show RVL g w vs cs from ⟨b2, b3⟩).at hv'
   simp only [hc1, Option.getD_some]
   exact hmv hc2 (InL_get (InLL_flat.1 hrin) hv)
 have hfz : ∀ {cv : Value} {v v' : V}, RV g w cv v → Fz id n rows v v' → InV (fun j => h' j ≠ none) v' → RV g' w cv v' := by
  intro cv v v' h1 h2 h3
  rcases h2 with rfl | rfl | ⟨rfl, rfl⟩
  ·exact .undef _
  ·exact hmv h1 h3
  ·cases h1 with
   | slb _ _ cap _ hcap => exact hrow cap hcap
 have hboxes : ∀ j bs', h' j = some (.box bs') → ∃ bs, σ.h j = some (.box bs) ∧ bs.length = bs'.length ∧ ∀ (vs : Array Value), RVL g w vs bs → RVL g' w vs bs' := by
  intro j bs' e'
  rcases hh j (by rw [e']; simp) with ⟨h1, h2⟩ | ⟨bs, bs2, h1, h2, h3, h4, h5⟩
  ·have h0 := h2 bs' e'
   refine ⟨bs', by rw [← h1]; exact e', rfl, fun vs hv => ⟨hv.1, fun i cv v hc hv' => hmv (hv.2 i cv v hc hv') ?_⟩⟩
   obtain ⟨vs0, _, z2, z3, _⟩ := hrel0.box j bs' h0
   obtain ⟨c0, hc0⟩ := RVL_get (g := c.g0) (w := c.w0) z2 hv'
   have := (z3 i c0 v hc0 hv').inV
   exact InV_mono (fun id hid => hdom id ((hrel0.dom id).1 hid)) v this
  ·rw [e'] at h2; cases h2
   refine ⟨bs, h1, h3, fun vs hv => ⟨by rw [hv.1, h3], fun i cv v hc hv' => ?_⟩⟩
   have hi : i < bs.length := by rw [h3]; exact (List.getElem?_eq_some_iff.1 hv').1
   have hbi : bs[i]? = some bs[i] := List.getElem?_eq_getElem hi
   exact hfz (hv.2 i cv _ hc hbi) (h4 i _ _ hbi hv') (InL_get h5 hv')
 have hne : ∀ j bs', h' j = some (.box bs') → g.loc j ≠ g.loc id := fun j bs' e' e2 => by
  obtain ⟨bs, h1, _⟩ := hboxes j bs' e'
  have := q.inj j id bs cs h1 hb e2
  rw [this, hid] at e'; cases e'
 have htok : ∀ j n' k', h' j = some (.tok n' k') → σ.h j = some (.tok n' k') := fun j n' k' e' => by
  rcases hh j (by rw [e']; simp) with ⟨h1, _⟩ | ⟨bs, bs2, _, h2, _⟩
  ·rw [← h1]; exact e'
  ·rw [e'] at h2; cases h2
 refine h ok hm g' a w hx' ⟨?_, fun t => ?_, r.size, r.defers⟩
 ·refine ⟨fun j => by show decide (h' j ≠ none) = true ↔ _; simp, fun j hj => ?_, ?_, ?_, ?_, ?_, ?_, ?_, ?_⟩
  ·obtain ⟨ob, ho⟩ := hsame j hj
   exact q.top j (by rw [ho]; simp)
  ·intro j bs' e'
   obtain ⟨bs, h1, h2, h3⟩ := hboxes j bs' e'
   obtain ⟨vs', c1, c2, c3, c4, c5⟩ := q.box j bs h1
   have := h3 vs' ⟨c2, c3⟩
   exact ⟨vs', c1, this.1, this.2, by show g'.lim (g.loc j) = 0; rw [hlo _ (hne j bs' e')]; exact c4, c5⟩
  ·intro i1 i2 c1 c2 e1 e2 e3
   obtain ⟨d1, f1, _⟩ := hboxes i1 c1 e1
   obtain ⟨d2, f2, _⟩ := hboxes i2 c2 e2
   exact q.inj i1 i2 d1 d2 f1 f2 e3
  ·intro j n' k' e'
   obtain ⟨h1, h2, h3, hk⟩ := q.tok j n' k' (htok j n' k' e')
   refine ⟨h1, h2, fun hlt => ?_, hk⟩
   obtain ⟨b, off, vs', s1, s2, s3, s4, s5⟩ := h3 hlt
   have := q.apart j id n' k' cs (htok j n' k' e') hlt hb _ s1
   exact ⟨b, off, vs', s1, s2, s3, by rw [hlo b this]; exact s4, s5⟩
  ·intro i1 i2 n' k' c' e1 hlt e2
   obtain ⟨d2, f2, _⟩ := hboxes i2 c' e2
   exact q.apart i1 i2 n' k' d2 (htok i1 n' k' e1) hlt f2
  ·intro i1 i2 n1 n2 k1 k2 e1 hlt e2 hlt2
   exact q.apart2 i1 i2 n1 n2 k1 k2 (htok _ _ _ e1) hlt (htok _ _ _ e2) hlt2
  ·intro b hb'
   rw [hlo b (by have := q.lt hb; omega)]; exact q.limnew b hb'
  ·intro k cs' e'
   refine hmv (q.glob k cs' e') ?_
   have := (hrel0.glob k cs' e').inV
   exact InV_mono (fun id hid => hdom id ((hrel0.dom id).1 hid)) _ this
 ·exact hfz (r.tm t) (htm t).1 (htm t).2
/-- As 'AR_freeze', with lists: the values and the boxes that are kept. -/
theorem AR_freezeL {c : Ctx} {gen : Nat} {k : List It} {e : Exit} {σ : St} (id : Id) (n kk : Nat) (rows : List (List V)) (L : List (Nat × V)) (B : List (Id × List V × List V)) {cs : List V} {h' : H} {tm' : Nat → V}
  (hh' : h' = B.foldr (fun b h => hset h b.1 (.box b.2.2)) c.h0) (htm' : tm' = L.foldr (fun p tm => upd tm (some p.1) p.2) (fun _ => .undef))
  (hrel0 : Rel c.env c.g0 c.w0 c.h0) (hb : σ.h id = some (.box cs)) (hrows : cs.take (n * kk) = rows.flatten) (hlen : rows.length = n) (hk : ∀ r ∈ rows, r.length = kk) (hle : n * kk ≤ cs.length)
  (h0 : c.h0 id = none) (hnot : ∀ b ∈ B, b.1 ≠ id) (hag : Agree c.h0 σ.h)
  (hrin : InLL (fun j => h' j ≠ none) rows)
  (hB : ∀ b ∈ B, c.h0 b.1 = none ∧ σ.h b.1 = some (.box b.2.1) ∧ b.2.1.length = b.2.2.length ∧ (∀ p ∈ b.2.1.zip b.2.2, Fz id n rows p.1 p.2) ∧ InL (fun j => h' j ≠ none) b.2.2)
  (hL : ∀ p ∈ L, Fz id n rows (σ.tm p.1) p.2 ∧ InV (fun j => h' j ≠ none) p.2)
  (h : AR c gen k e ⟨tm', h'⟩) : AR c gen k e σ := by
 have key : ∀ (B' : List (Id × List V × List V)) (j : Id), (B'.foldr (fun b h => hset h b.1 (.box b.2.2)) c.h0) j = c.h0 j ∨ ∃ b ∈ B', b.1 = j ∧ (B'.foldr (fun b h => hset h b.1 (.box b.2.2)) c.h0) j = some (.box b.2.2) := by
  intro B' j
  induction B' with
  | nil => exact .inl rfl
  | cons b B' ih =>
   by_cases hj : j = b.1
   ·right; exact ⟨b, by simp, hj.symm, by simp only [List.foldr_cons]; rw [hj, hset_same]⟩
   ·simp only [List.foldr_cons]
    rw [hset_other hj]
    rcases ih with h | ⟨b', h1, h2, h3⟩
    ·exact .inl h
    ·exact .inr ⟨b', by simp [h1], h2, h3⟩
 have keyT : ∀ (L' : List (Nat × V)) (t : Nat), (L'.foldr (fun p tm => upd tm (some p.1) p.2) (fun _ => V.undef)) t = .undef ∨ ∃ p ∈ L', p.1 = t ∧ (L'.foldr (fun p tm => upd tm (some p.1) p.2) (fun _ => V.undef)) t = p.2 := by
  intro L' t
  induction L' with
  | nil => exact .inl rfl
  | cons p L' ih =>
   simp only [List.foldr_cons, upd]
   by_cases ht : t = p.1
   ·right; exact ⟨p, by simp, ht.symm, by rw [if_pos ht]⟩
   ·rw [if_neg ht]
    rcases ih with h | ⟨b', h1, h2, h3⟩
    ·exact .inl h
    ·exact .inr ⟨b', by simp [h1], h2, h3⟩
 refine AR_freeze id hrel0 hb hrows hlen hk hle hrin ?_ ?_ ?_ ?_ h
 ·rcases key B id with h1 | ⟨b, h1, h2, _⟩
  ·rw [hh', h1]; exact h0
  ·exact absurd h2 (hnot b h1)
 ·intro j hj
  rcases key B j with h1 | ⟨b, h1, h2, h3⟩
  ·left
   have e1 : h' j = c.h0 j := by rw [hh']; exact h1
   rw [e1] at hj ⊢
   exact ⟨(hag j hj).symm, fun bs hbs => hbs⟩
  ·right
   obtain ⟨_, b1, b2, b3, b4⟩ := hB b h1
   subst h2
   refine ⟨_, _, b1, by rw [hh']; exact h3, b2, fun i v v' hv hv' => ?_, b4⟩
   refine b3 (v, v') ?_
   have : (b.2.1.zip b.2.2)[i]? = some (v, v') := by rw [List.getElem?_zip_eq_some]; exact ⟨hv, hv'⟩
   exact List.mem_of_getElem? this
 ·intro j hj
  rcases key B j with h1 | ⟨b, h1, h2, h3⟩
  ·rw [hh', h1]; exact hj
  ·rw [hh', h3]; simp
 ·intro t
  rcases keyT L t with h1 | ⟨p, h1, h2, h3⟩
  ·rw [htm', h1]; exact ⟨.inl rfl, by rw [InV]; trivial⟩
  ·subst h2
   rw [htm', h3]; exact hL p h1
end GoAbs
namespace GoAbs
open Go
theorem ta_W {t : Tm} (h : TmW t) (i : Nat) : TmW (ta t i) := by
 unfold ta
 cases hh : t.args[i]? with
 | none => rw [List.getD_eq_getElem?_getD, hh]; exact zeroT_W
 | some x => rw [List.getD_eq_getElem?_getD, hh]; exact h.arg (List.mem_of_getElem? hh)
theorem tm_upW {b : Int} : ∀ (t : Tm) (fr : Int), TmW t → TmW (t.up b fr) := by
 intro t
 induction t using Tm.ind with | h t ih => ?_
 intro fr ht
 rw [Tm.up_eq]
 refine .mk _ _ _ _ ht.ty (by rw [List.length_map]; exact ht.len) ?_
 intro x hx
 obtain ⟨y, hy, rfl⟩ := List.mem_map.1 hx
 exact ih y hy _ (ht.arg hy)
theorem tm_innW {s : Tm} (hs : TmW s) {a : Int} : ∀ (t : Tm) (d : Int), TmW t → TmW (tmInn s a t d) := by
 intro t
 induction t using Tm.ind with | h t ih => ?_
 intro d ht
 rw [tmInn_eq]
 repeat' split
 ·exact tm_upW _ _ hs
 ·exact tmVar_W _
 ·exact ht
 ·refine .mk _ _ _ _ ht.ty (by rw [List.length_map]; exact ht.len) ?_
  intro x hx
  obtain ⟨y, hy, rfl⟩ := List.mem_map.1 hx
  exact ih y hy _ (ht.arg hy)
theorem red_W {t : Tm} (h : TmW t) : TmW t.red := by
 have w0 := ta_W h 0
 have w1 := ta_W h 1
 have w2 := ta_W h 2
 unfold Tm.red
 repeat' split
 ·exact tm_innW w1 _ _ (ta_W w0 0)
 ·exact w0
 ·exact tm0_W2 (tm0_W2 w1 (ta_W w2 0)) (tmT_W3 h.ty w0 w1 (ta_W w2 0))
 ·exact w0
 ·exact tm0_W2 (tm0_W2 (tm0_W2 w1 (ta_W w2 0)) (ta_W w2 1)) (tmT_W3 h.ty w0 w1 (ta_W w2 1))
 ·exact ta_W w0 0
 ·exact ta_W w0 1
mutual
theorem nx_W {gr : Tm → Int} {room : Int} : ∀ t : Tm, TmW t → TmW (t.nx gr room).1
 | .mk k i ty l, h => by
  rw [Tm.nx]
  split
  ·split
   ·exact zeroT_W
   ·exact red_W h
  ·cases hl : Tm.nxL gr room l with
   | none => exact h
   | some p =>
    obtain ⟨h1, h2⟩ := nxL_W l (fun x hx => h.arg hx) p hl
    exact .mk _ _ _ _ h.ty (by rw [h1]; exact h.len) h2
theorem nxL_W {gr : Tm → Int} {room : Int} : ∀ l : List Tm, (∀ x ∈ l, TmW x) → ∀ p, Tm.nxL gr room l = some p → p.1.length = l.length ∧ ∀ x ∈ p.1, TmW x
 | [], _, p, h => by rw [Tm.nxL] at h; cases h
 | a :: l, hw, p, h => by
  rw [Tm.nxL] at h
  split at h
  ·cases h
   refine ⟨by simp, fun x hx => ?_⟩
   rcases List.mem_cons.1 hx with rfl | hx
   ·exact nx_W a (hw a (by simp))
   ·exact hw x (by simp [hx])
  ·cases hl : Tm.nxL gr room l with
   | none => rw [hl] at h; cases h
   | some q =>
    rw [hl] at h
    cases h
    obtain ⟨h1, h2⟩ := nxL_W l (fun x hx => hw x (by simp [hx])) q hl
    refine ⟨by simp [h1], fun x hx => ?_⟩
    rcases List.mem_cons.1 hx with rfl | hx
    ·exact hw _ (by simp)
    ·exact h2 x hx
end
/-- The search for a redex has come to a place. -/
def nxAt (gr : Tm → Int) (room : Int) (l : List Tm) (i : Nat) : Prop :=
 Tm.nxL gr room l = match Tm.nxL gr room (l.drop i) with | some p => some (l.take i ++ p.1, p.2) | none => none
theorem nxAt_0 {gr : Tm → Int} {room : Int} {l : List Tm} : nxAt gr room l 0 := by
 unfold nxAt
 cases h : Tm.nxL gr room l <;> simp [h]
theorem nxAt_next {gr : Tm → Int} {room : Int} {l : List Tm} {i : Nat} {x : Tm} (h : nxAt gr room l i) (hx : l[i]? = some x) (hn : (x.nx gr room).2.1 = false) : nxAt gr room l (i + 1) := by
 unfold nxAt at h ⊢
 rw [drop_get hx, Tm.nxL, hn] at h
 simp only [Bool.false_eq_true, if_false] at h
 rw [h]
 cases hl : Tm.nxL gr room (l.drop (i + 1)) with
 | none => rfl
 | some p => simp only [List.take_add_one, hx, Option.toList_some, List.append_assoc, List.singleton_append]
theorem nxAt_found {gr : Tm → Int} {room : Int} {l : List Tm} {i : Nat} {x : Tm} (h : nxAt gr room l i) (hx : l[i]? = some x) (hn : (x.nx gr room).2.1 = true) :
  Tm.nxL gr room l = some (l.set i (x.nx gr room).1, (x.nx gr room).2.2) := by
 unfold nxAt at h
 rw [drop_get hx, Tm.nxL, hn] at h
 simp only [if_true] at h
 rw [h, List.set_eq_take_append_cons_drop, if_pos (List.getElem?_eq_some_iff.1 hx).1]
theorem nxAt_end {gr : Tm → Int} {room : Int} {l : List Tm} (h : nxAt gr room l l.length) : Tm.nxL gr room l = none := by
 unfold nxAt at h
 rw [List.drop_length] at h
 rw [h, Tm.nxL]
theorem nx_mk {gr : Tm → Int} {room : Int} {t : Tm} (hr : t.root = false) :
  t.nx gr room = match Tm.nxL gr room t.args with | some p => (.mk t.kind t.index t.type p.1, true, p.2) | none => (t, false, true) := by
 obtain ⟨k, i, ty, l⟩ := t
 rw [Tm.nx, hr]; rfl
theorem HasTy.args {Q : Ty → Prop} {g : List Ty} {t : Tm} {s : Ty} (h : HasTy Q g t s) : ∀ x ∈ t.args, ∃ g' s', HasTy Q g' x s' := by
 cases h with
 | var => intro x hx; simp [tmVar, Tm.args] at hx
 | lam _ h1 => intro x hx; simp [tmT, Tm.args] at hx; subst hx; exact ⟨_, _, h1⟩
 | n0 => intro x hx; simp [tmT, Tm.args] at hx
 | n1 _ h1 => intro x hx; simp [tmT, Tm.args] at hx; subst hx; exact ⟨_, _, h1⟩
 | n2 _ h1 h2 => intro x hx; simp [tmT, Tm.args] at hx; rcases hx with rfl | rfl; exact ⟨_, _, h1⟩; exact ⟨_, _, h2⟩
 | n3 _ h1 h2 h3 => intro x hx; simp [tmT, Tm.args] at hx; rcases hx with rfl | rfl | rfl; exact ⟨_, _, h1⟩; exact ⟨_, _, h2⟩; exact ⟨_, _, h3⟩
theorem flat5 (l : List Tm) : (l.map Tm.cells).flatten.length = l.length * 5 := by
 induction l with
 | nil => rfl
 | cons a l ih => simp only [List.map_cons, List.flatten_cons, List.length_append, Tm.cells_len, ih, List.length_cons]; omega
/-- The row after the store. -/
theorem take_splice {l : List Tm} {i : Nat} {x : Tm} {z : List V} (hi : i < l.length) :
  (splice ((l.map Tm.cells).flatten ++ z) (i * 5) x.cells).take (l.length * 5) = ((l.set i x).map Tm.cells).flatten := by
 have hf := flat5 l
 have hx := Tm.cells_len x
 have e1 : ((l.map Tm.cells).flatten ++ z).length = l.length * 5 + z.length := by rw [List.length_append, hf]
 rw [splice_eq x.cells (i * 5) _ (by rw [e1, hx]; omega), hx]
 have ht : ((l.take i).map Tm.cells).flatten.length = i * 5 := by rw [flat5, List.length_take, Nat.min_eq_left (by omega)]
 have hd : (l.map Tm.cells).flatten = ((l.take i).map Tm.cells).flatten ++ (l[i].cells ++ ((l.drop (i + 1)).map Tm.cells).flatten) := by
  conv => lhs; rw [← List.take_append_drop i l]
  rw [List.map_append, List.flatten_append, List.drop_eq_getElem_cons hi, List.map_cons, List.flatten_cons]
 have hl := Tm.cells_len l[i]
 rw [List.set_eq_take_append_cons_drop, if_pos hi, List.map_append, List.flatten_append, List.map_cons, List.flatten_cons]
 have hdl : ((l.drop (i + 1)).map Tm.cells).flatten.length = (l.length - (i + 1)) * 5 := by rw [flat5, List.length_drop]
 have a1 : ((l.map Tm.cells).flatten ++ z).take (i * 5) = ((l.take i).map Tm.cells).flatten := by
  rw [hd, List.append_assoc, ← ht, List.take_left]
 have a2 : ((l.map Tm.cells).flatten ++ z).drop (i * 5 + 5) = ((l.drop (i + 1)).map Tm.cells).flatten ++ z := by
  rw [hd, List.append_assoc, List.append_assoc, ← List.append_assoc]
  have : (((l.take i).map Tm.cells).flatten ++ l[i].cells).length = i * 5 + 5 := by rw [List.length_append, ht, hl]
  rw [← this, List.drop_left]
 rw [a1, a2]
 have b : (((l.take i).map Tm.cells).flatten ++ x.cells ++ ((l.drop (i + 1)).map Tm.cells).flatten).length = l.length * 5 := by
  rw [List.length_append, List.length_append, ht, hx, hdl]
  have : l.length = i + 1 + (l.length - (i + 1)) := by omega
  generalize l.length - (i + 1) = m at *
  omega
 rw [← List.append_assoc, ← b, List.take_left, List.append_assoc]
end GoAbs
namespace GoAbs
def nxR (t : Tm) : Option (List Tm × Bool) → Tm × Bool × Bool
 | some p => (.mk t.kind t.index t.type p.1, true, p.2)
 | none => (t, false, true)
theorem nx_nxR {gr : Tm → Int} {room : Int} {t : Tm} (hr : t.root = false) : t.nx gr room = nxR t (Tm.nxL gr room t.args) := by
 rw [nx_mk hr]; cases Tm.nxL gr room t.args <;> rfl
end GoAbs
namespace GoAbs
open Go
theorem TmG.re {k : Int} {t : Ty} {l l' : List Tm} (h : TmG (tmT k t l)) (hl : l'.length = l.length) (ha : ∀ x ∈ l', TmG x) : TmG (tmT k t l') := by
 generalize e : tmT k t l = u at h
 cases h with
 | plain hA hB hC _ =>
  simp only [tmT, tm0, Tm.mk.injEq] at e
  obtain ⟨rfl, _, rfl, rfl⟩ := e
  exact .plain hA (by rw [hl]; exact hB) hC ha
 | var hi =>
  simp only [tmT, tmVar, Tm.mk.injEq] at e
  obtain ⟨rfl, rfl, rfl, rfl⟩ := e
  have : l' = [] := by cases l' with
   | nil => rfl
   | cons _ _ => simp at hl
  subst this
  exact .var (by omega)
 | typd hA hB hC hg _ =>
  simp only [tmT, Tm.mk.injEq] at e
  obtain ⟨rfl, _, rfl, rfl⟩ := e
  exact .typd hA (by rw [hl]; exact hB) hC hg ha
theorem TmG.subs {k : Int} {t : Ty} {l : List Tm} (h : TmG (tmT k t l)) : ∀ x ∈ l, TmG x := fun x hx => h.arg (by simpa [tmT, Tm.args] using hx)
theorem pUp_G {b : Int} (hb : 0 ≤ b) {t : Tm} (h : TmG t) : ∀ c : Int, 0 ≤ c → TmG (pUp b t c) := by
 refine TmG.nd (P := fun t _ => ∀ c : Int, 0 ≤ c → TmG (pUp b t c)) ?_ ?_ h
 ·intro i hi c hc
  rw [pUp_var]
  split
  ·exact .var (by omega)
  ·exact .var hi
 ·intro k t l hk hl ht ih c hc
  rw [pUp_node hk]
  have := below_nn k
  refine ht.re (by simp) fun x hx => ?_
  obtain ⟨y, hy, rfl⟩ := List.mem_map.1 hx
  exact ih y hy _ (by omega)
theorem pIn_G {s : Tm} (hs : TmG s) {t : Tm} (h : TmG t) : ∀ e : Int, 0 ≤ e → TmG (pIn s t e) := by
 refine TmG.nd (P := fun t _ => ∀ e : Int, 0 ≤ e → TmG (pIn s t e)) ?_ ?_ h
 ·intro i hi e he
  rw [pIn_var]
  split
  ·exact pUp_G he hs 0 (by omega)
  ·split
   ·exact .var (by omega)
   ·exact .var hi
 ·intro k t l hk hl ht ih e he
  rw [pIn_node hk]
  have := below_nn k
  refine ht.re (by simp) fun x hx => ?_
  obtain ⟨y, hy, rfl⟩ := List.mem_map.1 hx
  exact ih y hy _ (by omega)
theorem pUp_swap {a b : Int} (ha : 0 ≤ a) (hb : 0 ≤ b) {t : Tm} (h : TmG t) : ∀ d c : Int, 0 ≤ d → d ≤ c → pUp b (pUp a t d) (c + a) = pUp a (pUp b t c) d := by
 refine TmG.nd (P := fun t _ => ∀ d c : Int, 0 ≤ d → d ≤ c → pUp b (pUp a t d) (c + a) = pUp a (pUp b t c) d) ?_ ?_ h
 ·intro i hi d c hd hc
  rw [pUp_var, pUp_var, pUp_var, pUp_var]
  congr 1
  repeat' split
  all_goals omega
 ·intro k t l hk hl ht ih d c hd hc
  rw [pUp_node hk, pUp_node hk, pUp_node hk, pUp_node hk, List.map_map, List.map_map]
  congr 1
  refine List.map_congr_left fun x hx => ?_
  have := below_nn k
  simp only [Function.comp]
  have e : c + a + tmBelow k = c + tmBelow k + a := by omega
  rw [e]
  exact ih x hx _ _ (by omega) (by omega)
theorem pUp_inU {b : Int} (hb : 0 ≤ b) {s : Tm} (hs : TmG s) {t : Tm} (h : TmG t) : ∀ c e : Int, 0 ≤ e → e ≤ c → pUp b (pIn s t e) c = pIn (pUp b s (c - e)) (pUp b t (c + 1)) e := by
 refine TmG.nd (P := fun t _ => ∀ c e : Int, 0 ≤ e → e ≤ c → pUp b (pIn s t e) c = pIn (pUp b s (c - e)) (pUp b t (c + 1)) e) ?_ ?_ h
 ·intro i hi c e he hc
  rw [pIn_var, pUp_var, pIn_var]
  by_cases h1 : i = e
  ·subst h1
   rw [if_pos rfl, if_neg (show ¬ i ≥ c + 1 by omega), if_pos rfl]
   have := pUp_swap (a := i) (b := b) he hb hs 0 (c - i) (by omega) (by omega)
   rw [show c - i + i = c by omega] at this
   exact this
  ·rw [if_neg h1]
   by_cases h2 : i > e
   ·rw [if_pos h2, pUp_var]
    by_cases h3 : i ≥ c + 1
    ·rw [if_pos h3, if_pos (by omega), if_neg (by omega), if_pos (by omega)]
     congr 1; omega
    ·rw [if_neg h3, if_neg (by omega), if_neg h1, if_pos h2]
   ·rw [if_neg h2, pUp_var, if_neg (show ¬ i ≥ c by omega), if_neg (show ¬ i ≥ c + 1 by omega), if_neg h1, if_neg h2]
 ·intro k t l hk hl ht ih c e he hc
  rw [pIn_node hk, pUp_node hk, pUp_node hk, pIn_node hk, List.map_map, List.map_map]
  congr 1
  refine List.map_congr_left fun x hx => ?_
  have := below_nn k
  simp only [Function.comp]
  have := ih x hx (c + tmBelow k) (e + tmBelow k) (by omega) (by omega)
  rw [show c + tmBelow k - (e + tmBelow k) = c - e by omega] at this
  rw [this]
  congr 2; omega
/-- What a redex becomes. -/
inductive Rdx : Int → Ty → List Tm → Tm → Prop
 | beta {ty ty' : Ty} {b a : Tm} : Rdx 3 ty [tmT 2 ty' [b], a] (pIn a b 0)
 | rec0 {ty ty' : Ty} {z f : Tm} : Rdx 6 ty [z, f, tmT 4 ty' []] z
 | recS {ty ty' : Ty} {z f n : Tm} : Rdx 6 ty [z, f, tmT 5 ty' [n]] (tm0 3 [tm0 3 [f, n], tmT 6 ty [z, f, n]])
 | fold0 {ty ty' : Ty} {z f : Tm} : Rdx 9 ty [z, f, tmT 7 ty' []] z
 | foldS {ty ty' : Ty} {z f h l : Tm} : Rdx 9 ty [z, f, tmT 8 ty' [h, l]] (tm0 3 [tm0 3 [tm0 3 [f, h], l], tmT 9 ty [z, f, l]])
 | fst {ty ty' : Ty} {x y : Tm} : Rdx 11 ty [tmT 10 ty' [x, y]] x
 | snd {ty ty' : Ty} {x y : Tm} : Rdx 12 ty [tmT 10 ty' [x, y]] y
/-- Redexes that stand side by side are reduced at once. -/
inductive Par : Tm → Tm → Prop
 | var (i : Int) : Par (tmVar i) (tmVar i)
 | cong {k : Int} {ty : Ty} {l l' : List Tm} (hk : k ≠ 1) (hl : l.length = l'.length) (h : ∀ (i : Nat) x x', l[i]? = some x → l'[i]? = some x' → Par x x') : Par (tmT k ty l) (tmT k ty l')
 | red {k : Int} {ty : Ty} {l l' : List Tm} {r r' : Tm} (hl : l.length = l'.length) (h : ∀ (i : Nat) x x', l[i]? = some x → l'[i]? = some x' → Par x x')
   (hr : Rdx k ty l r) (hr' : Rdx k ty l' r') : Par (tmT k ty l) r'
theorem Par.refl {t : Tm} (h : TmG t) : Par t t := by
 refine TmG.nd (P := fun t _ => Par t t) ?_ ?_ h
 ·intro i hi; exact .var i
 ·intro k t l hk hl ht ih
  refine .cong hk rfl fun i x x' h1 h2 => ?_
  rw [h1] at h2; cases h2
  exact ih x (List.mem_of_getElem? h1)
theorem Rdx.kind {k : Int} {ty : Ty} {l : List Tm} {r : Tm} (h : Rdx k ty l r) : k = 3 ∨ k = 6 ∨ k = 9 ∨ k = 11 ∨ k = 12 := by cases h <;> simp
theorem Rdx.below {k : Int} {ty : Ty} {l : List Tm} {r : Tm} (h : Rdx k ty l r) : tmBelow k = 0 := by cases h <;> rfl
theorem Rdx.ne {k : Int} {ty : Ty} {l : List Tm} {r : Tm} (h : Rdx k ty l r) : k ≠ 1 := by cases h <;> decide
/-- A node that is no redex is reduced in its parts. -/
theorem Par.hd {k : Int} {ty : Ty} {l : List Tm} {u : Tm} (hk : k = 2 ∨ k = 4 ∨ k = 5 ∨ k = 7 ∨ k = 8 ∨ k = 10) (h : Par (tmT k ty l) u) :
  ∃ l', u = tmT k ty l' ∧ l.length = l'.length ∧ ∀ (i : Nat) x x', l[i]? = some x → l'[i]? = some x' → Par x x' := by
 generalize e : tmT k ty l = t at h
 cases h with
 | var i => simp only [tmT, tmVar, Tm.mk.injEq] at e; omega
 | cong hk' hl hp =>
  simp only [tmT, Tm.mk.injEq] at e
  obtain ⟨rfl, _, rfl, rfl⟩ := e
  exact ⟨_, rfl, hl, hp⟩
 | red hl hp hr hr' =>
  simp only [tmT, Tm.mk.injEq] at e
  obtain ⟨rfl, _, rfl, rfl⟩ := e
  have := hr.kind; omega
theorem ln0 {l : List Tm} (h : ([] : List Tm).length = l.length) : l = [] := by cases l <;> simp_all
theorem ln1 {a : Tm} {l : List Tm} (h : [a].length = l.length) : ∃ x, l = [x] := by
 match l, h with
 | [x], _ => exact ⟨x, rfl⟩
theorem ln2 {a b : Tm} {l : List Tm} (h : [a, b].length = l.length) : ∃ x y, l = [x, y] := by
 match l, h with
 | [x, y], _ => exact ⟨x, y, rfl⟩
theorem ln3 {a b c : Tm} {l : List Tm} (h : [a, b, c].length = l.length) : ∃ x y z, l = [x, y, z] := by
 match l, h with
 | [x, y, z], _ => exact ⟨x, y, z, rfl⟩
/-- A redex stays one when its parts are reduced. -/
theorem Rdx.par {k : Int} {ty : Ty} {l l' : List Tm} {r : Tm} (h : Rdx k ty l r) (hl : l.length = l'.length) (hp : ∀ (i : Nat) x x', l[i]? = some x → l'[i]? = some x' → Par x x') : ∃ r', Rdx k ty l' r' := by
 cases h with
 | beta =>
  obtain ⟨x, y, rfl⟩ := ln2 hl
  obtain ⟨m, rfl, hm, _⟩ := (hp 0 _ _ rfl rfl).hd (by omega)
  obtain ⟨b', rfl⟩ := ln1 hm
  exact ⟨_, .beta⟩
 | rec0 =>
  obtain ⟨x, y, z, rfl⟩ := ln3 hl
  obtain ⟨m, rfl, hm, _⟩ := (hp 2 _ _ rfl rfl).hd (by omega)
  obtain rfl := ln0 hm
  exact ⟨_, .rec0⟩
 | recS =>
  obtain ⟨x, y, z, rfl⟩ := ln3 hl
  obtain ⟨m, rfl, hm, _⟩ := (hp 2 _ _ rfl rfl).hd (by omega)
  obtain ⟨b', rfl⟩ := ln1 hm
  exact ⟨_, .recS⟩
 | fold0 =>
  obtain ⟨x, y, z, rfl⟩ := ln3 hl
  obtain ⟨m, rfl, hm, _⟩ := (hp 2 _ _ rfl rfl).hd (by omega)
  obtain rfl := ln0 hm
  exact ⟨_, .fold0⟩
 | foldS =>
  obtain ⟨x, y, z, rfl⟩ := ln3 hl
  obtain ⟨m, rfl, hm, _⟩ := (hp 2 _ _ rfl rfl).hd (by omega)
  obtain ⟨b', c', rfl⟩ := ln2 hm
  exact ⟨_, .foldS⟩
 | fst =>
  obtain ⟨x, rfl⟩ := ln1 hl
  obtain ⟨m, rfl, hm, _⟩ := (hp 0 _ _ rfl rfl).hd (by omega)
  obtain ⟨b', c', rfl⟩ := ln2 hm
  exact ⟨_, .fst⟩
 | snd =>
  obtain ⟨x, rfl⟩ := ln1 hl
  obtain ⟨m, rfl, hm, _⟩ := (hp 0 _ _ rfl rfl).hd (by omega)
  obtain ⟨b', c', rfl⟩ := ln2 hm
  exact ⟨_, .snd⟩
theorem G2 {f a : Tm} (hf : TmG f) (ha : TmG a) : TmG (tm0 3 [f, a]) := .plain (a := 2) rfl rfl rfl (by simp [hf, ha])
theorem Rdx.G {k : Int} {ty : Ty} {l : List Tm} {r : Tm} (h : Rdx k ty l r) (hG : TmG (tmT k ty l)) : TmG r := by
 have hs := hG.subs
 cases h with
 | @beta _ ty' b a =>
  simp only [List.mem_cons, List.not_mem_nil, or_false, forall_eq_or_imp, forall_eq] at hs
  exact pIn_G hs.2 (hs.1.subs b (by simp)) 0 (by omega)
 | rec0 => exact hs _ (by simp)
 | @recS _ ty' z f n =>
  simp only [List.mem_cons, List.not_mem_nil, or_false, forall_eq_or_imp, forall_eq] at hs
  have hn := hs.2.2.subs n (by simp)
  exact G2 (G2 hs.2.1 hn) (hG.re rfl (by simp [hs.1, hs.2.1, hn]))
 | fold0 => exact hs _ (by simp)
 | foldS =>
  simp only [List.mem_cons, List.not_mem_nil, or_false, forall_eq_or_imp, forall_eq] at hs
  have hh := hs.2.2.subs
  simp only [List.mem_cons, List.not_mem_nil, or_false, forall_eq_or_imp, forall_eq] at hh
  exact G2 (G2 (G2 hs.2.1 hh.1) hh.2) (hG.re rfl (by simp [hs.1, hs.2.1, hh.2]))
 | @fst _ ty' x y => exact (hs (tmT 10 ty' [r, y]) (by simp)).subs r (by simp)
 | @snd _ ty' x y => exact (hs (tmT 10 ty' [x, r]) (by simp)).subs r (by simp)
theorem Par.G {t u : Tm} (h : Par t u) : TmG t → TmG u := by
 have key : ∀ {l l' : List Tm}, l.length = l'.length → (∀ (i : Nat) x x', l[i]? = some x → l'[i]? = some x' → TmG x → TmG x') → (∀ x ∈ l, TmG x) → ∀ x ∈ l', TmG x := by
  intro l l' hl hp hx y hy
  obtain ⟨i, hi, e⟩ := List.mem_iff_getElem.1 hy
  have h1 : l'[i]? = some y := by rw [List.getElem?_eq_getElem hi, e]
  have h2 : l[i]? = some l[i] := List.getElem?_eq_getElem (by omega)
  exact hp i _ _ h2 h1 (hx _ (List.getElem_mem _))
 induction h with
 | var i => exact id
 | cong hk hl hp ih => exact fun hG => hG.re hl.symm (key hl ih hG.subs)
 | red hl hp hr hr' ih => exact fun hG => hr'.G (hG.re hl.symm (key hl ih hG.subs))
theorem map_pt {f g : Tm → Tm} {R : Tm → Tm → Prop} {l l' : List Tm} (hl : l.length = l'.length) (hp : ∀ (i : Nat) x x', l[i]? = some x → l'[i]? = some x' → R (f x) (g x')) :
  (l.map f).length = (l'.map g).length ∧ ∀ (i : Nat) x x', (l.map f)[i]? = some x → (l'.map g)[i]? = some x' → R x x' := by
 refine ⟨by simp [hl], fun i x x' h1 h2 => ?_⟩
 rw [List.getElem?_map] at h1 h2
 cases a1 : l[i]? with
 | none => rw [a1] at h1; cases h1
 | some y =>
  cases a2 : l'[i]? with
  | none => rw [a2] at h2; cases h2
  | some z =>
   rw [a1] at h1; rw [a2] at h2
   cases h1; cases h2
   exact hp i y z a1 a2
theorem pUp_tm0 {b k c : Int} {l : List Tm} (hk : k ≠ 1) : pUp b (tm0 k l) c = tm0 k (l.map fun x => pUp b x (c + tmBelow k)) := pUp_node hk
theorem pIn_tm0 {s : Tm} {k e : Int} {l : List Tm} (hk : k ≠ 1) : pIn s (tm0 k l) e = tm0 k (l.map fun x => pIn s x (e + tmBelow k)) := pIn_node hk
theorem bel2 : tmBelow 2 = 1 := rfl
theorem Rdx.up {b : Int} (hb : 0 ≤ b) {k : Int} {ty : Ty} {l : List Tm} {r : Tm} (h : Rdx k ty l r) (hG : TmG (tmT k ty l)) {c : Int} (hc : 0 ≤ c) : Rdx k ty (l.map fun x => pUp b x c) (pUp b r c) := by
 have hs := hG.subs
 cases h with
 | @beta _ ty' b0 a =>
  simp only [List.mem_cons, List.not_mem_nil, or_false, forall_eq_or_imp, forall_eq] at hs
  rw [pUp_inU hb hs.2 (hs.1.subs b0 (by simp)) c 0 (by omega) hc]
  simp only [List.map_cons, List.map_nil]
  rw [pUp_node (by decide), bel2, Int.sub_zero]
  exact .beta
 | rec0 => simp only [List.map_cons, List.map_nil]; rw [pUp_node (k := 4) (by decide)]; exact .rec0
 | recS =>
  simp only [List.map_cons, List.map_nil]
  rw [pUp_node (k := 5) (by decide), pUp_tm0 (by decide)]
  simp only [List.map_cons, List.map_nil]
  rw [pUp_tm0 (by decide), pUp_node (k := 6) (by decide)]
  simp only [List.map_cons, List.map_nil]
  have e3 : tmBelow 3 = 0 := rfl
  have e5 : tmBelow 5 = 0 := rfl
  have e6 : tmBelow 6 = 0 := rfl
  simp only [e3, e5, e6, Int.add_zero]
  exact .recS
 | fold0 => simp only [List.map_cons, List.map_nil]; rw [pUp_node (k := 7) (by decide)]; exact .fold0
 | foldS =>
  simp only [List.map_cons, List.map_nil]
  rw [pUp_node (k := 8) (by decide), pUp_tm0 (by decide)]
  simp only [List.map_cons, List.map_nil]
  rw [pUp_tm0 (by decide), pUp_node (k := 9) (by decide)]
  simp only [List.map_cons, List.map_nil]
  rw [pUp_tm0 (by decide)]
  simp only [List.map_cons, List.map_nil]
  have e3 : tmBelow 3 = 0 := rfl
  have e5 : tmBelow 8 = 0 := rfl
  have e6 : tmBelow 9 = 0 := rfl
  simp only [e3, e5, e6, Int.add_zero]
  exact .foldS
 | fst =>
  simp only [List.map_cons, List.map_nil]
  rw [pUp_node (k := 10) (by decide)]
  simp only [List.map_cons, List.map_nil, (show tmBelow 10 = 0 from rfl), Int.add_zero]
  exact .fst
 | snd =>
  simp only [List.map_cons, List.map_nil]
  rw [pUp_node (k := 10) (by decide)]
  simp only [List.map_cons, List.map_nil, (show tmBelow 10 = 0 from rfl), Int.add_zero]
  exact .snd
theorem Rdx.inn {s : Tm} (hsG : TmG s) {k : Int} {ty : Ty} {l : List Tm} {r : Tm} (h : Rdx k ty l r) (hG : TmG (tmT k ty l)) {e : Int} (he : 0 ≤ e) : Rdx k ty (l.map fun x => pIn s x e) (pIn s r e) := by
 have hs := hG.subs
 cases h with
 | @beta _ ty' b a =>
  simp only [List.mem_cons, List.not_mem_nil, or_false, forall_eq_or_imp, forall_eq] at hs
  have := pIn_inD he hsG hs.2 (hs.1.subs b (by simp)) 0 (by omega)
  simp only [Int.zero_add] at this
  rw [this]
  simp only [List.map_cons, List.map_nil]
  rw [pIn_node (by decide), bel2]
  exact .beta
 | rec0 => simp only [List.map_cons, List.map_nil]; rw [pIn_node (k := 4) (by decide)]; exact .rec0
 | recS =>
  simp only [List.map_cons, List.map_nil]
  rw [pIn_node (k := 5) (by decide), pIn_tm0 (by decide)]
  simp only [List.map_cons, List.map_nil]
  rw [pIn_tm0 (by decide), pIn_node (k := 6) (by decide)]
  simp only [List.map_cons, List.map_nil]
  have e3 : tmBelow 3 = 0 := rfl
  have e5 : tmBelow 5 = 0 := rfl
  have e6 : tmBelow 6 = 0 := rfl
  simp only [e3, e5, e6, Int.add_zero]
  exact .recS
 | fold0 => simp only [List.map_cons, List.map_nil]; rw [pIn_node (k := 7) (by decide)]; exact .fold0
 | foldS =>
  simp only [List.map_cons, List.map_nil]
  rw [pIn_node (k := 8) (by decide), pIn_tm0 (by decide)]
  simp only [List.map_cons, List.map_nil]
  rw [pIn_tm0 (by decide), pIn_node (k := 9) (by decide)]
  simp only [List.map_cons, List.map_nil]
  rw [pIn_tm0 (by decide)]
  simp only [List.map_cons, List.map_nil]
  have e3 : tmBelow 3 = 0 := rfl
  have e5 : tmBelow 8 = 0 := rfl
  have e6 : tmBelow 9 = 0 := rfl
  simp only [e3, e5, e6, Int.add_zero]
  exact .foldS
 | fst =>
  simp only [List.map_cons, List.map_nil]
  rw [pIn_node (k := 10) (by decide)]
  simp only [List.map_cons, List.map_nil, (show tmBelow 10 = 0 from rfl), Int.add_zero]
  exact .fst
 | snd =>
  simp only [List.map_cons, List.map_nil]
  rw [pIn_node (k := 10) (by decide)]
  simp only [List.map_cons, List.map_nil, (show tmBelow 10 = 0 from rfl), Int.add_zero]
  exact .snd
theorem Par.up {b : Int} (hb : 0 ≤ b) {t u : Tm} (h : Par t u) : TmG t → ∀ c : Int, 0 ≤ c → Par (pUp b t c) (pUp b u c) := by
 induction h with
 | var i => intro _ c hc; rw [pUp_var]; exact .var _
 | @cong k ty l l' hk hl hp ih =>
  intro hG c hc
  rw [pUp_node hk, pUp_node hk]
  have := below_nn k
  obtain ⟨h1, h2⟩ := map_pt (f := fun x => pUp b x (c + tmBelow k)) (g := fun x => pUp b x (c + tmBelow k)) (R := Par) hl (fun i x x' a1 a2 => ih i x x' a1 a2 (hG.subs _ (List.mem_of_getElem? a1)) _ (by omega))
  exact .cong hk h1 h2
 | @red k ty l l' r r' hl hp hr hr' ih =>
  intro hG c hc
  rw [pUp_node hr.ne, hr.below, Int.add_zero]
  obtain ⟨h1, h2⟩ := map_pt (f := fun x => pUp b x c) (g := fun x => pUp b x c) (R := Par) hl (fun i x x' a1 a2 => ih i x x' a1 a2 (hG.subs _ (List.mem_of_getElem? a1)) _ hc)
  exact .red h1 h2 (hr.up hb hG hc) (hr'.up hb ((Par.cong hr.ne hl hp).G hG) hc)
theorem Par.inn {s s' : Tm} (hs : Par s s') (hsG : TmG s) {t u : Tm} (h : Par t u) : TmG t → ∀ e : Int, 0 ≤ e → Par (pIn s t e) (pIn s' u e) := by
 induction h with
 | var i =>
  intro hG e he
  rw [pIn_var, pIn_var]
  repeat' split
  ·exact hs.up he hsG 0 (by omega)
  ·exact .var _
  ·exact .var _
 | @cong k ty l l' hk hl hp ih =>
  intro hG e he
  rw [pIn_node hk, pIn_node hk]
  have := below_nn k
  obtain ⟨h1, h2⟩ := map_pt (f := fun x => pIn s x (e + tmBelow k)) (g := fun x => pIn s' x (e + tmBelow k)) (R := Par) hl (fun i x x' a1 a2 => ih i x x' a1 a2 (hG.subs _ (List.mem_of_getElem? a1)) _ (by omega))
  exact .cong hk h1 h2
 | @red k ty l l' r r' hl hp hr hr' ih =>
  intro hG e he
  rw [pIn_node hr.ne, hr.below, Int.add_zero]
  obtain ⟨h1, h2⟩ := map_pt (f := fun x => pIn s x e) (g := fun x => pIn s' x e) (R := Par) hl (fun i x x' a1 a2 => ih i x x' a1 a2 (hG.subs _ (List.mem_of_getElem? a1)) _ he)
  exact .red h1 h2 (hr.inn hsG hG he) (hr'.inn (hs.G hsG) ((Par.cong hr.ne hl hp).G hG) he)
theorem par2 {k : Int} {ty : Ty} {a a' b b' : Tm} (hk : k ≠ 1) (h1 : Par a a') (h2 : Par b b') : Par (tmT k ty [a, b]) (tmT k ty [a', b']) :=
 .cong hk rfl fun i x x' e1 e2 => by
  match i with
  | 0 => simp at e1 e2; subst e1; subst e2; exact h1
  | 1 => simp at e1 e2; subst e1; subst e2; exact h2
  | i + 2 => simp at e1
theorem par1 {k : Int} {ty : Ty} {a a' : Tm} (hk : k ≠ 1) (h1 : Par a a') : Par (tmT k ty [a]) (tmT k ty [a']) :=
 .cong hk rfl fun i x x' e1 e2 => by
  match i with
  | 0 => simp at e1 e2; subst e1; subst e2; exact h1
  | i + 1 => simp at e1
theorem par3 {k : Int} {ty : Ty} {a a' b b' c c' : Tm} (hk : k ≠ 1) (h1 : Par a a') (h2 : Par b b') (h3 : Par c c') : Par (tmT k ty [a, b, c]) (tmT k ty [a', b', c']) :=
 .cong hk rfl fun i x x' e1 e2 => by
  match i with
  | 0 => simp at e1 e2; subst e1; subst e2; exact h1
  | 1 => simp at e1 e2; subst e1; subst e2; exact h2
  | 2 => simp at e1 e2; subst e1; subst e2; exact h3
  | i + 3 => simp at e1
/-- The parts of a redex are reduced, and so is what it becomes. -/
theorem Rdx.par2 {k : Int} {ty : Ty} {l l' : List Tm} {r r' : Tm} (h : Rdx k ty l r) (h' : Rdx k ty l' r') (hl : l.length = l'.length) (hp : ∀ (i : Nat) x x', l[i]? = some x → l'[i]? = some x' → Par x x')
  (hG : TmG (tmT k ty l)) : Par r r' := by
 have hs := hG.subs
 cases h with
 | @beta _ ty' b a =>
  obtain ⟨x, y, rfl⟩ := ln2 hl
  obtain ⟨m, rfl, hm, hb⟩ := (hp 0 _ _ rfl rfl).hd (by omega)
  obtain ⟨b', rfl⟩ := ln1 hm
  cases h'
  simp only [List.mem_cons, List.not_mem_nil, or_false, forall_eq_or_imp, forall_eq] at hs
  exact Par.inn (hp 1 _ _ rfl rfl) hs.2 (hb 0 _ _ rfl rfl) (hs.1.subs b (by simp)) 0 (by omega)
 | rec0 =>
  obtain ⟨x, y, z, rfl⟩ := ln3 hl
  obtain ⟨m, rfl, hm, hb⟩ := (hp 2 _ _ rfl rfl).hd (by omega)
  obtain rfl := ln0 hm
  generalize e : tmT 4 _ [] = q at h'
  cases h' with
  | rec0 => exact hp 0 _ _ rfl rfl
  | recS => simp only [tmT, Tm.mk.injEq] at e; omega
 | recS =>
  obtain ⟨x, y, z, rfl⟩ := ln3 hl
  obtain ⟨m, rfl, hm, hb⟩ := (hp 2 _ _ rfl rfl).hd (by omega)
  obtain ⟨b', rfl⟩ := ln1 hm
  generalize e : tmT 5 _ [b'] = q at h'
  cases h' with
  | rec0 => simp only [tmT, Tm.mk.injEq] at e; omega
  | recS =>
   simp only [tmT, Tm.mk.injEq, List.cons.injEq, and_true, true_and] at e
   obtain ⟨_, rfl⟩ := e
   have p0 := hp 0 _ _ rfl rfl
   have p1 := hp 1 _ _ rfl rfl
   have pn := hb 0 _ _ rfl rfl
   exact GoAbs.par2 (by decide) (GoAbs.par2 (by decide) p1 pn) (par3 (by decide) p0 p1 pn)
 | fold0 =>
  obtain ⟨x, y, z, rfl⟩ := ln3 hl
  obtain ⟨m, rfl, hm, hb⟩ := (hp 2 _ _ rfl rfl).hd (by omega)
  obtain rfl := ln0 hm
  generalize e : tmT 7 _ [] = q at h'
  cases h' with
  | fold0 => exact hp 0 _ _ rfl rfl
  | foldS => simp only [tmT, Tm.mk.injEq] at e; omega
 | foldS =>
  obtain ⟨x, y, z, rfl⟩ := ln3 hl
  obtain ⟨m, rfl, hm, hb⟩ := (hp 2 _ _ rfl rfl).hd (by omega)
  obtain ⟨b', c', rfl⟩ := ln2 hm
  generalize e : tmT 8 _ [b', c'] = q at h'
  cases h' with
  | fold0 => simp only [tmT, Tm.mk.injEq] at e; omega
  | foldS =>
   simp only [tmT, Tm.mk.injEq, List.cons.injEq, and_true, true_and] at e
   obtain ⟨_, rfl, rfl⟩ := e
   have p0 := hp 0 _ _ rfl rfl
   have p1 := hp 1 _ _ rfl rfl
   have ph := hb 0 _ _ rfl rfl
   have pl := hb 1 _ _ rfl rfl
   exact GoAbs.par2 (by decide) (GoAbs.par2 (by decide) (GoAbs.par2 (by decide) p1 ph) pl) (par3 (by decide) p0 p1 pl)
 | fst =>
  obtain ⟨x, rfl⟩ := ln1 hl
  obtain ⟨m, rfl, hm, hb⟩ := (hp 0 _ _ rfl rfl).hd (by omega)
  obtain ⟨b', c', rfl⟩ := ln2 hm
  cases h'
  exact hb 0 _ _ rfl rfl
 | snd =>
  obtain ⟨x, rfl⟩ := ln1 hl
  obtain ⟨m, rfl, hm, hb⟩ := (hp 0 _ _ rfl rfl).hd (by omega)
  obtain ⟨b', c', rfl⟩ := ln2 hm
  cases h'
  exact hb 1 _ _ rfl rfl
/-- There is a term to which all that a term becomes in one step can be reduced in one step. -/
theorem triangle {t : Tm} (h : TmG t) : ∃ m, ∀ u, Par t u → Par u m := by
 refine TmG.nd (P := fun t _ => ∃ m, ∀ u, Par t u → Par u m) ?_ ?_ h
 ·intro i hi
  refine ⟨tmVar i, fun u hu => ?_⟩
  generalize e : tmVar i = t at hu
  cases hu with
  | var j => simp only [tmVar, Tm.mk.injEq] at e; rw [← e.2.1]; exact .var _
  | cong hk _ _ => simp only [tmVar, tmT, Tm.mk.injEq] at e; exact absurd e.1.symm hk
  | red _ _ hr _ => simp only [tmVar, tmT, Tm.mk.injEq] at e; exact absurd e.1.symm hr.ne
 ·intro k ty l hk hl hG ih
  obtain ⟨ml, hlen, hml⟩ : ∃ ml : List Tm, l.length = ml.length ∧ ∀ (i : Nat) x m, l[i]? = some x → ml[i]? = some m → ∀ u, Par x u → Par u m := by
   clear hG
   induction l with
   | nil => exact ⟨[], rfl, fun i x m h => by simp at h⟩
   | cons a l ihl =>
    obtain ⟨ml, h1, h2⟩ := ihl (fun x hx => hl x (by simp [hx])) (fun x hx => ih x (by simp [hx]))
    obtain ⟨m, hm⟩ := ih a (by simp)
    refine ⟨m :: ml, by simp [h1], fun i x y e1 e2 => ?_⟩
    match i with
    | 0 => simp at e1 e2; subst e1; subst e2; exact hm
    | i + 1 => exact h2 i x y (by simpa using e1) (by simpa using e2)
  have hpm : ∀ (i : Nat) x m, l[i]? = some x → ml[i]? = some m → Par x m := fun i x m e1 e2 => hml i x m e1 e2 x (Par.refl (hl x (List.mem_of_getElem? e1)))
  have conn : ∀ {l' : List Tm}, l.length = l'.length → (∀ (i : Nat) x x', l[i]? = some x → l'[i]? = some x' → Par x x') → l'.length = ml.length ∧ ∀ (i : Nat) x m, l'[i]? = some x → ml[i]? = some m → Par x m := by
   intro l' h1 h2
   refine ⟨by omega, fun i x m e1 e2 => ?_⟩
   have hi : i < l.length := by have := (List.getElem?_eq_some_iff.1 e1).1; omega
   exact hml i _ m (List.getElem?_eq_getElem hi) e2 x (h2 i _ x (List.getElem?_eq_getElem hi) e1)
  by_cases hR : ∃ r, Rdx k ty l r
  ·obtain ⟨r, hr⟩ := hR
   obtain ⟨rm, hrm⟩ := hr.par hlen hpm
   refine ⟨rm, fun u hu => ?_⟩
   generalize e : tmT k ty l = t at hu
   cases hu with
   | var i => simp only [tmVar, tmT, Tm.mk.injEq] at e; exact absurd e.1 hk
   | cong hk' h1 h2 =>
    simp only [tmT, Tm.mk.injEq] at e
    obtain ⟨rfl, _, rfl, rfl⟩ := e
    obtain ⟨c1, c2⟩ := conn h1 h2
    obtain ⟨r', hr'⟩ := hr.par h1 h2
    exact .red c1 c2 hr' hrm
   | red h1 h2 hq hq' =>
    simp only [tmT, Tm.mk.injEq] at e
    obtain ⟨rfl, _, rfl, rfl⟩ := e
    obtain ⟨c1, c2⟩ := conn h1 h2
    exact hq'.par2 hrm c1 c2 ((Par.cong hk h1 h2).G hG)
  ·refine ⟨tmT k ty ml, fun u hu => ?_⟩
   generalize e : tmT k ty l = t at hu
   cases hu with
   | var i => simp only [tmVar, tmT, Tm.mk.injEq] at e; exact absurd e.1 hk
   | cong hk' h1 h2 =>
    simp only [tmT, Tm.mk.injEq] at e
    obtain ⟨rfl, _, rfl, rfl⟩ := e
    obtain ⟨c1, c2⟩ := conn h1 h2
    exact .cong hk c1 c2
   | red h1 h2 hq hq' =>
    simp only [tmT, Tm.mk.injEq] at e
    obtain ⟨rfl, _, rfl, rfl⟩ := e
    exact absurd ⟨_, hq⟩ hR
inductive Star : Tm → Tm → Prop
 | refl (t : Tm) : Star t t
 | step {t u v : Tm} : Par t u → Star u v → Star t v
theorem Star.one {t u : Tm} (h : Par t u) : Star t u := .step h (.refl _)
theorem Star.trans {t u v : Tm} (h : Star t u) : Star u v → Star t v := by
 induction h with
 | refl => exact id
 | step hp _ ih => exact fun h => .step hp (ih h)
theorem Star.G {t u : Tm} (h : Star t u) : TmG t → TmG u := by
 induction h with
 | refl => exact id
 | step hp _ ih => exact fun hG => ih (hp.G hG)
theorem strip {t v : Tm} (h : Star t v) : TmG t → ∀ u, Par t u → ∃ w, Star u w ∧ Par v w := by
 induction h with
 | refl t => exact fun hG u hu => ⟨u, .refl _, hu⟩
 | @step t t1 v hp _ ih =>
  intro hG u hu
  obtain ⟨m, hm⟩ := triangle hG
  obtain ⟨w, h1, h2⟩ := ih (hp.G hG) m (hm t1 hp)
  exact ⟨w, .step (hm u hu) h1, h2⟩
theorem confl {t u : Tm} (h : Star t u) : TmG t → ∀ v, Star t v → ∃ w, Star u w ∧ Star v w := by
 induction h with
 | refl t => exact fun _ v hv => ⟨v, hv, .refl _⟩
 | @step t t1 u hp _ ih =>
  intro hG v hv
  obtain ⟨w, h1, h2⟩ := strip hv hG t1 hp
  obtain ⟨w', h3, h4⟩ := ih (hp.G hG) w h1
  exact ⟨w', h3, .step h2 h4⟩
/-- Terms that can be reduced to the same term. -/
def Jn (a b : Tm) : Prop := ∃ z, Star a z ∧ Star b z
theorem Rdx.root {k : Int} {ty : Ty} {l : List Tm} {r : Tm} (h : Rdx k ty l r) : (tmT k ty l).root = true := by cases h <;> rfl
theorem nrm_par {t u : Tm} (h : Par t u) : t.nrm = true → u = t := by
 induction h with
 | var i => exact fun _ => rfl
 | @cong k ty l l' hk hl hp ih =>
  intro hn
  rw [tmT, Tm.nrm, Bool.and_eq_true] at hn
  have : l' = l := by
   apply List.ext_getElem?
   intro i
   by_cases hi : i < l.length
   ·have e1 : l[i]? = some l[i] := List.getElem?_eq_getElem hi
    have e2 : l'[i]? = some (l'[i]'(by omega)) := List.getElem?_eq_getElem _
    rw [e1, e2, ih i _ _ e1 e2 (nrm_mem hn.2 _ (List.getElem_mem hi))]
   ·rw [List.getElem?_eq_none (by omega), List.getElem?_eq_none (by omega)]
  rw [this]
 | @red k ty l l' r r' hl hp hr hr' ih =>
  intro hn
  rw [tmT, Tm.nrm, Bool.and_eq_true] at hn
  have := hr.root
  rw [tmT] at this
  rw [this] at hn
  simp at hn
theorem nrm_star {t u : Tm} (h : Star t u) : t.nrm = true → u = t := by
 induction h with
 | refl => exact fun _ => rfl
 | step hp _ ih => intro hn; have := nrm_par hp hn; subst this; exact ih hn
/-- Normal forms of terms that have a reduct in common are equal. -/
theorem jn_nrm {a b u v : Tm} (ha : TmG a) (hb : TmG b) (h : Jn a b) (h1 : Star a u) (h2 : Star b v) (n1 : u.nrm = true) (n2 : v.nrm = true) : u = v := by
 obtain ⟨z, j1, j2⟩ := h
 obtain ⟨w, c1, c2⟩ := confl j1 ha u h1
 obtain ⟨w', c3, c4⟩ := confl j2 hb v h2
 have e1 := nrm_star c2 n1
 have e2 := nrm_star c4 n2
 subst e1; subst e2
 obtain ⟨x, d1, d2⟩ := confl c1 (j1.G ha) _ c3
 rw [← nrm_star d1 n1, ← nrm_star d2 n2]
end GoAbs
namespace GoAbs
open Go
theorem TmG.form {t : Tm} (h : TmG t) (hk : t.kind ≠ 1) : t = tmT t.kind t.type t.args ∧ arity t.kind = some (t.args.length : Int) := by
 cases h with
 | plain hA hB hC _ => exact ⟨rfl, by subst hB; exact hA⟩
 | var hi => exact absurd rfl hk
 | typd hA hB hC hg _ => exact ⟨rfl, by subst hB; exact hA⟩
theorem TmG.form0 {t : Tm} (h : TmG t) {k : Int} (e : t.kind = k) (hk : k ≠ 1) (ha : arity k = some 0) : t = tmT k t.type [] := by
 subst e
 obtain ⟨h1, h2⟩ := h.form hk
 rw [ha] at h2
 have : t.args = [] := List.length_eq_zero_iff.1 (by have := Option.some.inj h2; omega)
 rw [this] at h1; exact h1
theorem TmG.form1 {t : Tm} (h : TmG t) {k : Int} (e : t.kind = k) (hk : k ≠ 1) (ha : arity k = some 1) : ∃ x, t = tmT k t.type [x] := by
 subst e
 obtain ⟨h1, h2⟩ := h.form hk
 rw [ha] at h2
 have hl : t.args.length = 1 := by have := Option.some.inj h2; omega
 obtain ⟨x, hx⟩ := List.length_eq_one_iff.1 hl
 rw [hx] at h1; exact ⟨x, h1⟩
theorem TmG.form2 {t : Tm} (h : TmG t) {k : Int} (e : t.kind = k) (hk : k ≠ 1) (ha : arity k = some 2) : ∃ x y, t = tmT k t.type [x, y] := by
 subst e
 obtain ⟨h1, h2⟩ := h.form hk
 rw [ha] at h2
 have hl : t.args.length = 2 := by have := Option.some.inj h2; omega
 obtain ⟨x, y, hx⟩ : ∃ x y, t.args = [x, y] := by
  match t.args, hl with
  | [x, y], _ => exact ⟨x, y, rfl⟩
 rw [hx] at h1; exact ⟨x, y, h1⟩
theorem TmG.form3 {t : Tm} (h : TmG t) {k : Int} (e : t.kind = k) (hk : k ≠ 1) (ha : arity k = some 3) : ∃ x y z, t = tmT k t.type [x, y, z] := by
 subst e
 obtain ⟨h1, h2⟩ := h.form hk
 rw [ha] at h2
 have hl : t.args.length = 3 := by have := Option.some.inj h2; omega
 obtain ⟨x, y, z, hx⟩ : ∃ x y z, t.args = [x, y, z] := by
  match t.args, hl with
  | [x, y, z], _ => exact ⟨x, y, z, rfl⟩
 rw [hx] at h1; exact ⟨x, y, z, h1⟩
theorem tmSzL_mem1 : ∀ {l : List Tm} {x : Tm}, x ∈ l → tmSz x ≤ tmSzL l
 | a :: l, x, h => by
  rw [tmSzL]
  rcases List.mem_cons.1 h with rfl | h
  ·omega
  ·have := tmSzL_mem1 h; omega
theorem tmSz_arg1 {t x : Tm} (h : x ∈ t.args) : tmSz x ≤ tmSz t := by
 obtain ⟨k, i, ty, l⟩ := t
 rw [tmSz]
 have := tmSzL_mem1 (l := l) h
 omega
/-- A root that is a redex. -/
theorem root_rdx {t : Tm} (hG : TmG t) (hl : t.least 1000000000 = true) (hz : tmSz t ≤ 1000000) (hr : t.root = true) : ∃ k ty l, t = tmT k ty l ∧ Rdx k ty l t.red := by
 by_cases k3 : t.kind = 3
 ·obtain ⟨p, q, e⟩ := hG.form2 k3 (by decide) rfl
  generalize t.type = ty at e
  subst e
  have hp : p.kind = 2 := by simpa [Tm.root, tmT, Tm.kind, ta, Tm.args] using hr
  have gp := hG.subs p (by simp)
  have gq := hG.subs q (by simp)
  obtain ⟨b, e2⟩ := gp.form1 hp (by decide) rfl
  generalize p.type = ty' at e2
  subst e2
  refine ⟨3, ty, _, rfl, ?_⟩
  have e : (tmT 3 ty [tmT 2 ty' [b], q]).red = tmInn q 0 b 0 := rfl
  have gb := gp.subs b (by simp)
  have lq : q.least 1000000000 = true := least_arg (x := q) hl (by simp [tmT, Tm.args])
  have lb : b.least 1000000000 = true := least_arg (x := b) (least_arg (x := tmT 2 ty' [b]) hl (by simp [tmT, Tm.args])) (by simp [tmT, Tm.args])
  rw [tmSz_T2, tmSz_T1] at hz
  rw [e, inn_p gq lq (by omega) gb 0 lb (by omega) (by omega)]
  exact .beta
 by_cases k6 : t.kind = 6
 ·obtain ⟨z, f, n, e⟩ := hG.form3 k6 (by decide) rfl
  generalize t.type = ty at e
  subst e
  have gn := hG.subs n (by simp)
  have hn : n.kind = 4 ∨ n.kind = 5 := by simpa [Tm.root, tmT, Tm.kind, ta, Tm.args] using hr
  rcases hn with hn | hn
  ·have e2 := gn.form0 hn (by decide) rfl
   generalize n.type = ty' at e2
   subst e2
   exact ⟨6, ty, _, rfl, .rec0⟩
  ·obtain ⟨m, e2⟩ := gn.form1 hn (by decide) rfl
   generalize n.type = ty' at e2
   subst e2
   exact ⟨6, ty, _, rfl, .recS⟩
 by_cases k9 : t.kind = 9
 ·obtain ⟨z, f, n, e⟩ := hG.form3 k9 (by decide) rfl
  generalize t.type = ty at e
  subst e
  have gn := hG.subs n (by simp)
  have hn : n.kind = 7 ∨ n.kind = 8 := by simpa [Tm.root, tmT, Tm.kind, ta, Tm.args] using hr
  rcases hn with hn | hn
  ·have e2 := gn.form0 hn (by decide) rfl
   generalize n.type = ty' at e2
   subst e2
   exact ⟨9, ty, _, rfl, .fold0⟩
  ·obtain ⟨m, m', e2⟩ := gn.form2 hn (by decide) rfl
   generalize n.type = ty' at e2
   subst e2
   exact ⟨9, ty, _, rfl, .foldS⟩
 by_cases k11 : t.kind = 11
 ·obtain ⟨p, e⟩ := hG.form1 k11 (by decide) rfl
  generalize t.type = ty at e
  subst e
  have gp := hG.subs p (by simp)
  have hp : p.kind = 10 := by simpa [Tm.root, tmT, Tm.kind, ta, Tm.args] using hr
  obtain ⟨x, y, e2⟩ := gp.form2 hp (by decide) rfl
  generalize p.type = ty' at e2
  subst e2
  exact ⟨11, ty, _, rfl, .fst⟩
 by_cases k12 : t.kind = 12
 ·obtain ⟨p, e⟩ := hG.form1 k12 (by decide) rfl
  generalize t.type = ty at e
  subst e
  have gp := hG.subs p (by simp)
  have hp : p.kind = 10 := by simpa [Tm.root, tmT, Tm.kind, ta, Tm.args] using hr
  obtain ⟨x, y, e2⟩ := gp.form2 hp (by decide) rfl
  generalize p.type = ty' at e2
  subst e2
  exact ⟨12, ty, _, rfl, .snd⟩
 ·exfalso
  have : t.root = false := by unfold Tm.root; simp [k3, k6, k9, k11, k12]
  rw [this] at hr; cases hr
theorem red_par {t : Tm} (hG : TmG t) (hl : t.least 1000000000 = true) (hz : tmSz t ≤ 1000000) (hr : t.root = true) : Par t t.red := by
 obtain ⟨k, ty, l, e, hR⟩ := root_rdx hG hl hz hr
 have hs : ∀ x ∈ l, TmG x := by rw [e] at hG; exact hG.subs
 have : Par (tmT k ty l) t.red := .red rfl (fun i x x' h1 h2 => by rw [h1] at h2; cases h2; exact Par.refl (hs x (List.mem_of_getElem? h1))) hR hR
 rw [← e] at this; exact this
mutual
theorem nx_par {gr : Tm → Int} {room : Int} : ∀ t : Tm, TmG t → t.least 1000000000 = true → tmSz t ≤ 1000000 → (t.nx gr room).2 = (true, true) → Par t (t.nx gr room).1
 | .mk k i ty l, hG, hl, hz, h => by
  cases hr : (Tm.mk k i ty l).root with
  | true =>
   rw [nx_root hr] at h ⊢
   split at h
   ·cases h
   ·rename_i hq
    rw [if_neg hq]
    exact red_par hG hl hz hr
  | false =>
   rw [nx_nxR hr] at h ⊢
   simp only [Tm.args] at h ⊢
   have hk : k ≠ 1 := by
    intro e; subst e
    cases hG with
    | plain hA hB hC _ => simp [arity, arities] at hA; subst hA; have : l = [] := List.length_eq_zero_iff.1 (by omega); subst this; rw [Tm.nxL] at h; cases h
    | var hi => rw [Tm.nxL] at h; cases h
    | typd hA hB hC hg _ => simp [typed] at hC
   have hform := (hG.form hk).1
   simp only [Tm.kind, Tm.type, Tm.args] at hform
   cases hL : Tm.nxL gr room l with
   | none => rw [hL] at h; cases h
   | some p =>
    rw [hL] at h
    simp only [nxR] at h ⊢
    simp only [Tm.kind, Tm.type, Tm.index] at h ⊢
    have hp2 : p.2 = true := by simpa using h
    have hi : i = 0 := by simp only [tmT, Tm.mk.injEq] at hform; exact hform.2.1
    subst hi
    have hsub : ∀ x ∈ l, TmG x := fun x hx => hG.arg (by simpa [Tm.args] using hx)
    have hle : ∀ x ∈ l, x.least 1000000000 = true := fun x hx => least_arg (x := x) hl (by simpa [Tm.args] using hx)
    have hsz : ∀ x ∈ l, tmSz x ≤ 1000000 := fun x hx => by have := tmSz_arg1 (t := .mk k 0 ty l) (x := x) (by simpa [Tm.args] using hx); omega
    obtain ⟨h1, h2⟩ := nxL_par l hsub hle hsz p hL hp2
    exact .cong hk h1 h2
theorem nxL_par {gr : Tm → Int} {room : Int} : ∀ l : List Tm, (∀ x ∈ l, TmG x) → (∀ x ∈ l, x.least 1000000000 = true) → (∀ x ∈ l, tmSz x ≤ 1000000) → ∀ p, Tm.nxL gr room l = some p → p.2 = true →
  l.length = p.1.length ∧ ∀ (i : Nat) x x', l[i]? = some x → p.1[i]? = some x' → Par x x'
 | [], _, _, _, p, h, _ => by rw [Tm.nxL] at h; cases h
 | a :: l, hG, hl, hz, p, h, h2 => by
  have same : ∀ {x x' : Tm} {i : Nat}, l[i]? = some x → l[i]? = some x' → Par x x' := fun e1 e2 => by
   rw [e1] at e2; cases e2; exact Par.refl (hG _ (by simp [List.mem_of_getElem? e1]))
  rw [Tm.nxL] at h
  split at h
  ·rename_i hf
   cases h
   refine ⟨by simp, fun i x x' e1 e2 => ?_⟩
   match i with
   | 0 =>
    simp at e1 e2; subst e1; subst e2
    refine nx_par a (hG a (by simp)) (hl a (by simp)) (hz a (by simp)) ?_
    rw [Prod.ext_iff]; exact ⟨hf, h2⟩
   | i + 1 => exact same (by simpa using e1) (by simpa using e2)
  ·cases hL : Tm.nxL gr room l with
   | none => rw [hL] at h; cases h
   | some q =>
    rw [hL] at h
    cases h
    obtain ⟨h3, h4⟩ := nxL_par l (fun x hx => hG x (by simp [hx])) (fun x hx => hl x (by simp [hx])) (fun x hx => hz x (by simp [hx])) q hL h2
    refine ⟨by simp [h3], fun i x x' e1 e2 => ?_⟩
    match i with
    | 0 => simp at e1 e2; subst e1; subst e2; exact Par.refl (hG _ (by simp))
    | i + 1 => exact h4 i x x' (by simpa using e1) (by simpa using e2)
end
/-- What normalization gives, if it ends. -/
theorem normN_star {steps : Int} {g : List Ty} {s : Ty} (hg : g.length ≤ 5000) : ∀ (k : Nat) (n : Int) (t : Tm), HasTy TyG g t s → TmG t → tmSz t ≤ 4096 → ∀ r, normN steps k n t = some r →
  (r.2.2 = 0 ∧ r.1.nrm = true ∧ HasTy TyG g r.1 s ∧ TmG r.1 ∧ tmSz r.1 ≤ 4096 ∧ Star t r.1) ∨ r.2.2 = 5 ∨ r.2.2 = 4
 | 0, n, t, _, _, _, r, h => by simp [normN] at h
 | k + 1, n, t, hT, hG, hz, r, h => by
  rw [normN] at h
  cases h1 : (t.nx Tm.grow (4096 - (tmSz t : Int))).2.1 with
  | false =>
   rw [h1] at h
   simp only [Bool.not_false, if_true, Option.some.injEq] at h
   subst h
   exact .inl ⟨rfl, (nx_none t h1).1, hT, hG, hz, .refl _⟩
  | true =>
   rw [h1] at h
   simp only [Bool.not_true, Bool.false_eq_true, if_false] at h
   split at h
   ·cases h; exact .inr (.inl rfl)
   ·cases h2 : (t.nx Tm.grow (4096 - (tmSz t : Int))).2.2 with
    | false =>
     rw [h2] at h
     simp only [Bool.not_false, if_true, Option.some.injEq] at h
     subst h
     exact .inr (.inr rfl)
    | true =>
     rw [h2] at h
     simp only [Bool.not_true, Bool.false_eq_true, if_false] at h
     have h3 : (t.nx Tm.grow (4096 - (tmSz t : Int))).2 = (true, true) := by rw [Prod.ext_iff]; exact ⟨h1, h2⟩
     have a1 := nx_ty (gr := Tm.grow) (room := 4096 - (tmSz t : Int)) hT (by omega) h3
     have a2 := nx_good (room := 4096 - (tmSz t : Int)) hT hG (by omega) h3
     have a3 := nx_par (gr := Tm.grow) (room := 4096 - (tmSz t : Int)) t hG (hT.least _ (by omega) (by omega)) (by omega) h3
     rcases normN_star hg k (n + 1) _ a1 a2.1 (by have := a2.2; omega) r h with ⟨b1, b2, b3, b4, b5, b6⟩ | b
     ·exact .inl ⟨b1, b2, b3, b4, b5, .step a3 b6⟩
     ·exact .inr b
theorem norm_star {g : List Ty} {t : Tm} {s : Ty} (hg : g.length ≤ 5000) (h : HasTy TyG g t s) (hG : TmG t) (hz : tmSz t ≤ 4096) :
  ((norm t).2.2 = 0 ∧ (norm t).1.nrm = true ∧ HasTy TyG g (norm t).1 s ∧ TmG (norm t).1 ∧ tmSz (norm t).1 ≤ 4096 ∧ Star t (norm t).1) ∨ (norm t).2.2 = 5 ∨ (norm t).2.2 = 4 :=
 normN_star hg 1001 0 t h hG hz _ (norm_eq t)
/-- Terms that have a reduct in common match, if normalization ends. -/
theorem match_jn {me : Int} {g : List Ty} {a b : Tm} {s s' : Ty} (hg : g.length ≤ 5000) (ha : HasTy TyG g a s) (hb : HasTy TyG g b s') (ga : TmG a) (gb : TmG b) (za : tmSz a ≤ 4096) (zb : tmSz b ≤ 4096) (h : Jn a b) :
  matchN me a b = 0 ∨ matchN me a b = 5 ∨ matchN me a b = 4 := by
 unfold matchN
 cases hs : Tm.same a b with
 | true => exact .inl rfl
 | false =>
  simp only [Bool.false_eq_true, if_false]
  rcases norm_star hg ha ga za with ⟨e1, n1, _, _, _, s1⟩ | e1 | e1
  ·rw [e1]
   have n0 : ((0 : Int) != 0) = false := rfl
   rw [n0]
   simp only [Bool.false_eq_true, if_false]
   rcases norm_star hg hb gb zb with ⟨e2, n2, _, _, _, s2⟩ | e2 | e2
   ·rw [e2, n0]
    simp only [Bool.false_eq_true, if_false]
    rw [jn_nrm ga gb h s1 s2 n1 n2, Tm.same_refl]
    exact .inl rfl
   ·rw [e2]; exact .inr (.inl rfl)
   ·rw [e2]; exact .inr (.inr rfl)
  ·rw [e1]; exact .inr (.inl rfl)
  ·rw [e1]; exact .inr (.inr rfl)
end GoAbs
namespace GoAbs
open Go
theorem Star.up {b : Int} (hb : 0 ≤ b) {t u : Tm} (h : Star t u) : TmG t → ∀ c : Int, 0 ≤ c → Star (pUp b t c) (pUp b u c) := by
 induction h with
 | refl t => exact fun _ c _ => .refl _
 | step hp _ ih => exact fun hG c hc => .step (hp.up hb hG c hc) (ih (hp.G hG) c hc)
theorem Star.inn1 {s : Tm} (hs : TmG s) {t u : Tm} (h : Star t u) : TmG t → ∀ e : Int, 0 ≤ e → Star (pIn s t e) (pIn s u e) := by
 induction h with
 | refl t => exact fun _ e _ => .refl _
 | step hp _ ih => exact fun hG e he => .step (Par.inn (Par.refl hs) hs hp hG e he) (ih (hp.G hG) e he)
theorem Star.inn2 {s s' : Tm} (h : Star s s') {t : Tm} (ht : TmG t) : TmG s → ∀ e : Int, 0 ≤ e → Star (pIn s t e) (pIn s' t e) := by
 induction h with
 | refl s => exact fun _ e _ => .refl _
 | step hp _ ih => exact fun hG e he => .step (Par.inn hp hG (Par.refl ht) ht e he) (ih (hp.G hG) e he)
theorem Star.inn {s s' t u : Tm} (hs : Star s s') (gs : TmG s) (h : Star t u) (gt : TmG t) {e : Int} (he : 0 ≤ e) : Star (pIn s t e) (pIn s' u e) :=
 (h.inn1 gs gt e he).trans (hs.inn2 (h.G gt) gs e he)
theorem Star.t1 {k : Int} {ty : Ty} (hk : k ≠ 1) {x x' : Tm} (h : Star x x') : Star (tmT k ty [x]) (tmT k ty [x']) := by
 induction h with
 | refl => exact .refl _
 | step hp _ ih => exact .step (par1 hk hp) ih
theorem Star.t2 {k : Int} {ty : Ty} (hk : k ≠ 1) {x x' y : Tm} (hy : TmG y) (h : Star x x') : Star (tmT k ty [x, y]) (tmT k ty [x', y]) := by
 induction h with
 | refl => exact .refl _
 | step hp _ ih => exact .step (par2 hk hp (Par.refl hy)) ih
/-- Formulas whose terms are reduced. -/
inductive FmR : Fm → Fm → Prop
 | eq {x y x' y' : Tm} : Star x x' → Star y y' → FmR (fmEq x y) (fmEq x' y')
 | two {k : Int} {a b a' b' : Fm} (hk : k = 2 ∨ k = 3) : FmR a a' → FmR b b' → FmR (fmTwo k a b) (fmTwo k a' b')
 | q {k : Int} {s : Ty} {a a' : Fm} (hk : k = 4 ∨ k = 5 ∨ k = 6 ∨ k = 7) : FmR a a' → FmR (fmQ k s a) (fmQ k s a')
theorem FmR.refl {u : Bool} {f : Fm} (h : FmG u f) : FmR f f := by
 induction h with
 | eq _ _ => exact .eq (.refl _) (.refl _)
 | two hk _ _ h1 h2 => exact .two hk h1 h2
 | q hk _ _ h1 => exact .q (FmG.qk hk) h1
theorem FmR.inv {f f' : Fm} (h : FmR f f') : f.fl.c = f'.fl.c ∧ f.ct = f'.ct ∧ fdp f = fdp f' := by
 induction h with
 | eq _ _ => exact ⟨by rw [Fm.fl_eqn, Fm.fl_eqn], by rw [ct_eqn, ct_eqn], by rw [fdp_eqn, fdp_eqn]⟩
 | two hk _ _ h1 h2 => exact ⟨by rw [fl_c_two hk, fl_c_two hk, h1.1, h2.1], by rw [ct_two, ct_two, h1.1, h1.2.1, h2.1, h2.2.1], by rw [fdp_two, fdp_two, h1.2.2, h2.2.2]⟩
 | q hk _ h1 => exact ⟨by rw [fl_c_q (by omega), fl_c_q (by omega), h1.1], by rw [ct_q, ct_q, h1.1, h1.2.1], by rw [fdp_q, fdp_q, h1.2.2]⟩
theorem FmG.inv_eq {u : Bool} {x y : Tm} (h : FmG u (fmEq x y)) : TmG x ∧ TmG y := by
 generalize e : fmEq x y = f at h
 cases h with
 | eq h1 h2 => simp only [fmEq, Fm.mk.injEq, List.cons.injEq, and_true, true_and] at e; obtain ⟨rfl, rfl⟩ := e; exact ⟨h1, h2⟩
 | two hk _ _ => simp [fmEq, fmTwo] at e
 | q hk _ _ => simp [fmEq, fmQ] at e
theorem FmG.inv_two {u : Bool} {k : Int} {a b : Fm} (h : FmG u (fmTwo k a b)) : (k = 2 ∨ k = 3) ∧ FmG u a ∧ FmG u b := by
 generalize e : fmTwo k a b = f at h
 cases h with
 | eq h1 h2 => simp [fmEq, fmTwo] at e
 | two hk h1 h2 => simp only [fmTwo, Fm.mk.injEq, List.cons.injEq, and_true, true_and] at e; obtain ⟨rfl, rfl, rfl⟩ := e; exact ⟨hk, h1, h2⟩
 | q hk _ _ => simp [fmTwo, fmQ] at e
theorem FmG.inv_q {u : Bool} {k : Int} {s : Ty} {a : Fm} (h : FmG u (fmQ k s a)) : TyG s ∧ FmG u a := by
 generalize e : fmQ k s a = f at h
 cases h with
 | eq h1 h2 => simp [fmEq, fmQ] at e
 | two hk _ _ => simp [fmTwo, fmQ] at e
 | q hk hs h1 => simp only [fmQ, Fm.mk.injEq, List.cons.injEq, and_true, true_and] at e; obtain ⟨rfl, rfl, rfl⟩ := e; exact ⟨hs, h1⟩
theorem FmR.up {f f' : Fm} (h : FmR f f') : FmG true f → FmG true f' → f.least 536870912 = true → f'.least 536870912 = true → ∀ d : Int, 0 ≤ d → d + fmSz f ≤ 100000 → d + fmSz f' ≤ 100000 → FmR (f.up 1 d) (f'.up 1 d) := by
 have one : ∀ {x x' : Tm}, Star x x' → TmG x → TmG x' → x.least 536870912 = true → x'.least 536870912 = true → ∀ d : Int, 0 ≤ d → d + tmSz x ≤ 100000 → d + tmSz x' ≤ 100000 → Star (x.up 1 d) (x'.up 1 d) := by
  intro x x' hs gx gx' lx lx' d hd z z'
  rw [up_p (by omega) (by omega) gx d (least_mono (by omega) _ lx) hd (by omega), up_p (by omega) (by omega) gx' d (least_mono (by omega) _ lx') hd (by omega)]
  exact hs.up (by omega) gx d hd
 induction h with
 | eq h1 h2 =>
  intro g g' l l' d hd z z'
  obtain ⟨g1, g2⟩ := g.inv_eq
  obtain ⟨g1', g2'⟩ := g'.inv_eq
  obtain ⟨l1, l2⟩ := fleast_eq.1 l
  obtain ⟨l1', l2'⟩ := fleast_eq.1 l'
  rw [fmSz_eq] at z z'
  rw [fmUp_eqn, fmUp_eqn]
  exact .eq (one h1 g1 g1' l1 l1' d hd (by omega) (by omega)) (one h2 g2 g2' l2 l2' d hd (by omega) (by omega))
 | two hk _ _ ih1 ih2 =>
  intro g g' l l' d hd z z'
  obtain ⟨_, g1, g2⟩ := g.inv_two
  obtain ⟨_, g1', g2'⟩ := g'.inv_two
  obtain ⟨l1, l2⟩ := fleast_parts2 l
  obtain ⟨l1', l2'⟩ := fleast_parts2 l'
  rw [fmSz_two] at z z'
  rw [fmUp2 hk hd (by omega), fmUp2 hk hd (by omega)]
  exact .two hk (ih1 g1 g1' l1 l1' d hd (by omega) (by omega)) (ih2 g2 g2' l2 l2' d hd (by omega) (by omega))
 | q hk _ ih1 =>
  intro g g' l l' d hd z z'
  rw [fmSz_q] at z z'
  rw [fmUpq hk hd (by omega), fmUpq hk hd (by omega)]
  exact .q hk (ih1 g.inv_q.2 g'.inv_q.2 (fleast_part l) (fleast_part l') _ (by omega) (by omega) (by omega))
theorem FmR.inn {s s' : Tm} (hs : Star s s') (gs : TmG s) (gs' : TmG s') (ls : s.least 1000000000 = true) (ls' : s'.least 1000000000 = true) (zs : tmSz s ≤ 100000) (zs' : tmSz s' ≤ 100000) {f f' : Fm} (h : FmR f f') :
  FmG true f → FmG true f' → f.least 1000000000 = true → f'.least 1000000000 = true → ∀ d : Int, 0 ≤ d → d + fmSz f ≤ 100000 → d + fmSz f' ≤ 100000 → FmR (fmInn s 0 f d) (fmInn s' 0 f' d) := by
 have one : ∀ {x x' : Tm}, Star x x' → TmG x → TmG x' → x.least 1000000000 = true → x'.least 1000000000 = true → ∀ d : Int, 0 ≤ d → d + tmSz x ≤ 100000 → d + tmSz x' ≤ 100000 → Star (tmInn s 0 x d) (tmInn s' 0 x' d) := by
  intro x x' hx gx gx' lx lx' d hd z z'
  rw [inn_p gs ls (by omega) gx d lx hd (by omega), inn_p gs' ls' (by omega) gx' d lx' hd (by omega)]
  exact Star.inn hs gs hx gx hd
 induction h with
 | eq h1 h2 =>
  intro g g' l l' d hd z z'
  obtain ⟨g1, g2⟩ := g.inv_eq
  obtain ⟨g1', g2'⟩ := g'.inv_eq
  obtain ⟨l1, l2⟩ := fleast_eq.1 l
  obtain ⟨l1', l2'⟩ := fleast_eq.1 l'
  rw [fmSz_eq] at z z'
  rw [fmInn_eqn, fmInn_eqn]
  exact .eq (one h1 g1 g1' l1 l1' d hd (by omega) (by omega)) (one h2 g2 g2' l2 l2' d hd (by omega) (by omega))
 | two hk _ _ ih1 ih2 =>
  intro g g' l l' d hd z z'
  obtain ⟨_, g1, g2⟩ := g.inv_two
  obtain ⟨_, g1', g2'⟩ := g'.inv_two
  obtain ⟨l1, l2⟩ := fleast_parts2 l
  obtain ⟨l1', l2'⟩ := fleast_parts2 l'
  rw [fmSz_two] at z z'
  rw [fmInn_two, fmInn_two, below_two hk, addW_zero hd (by omega)]
  exact .two hk (ih1 g1 g1' l1 l1' d hd (by omega) (by omega)) (ih2 g2 g2' l2 l2' d hd (by omega) (by omega))
 | q hk _ ih1 =>
  intro g g' l l' d hd z z'
  rw [fmSz_q] at z z'
  have hr := below_q hk
  rw [fmInn_q, fmInn_q, hr, addW_eq (by omega) (by omega) (by omega) (by omega)]
  exact .q hk (ih1 g.inv_q.2 g'.inv_q.2 (fleast_part l) (fleast_part l') _ (by omega) (by omega) (by omega))
/-- What is kept of a formula on the way. -/
structure FmOk (L : Int) (f : Fm) : Prop where
 gd : FmG true f
 l : f.least L = true
 a : ArgsOk f
 z : fmSz f ≤ 8200
theorem two_rel {k : Int} (hk : k = 2 ∨ k = 3) {x y x' y' : Fm × Int} (h : (mTwo k x y).2 = 0) (h' : (mTwo k x' y').2 = 0) (hx : x.2 = 0 → x'.2 = 0 → FmR x.1 x'.1) (hy : y.2 = 0 → y'.2 = 0 → FmR y.1 y'.1) :
  FmR (mTwo k x y).1 (mTwo k x' y').1 := by
 obtain ⟨a1, a2, a3⟩ := mTwo_ok h
 obtain ⟨b1, b2, b3⟩ := mTwo_ok h'
 rw [a3, b3]
 exact .two hk (hx a1 b1) (hy a2 b2)
theorem part_rel {b : Bool} {k : Int} (hk : k = 11 ∨ k = 12) {t t' : Tm} (h : Star t t') : Star (rlPart b k t) (rlPart b k t') := by
 unfold rlPart
 split
 ·exact Star.t1 (by omega) h
 ·exact h
theorem up_rel {b : Bool} {t t' : Tm} {L : Int} (hL : 0 ≤ L) (hL2 : L ≤ 300000000) (h : Star t t') (r : TmR L t) (r' : TmR L t') (z : tmSz t ≤ 4096) (z' : tmSz t' ≤ 4096) : Star (rlUp b t) (rlUp b t') := by
 have one : Star (t.sl 1 0) (t'.sl 1 0) := by
  rw [(sl1_R hL hL2 r z).1, (sl1_R hL hL2 r' z').1, up_p (by omega) (by omega) r.gd 0 (least_mono (by omega) _ r.l) (by omega) (by omega), up_p (by omega) (by omega) r'.gd 0 (least_mono (by omega) _ r'.l) (by omega) (by omega)]
  exact h.up (by omega) r.gd 0 (by omega)
 unfold rlUp rlCall
 split
 ·exact Star.t2 (by decide) (.var (by omega)) one
 ·exact one
/-- Two runs, the second one with reduced terms. -/
theorem rlOf_rel : ∀ (N : Nat), N ≤ 3 → ∀ (f f' : Fm) (t t' : Tm) (L : Int), FmR f f' → FmOk L f → FmOk L f' → fdp f ≤ N → 0 ≤ L → L + (N : Int) * 1000000 ≤ 200000000 → TmR L t → TmR L t' → Star t t' →
  (rlOf N f t).2 = 0 → (rlOf N f' t').2 = 0 → FmR (rlOf N f t).1 (rlOf N f' t').1 := by
 intro N
 induction N with
 | zero => intro _ f f' t t' L _ _ _ hd; have := fdp_pos f; omega
 | succ N ih =>
  intro hN f f' t t' L hR o o' hd hL0 hL r r' hs h h'
  have s4 := rlOf_size h
  have s4' := rlOf_size h'
  have zt := r.cut (by omega)
  have zt' := r'.cut (by omega)
  rw [rlOf_else s4] at h ⊢
  rw [rlOf_else s4'] at h' ⊢
  have ih' := ih (by omega)
  have lm : ∀ {x : Fm} (M : Int), L ≤ M → x.least L = true → FmG true x → x.least M = true := fun M hM h hx => fleastG_mono hM hx h
  cases hR with
  | @eq x y x' y' h1 h2 => exact .eq h1 h2
  | @two k a b a' b' hk ra rb =>
   obtain ⟨_, ga, gb⟩ := o.gd.inv_two
   obtain ⟨_, ga', gb'⟩ := o'.gd.inv_two
   have za := o.a.1 a (by simp [fmTwo, Fm.args])
   have zb := o.a.1 b (by simp [fmTwo, Fm.args])
   have za' := o'.a.1 a' (by simp [fmTwo, Fm.args])
   have zb' := o'.a.1 b' (by simp [fmTwo, Fm.args])
   rw [fdp_two] at hd
   obtain ⟨la, lb⟩ := fleast_parts2 o.l
   obtain ⟨la', lb'⟩ := fleast_parts2 o'.l
   obtain ⟨ca, ta, da⟩ := ra.inv
   obtain ⟨cb, tb, db⟩ := rb.inv
   have oa : FmOk L a := ⟨ga, la, argsOk_of za, by omega⟩
   have ob : FmOk L b := ⟨gb, lb, argsOk_of zb, by omega⟩
   have oa' : FmOk L a' := ⟨ga', la', argsOk_of za', by omega⟩
   have ob' : FmOk L b' := ⟨gb', lb', argsOk_of zb', by omega⟩
   rcases hk with rfl | rfl
   ·change (rlAnd (rlOf N) a b t).2 = 0 at h
    change (rlAnd (rlOf N) a' b' t').2 = 0 at h'
    show FmR (rlAnd (rlOf N) a b t).1 (rlAnd (rlOf N) a' b' t').1
    unfold rlAnd at h h' ⊢
    rw [hc_c ga za, hc_c gb zb] at h ⊢
    rw [hc_c ga' za', hc_c gb' zb', ← ca, ← cb] at h' ⊢
    exact two_rel (.inl rfl) h h' (fun e e' => ih' a a' _ _ L ra oa oa' (by omega) hL0 (by omega) (rlPart_R hL0 (.inl rfl) r zt) (rlPart_R hL0 (.inl rfl) r' zt') (part_rel (.inl rfl) hs) e e')
     (fun e e' => ih' b b' _ _ L rb ob ob' (by omega) hL0 (by omega) (rlPart_R hL0 (.inr rfl) r zt) (rlPart_R hL0 (.inr rfl) r' zt') (part_rel (.inr rfl) hs) e e')
   ·change (rlImp (rlOf N) a b t).2 = 0 at h
    change (rlImp (rlOf N) a' b' t').2 = 0 at h'
    show FmR (rlImp (rlOf N) a b t).1 (rlImp (rlOf N) a' b' t').1
    unfold rlImp at h h' ⊢
    rw [hc_c ga za, hc_c gb zb, cty_ct ga za] at h ⊢
    rw [hc_c ga' za', hc_c gb' zb', cty_ct ga' za', ← ca, ← cb, ← ta] at h' ⊢
    cases hca : a.fl.c with
    | false =>
     rw [hca] at h h'
     simp only [Bool.not_false, if_true] at h h' ⊢
     exact two_rel (.inr rfl) h h' (fun e e' => ih' a a' _ _ L ra oa oa' (by omega) hL0 (by omega) r r' hs e e') (fun e e' => ih' b b' _ _ L rb ob ob' (by omega) hL0 (by omega) r r' hs e e')
    | true =>
     rw [hca] at h h'
     simp only [Bool.not_true, Bool.false_eq_true, if_false] at h h' ⊢
     rcases ct_G ga with ⟨e, gs⟩ | e
     case inr => rw [e] at h; cases h
     rw [e] at h h' ⊢
     have n0 : ((0 : Int) != 0) = false := rfl
     rw [n0] at h h' ⊢
     simp only [Bool.false_eq_true, if_false] at h h' ⊢
     obtain ⟨h1, h2⟩ := rlBuild_ok h
     obtain ⟨h1', h2'⟩ := rlBuild_ok h'
     rw [h2, h2']
     refine .q (.inl rfl) ?_
     have upk : ∀ {x : Fm}, FmG true x → x.least L = true → fmSz x ≤ 4096 → x.slf 1 = x.up 1 0 ∧ FmOk (L + 1000000) (x.up 1 0) ∧ fdp (x.up 1 0) = fdp x := by
      intro x gx lx zx
      have e1 : x.slf 1 = x.up 1 0 := slf_up (by omega) (by omega) gx (lm _ (by omega) lx gx) 0 (by omega) (by omega)
      have u := gx.up (b := 1) (by omega) (by omega) (lm 536870912 (by omega) lx gx) 0
      have w := fleastG_up (b := 1) hL0 (by omega) (by omega) (by omega) gx lx 0 (by omega) (by omega)
      have ef : fdp (x.slf 1) = fdp x := fdp_evx _ _
      exact ⟨e1, ⟨u.1, fleastG_mono (by omega) u.1 w, argsOk_of (by rw [u.2]; exact zx), by rw [u.2]; omega⟩, by rw [← e1]; exact ef⟩
     obtain ⟨p1, p2, p3⟩ := upk ga la za
     obtain ⟨q1, q2, q3⟩ := upk gb lb zb
     obtain ⟨p1', p2', p3'⟩ := upk ga' la' za'
     obtain ⟨q1', q2', q3'⟩ := upk gb' lb' zb'
     rw [p1, q1] at h1 ⊢
     rw [p1', q1'] at h1' ⊢
     have rv : TmR (L + 1000000) (tmVar 0) := ⟨.var (by omega), by rw [tmSz_v]; omega, least_v (by omega)⟩
     have ua := ra.up ga ga' (lm _ (by omega) la ga) (lm _ (by omega) la' ga') 0 (by omega) (by omega) (by omega)
     have ub := rb.up gb gb' (lm _ (by omega) lb gb) (lm _ (by omega) lb' gb') 0 (by omega) (by omega) (by omega)
     exact two_rel (.inr rfl) h1 h1' (fun e e' => ih' _ _ _ _ (L + 1000000) ua p2 p2' (by omega) (by omega) (by omega) rv rv (.refl _) e e')
      (fun e e' => ih' _ _ _ _ (L + 1000000) ub q2 q2' (by omega) (by omega) (by omega) (rlUp_R hL0 (by omega) r zt) (rlUp_R hL0 (by omega) r' zt') (up_rel hL0 (by omega) hs r r' zt zt') e e')
  | @q k s a a' hk ra =>
   obtain ⟨hsT, ga⟩ := o.gd.inv_q
   obtain ⟨_, ga'⟩ := o'.gd.inv_q
   have za := o.a.1 a (by simp [fmQ, Fm.args])
   have za' := o'.a.1 a' (by simp [fmQ, Fm.args])
   rw [fdp_q] at hd
   have la := fleast_part o.l
   have la' := fleast_part o'.l
   obtain ⟨ca, ta, da⟩ := ra.inv
   have oa : FmOk (L + 1000000) a := ⟨ga, lm _ (by omega) la ga, argsOk_of za, by omega⟩
   have oa' : FmOk (L + 1000000) a' := ⟨ga', lm _ (by omega) la' ga', argsOk_of za', by omega⟩
   have uni : ∀ (k' : Int) (b : Bool), (k' = 4 ∨ k' = 7) → (rlBuild k' s (rlOf N a (rlUp b t))).2 = 0 → (rlBuild k' s (rlOf N a' (rlUp b t'))).2 = 0 → FmR (rlBuild k' s (rlOf N a (rlUp b t))).1 (rlBuild k' s (rlOf N a' (rlUp b t'))).1 := by
    intro k' b hk' h h'
    obtain ⟨h1, h2⟩ := rlBuild_ok h
    obtain ⟨h1', h2'⟩ := rlBuild_ok h'
    rw [h2, h2']
    exact .q (by omega) (ih' a a' _ _ (L + 1000000) ra oa oa' (by omega) (by omega) (by omega) (rlUp_R hL0 (by omega) r zt) (rlUp_R hL0 (by omega) r' zt') (up_rel hL0 (by omega) hs r r' zt zt') h1 h1')
   rcases hk with rfl | rfl | rfl | rfl
   ·change (rlQ (rlOf N) 4 s a t).2 = 0 at h
    change (rlQ (rlOf N) 4 s a' t').2 = 0 at h'
    show FmR (rlQ (rlOf N) 4 s a t).1 (rlQ (rlOf N) 4 s a' t').1
    unfold rlQ at h h' ⊢
    rw [hc_c ga za] at h ⊢
    rw [hc_c ga' za', ← ca] at h' ⊢
    exact uni 4 _ (.inl rfl) h h'
   ·change (rlEx (rlOf N) a t).2 = 0 at h
    change (rlEx (rlOf N) a' t').2 = 0 at h'
    show FmR (rlEx (rlOf N) a t).1 (rlEx (rlOf N) a' t').1
    obtain ⟨s1, s2, s3⟩ := rlEx_ok h
    obtain ⟨s1', s2', s3'⟩ := rlEx_ok h'
    rw [s3] at h ⊢
    rw [s3'] at h' ⊢
    rw [hc_c ga za] at s1 s2 h ⊢
    rw [hc_c ga' za', ← ca] at s1' s2' h' ⊢
    have hx := rlPart_R (b := a.fl.c) hL0 (.inl rfl) r zt
    have hy := rlPart_R (b := a.fl.c) hL0 (.inr rfl) r zt
    have hx' := rlPart_R (b := a.fl.c) hL0 (.inl rfl) r' zt'
    have hy' := rlPart_R (b := a.fl.c) hL0 (.inr rfl) r' zt'
    have px := part_rel (b := a.fl.c) (.inl rfl) hs
    have py := part_rel (b := a.fl.c) (.inr rfl) hs
    generalize rlPart a.fl.c 11 t = x at *
    generalize rlPart a.fl.c 12 t = y at *
    generalize rlPart a.fl.c 11 t' = x' at *
    generalize rlPart a.fl.c 12 t' = y' at *
    have zx := hx.cut (by omega)
    have zx' := hx'.cut (by omega)
    have spk : ∀ {c : Fm} {x : Tm}, FmG true c → c.least L = true → fmSz c ≤ 4096 → fdp c ≤ 2 → TmR L x → tmSz x ≤ 4096 → ¬ x.szW > 4096 → ¬ subW (c.grown x) c.exs > 4096 →
      c.sp x = fmInn x 0 c 0 ∧ FmOk (L + 1000000) (fmInn x 0 c 0) := by
     intro c x gc lc zc dc hx zx s1 s2
     have e1 : c.sp x = fmInn x 0 c 0 := fsp_inn hx.gd (by omega) (least_mono (by omega) _ hx.l) gc 0 (by omega) (by omega)
     have hz := ex_sz gc (by omega) hx.gd (by have := hx.sz; omega) (least_mono (by omega) _ hx.l) s1 s2
     have hw := fleastG_inn hL0 (by omega) hx.gd hx.l gc lc 0 (by omega) (by omega)
     have hq := exs_range gc (by omega)
     have gi := gc.inn hx.gd (least_mono (by omega) _ hx.l) (lm 536870912 (by omega) lc gc) 0 (by omega) (by omega)
     refine ⟨e1, gi, hw, argsR_inn gc (by omega) zc (by omega) (fun hq => ?_), by omega⟩
     obtain ⟨u1, u2, u3, u4, e⟩ := hq
     subst e
     rw [fdp_q, fdp_q, fdp_eqn] at dc
     omega
    have hd2 : fdp a ≤ 2 := by omega
    obtain ⟨w1, w2⟩ := spk ga la za hd2 hx zx s1 s2
    obtain ⟨w1', w2'⟩ := spk ga' la' za' (by omega) hx' zx' s1' s2'
    have ef : fdp (a.sp x) = fdp a := fdp_evx _ _
    rw [w1] at h ef ⊢
    rw [w1'] at h' ⊢
    exact ih' _ _ _ _ (L + 1000000) (ra.inn px hx.gd hx'.gd (least_mono (by omega) _ hx.l) (least_mono (by omega) _ hx'.l) (by omega) (by omega) ga ga' (lm _ (by omega) la ga) (lm _ (by omega) la' ga') 0 (by omega) (by omega) (by omega))
     w2 w2' (by omega) (by omega) (by omega) (hy.mono (by omega)) (hy'.mono (by omega)) py h h'
   ·change (rlQ (rlOf N) 6 s a t).2 = 0 at h
    change (rlQ (rlOf N) 6 s a' t').2 = 0 at h'
    exact uni 4 false (.inl rfl) h h'
   ·change (rlQ (rlOf N) 7 s a t).2 = 0 at h
    change (rlQ (rlOf N) 7 s a' t').2 = 0 at h'
    exact uni 7 false (.inr rfl) h h'
end GoAbs
namespace GoAbs
open Go
theorem cty_ok {u : Bool} {f : Fm} (hG : FmG u f) (ok : f.cty.2 = 0) (hz : fmSz f ≤ 4096) : f.ct.2 = 0 ∧ f.cty.1 = f.ct.1 ∧ TyG f.ct.1 := by
 have e := cty_ct hG hz
 rw [e] at ok ⊢
 refine ⟨ok, rfl, ?_⟩
 rcases ct_G hG with ⟨_, h⟩ | h
 ·exact h
 ·rw [ok] at h; cases h
theorem mk2 {f : Fm} (hm : MkFm true 2 [] f) : FmG true f ∧ fmSz f ≤ 543 ∧ fdp f ≤ 3 ∧ f.least 10000 = true ∧ FmTy TyG [] f := by
 have p2 : 2 ^ 2 = 4 := rfl
 have hz := hm.sz (by simp)
 have lf := hm.least (m := 10000) (by omega) (by simp) (by simp)
 have hd := hm.fdp
 exact ⟨hm.G (by simp), by omega, by omega, by simpa using lf, hm.ty (by simp)⟩
theorem unit_R' : TmR 10000 (tm0 13 []) := ⟨.t0 ar13 rfl, by rw [tmSz_0]; omega, least_tm0 (by omega) (by simp)⟩
theorem rl_okR {N : Nat} (hN : N ≤ 3) {f : Fm} (hm : MkFm true 2 [] f) (hd : fdp f ≤ N) {t : Tm} (r : TmR 10000 t) (hc : f.fl.c = true → f.ct.2 = 0 ∧ HasTy TyG [] t f.ct.1) : okR [] (rlOf N f t) := by
 obtain ⟨hG, hz, _, lf, hT⟩ := mk2 hm
 exact rlOf_good N (by omega) f [] t 10000 hG hd (argsOk_of (by omega)) (by omega) (fun e => by omega) hT (by simp; omega) (by omega) (by omega) lf r hc
/-- The term of a normal form that was made. -/
theorem norm_R {t : Tm} {s : Ty} (mt : MkTm 2 [] s t) (hs : TyG s) (zs : tySz s ≤ 15) (hn : (norm t).2.2 = 0) :
  TmR 10000 t ∧ tmSz t ≤ 4096 ∧ HasTy TyG [] t s ∧ TmR 10000 (norm t).1 ∧ tmSz (norm t).1 ≤ 4096 ∧ HasTy TyG [] (norm t).1 s ∧ Star t (norm t).1 := by
 obtain ⟨rt, zt, ht⟩ := mk_term (by omega) (g := []) (by simp) (by simp) hs zs mt
 rcases norm_star (by simp) ht rt.gd (by omega) with ⟨_, _, h3, h4, h5, h6⟩ | h | h
 ·exact ⟨rt, by omega, ht, ⟨h4, by omega, h3.least _ (by omega) (by simp; omega)⟩, h5, h3, h6⟩
 ·rw [hn] at h; cases h
 ·rw [hn] at h; cases h
theorem rlF_of2 {f : Fm} (hm : MkFm true 2 [] f) {t : Tm} (r : TmR 10000 t) (zt : tmSz t ≤ 4096) : rlF f t = rlOf (fdp f) f (if f.fl.c then t else tm0 13 []) := by
 obtain ⟨hG, hz, _, lf, _⟩ := mk2 hm
 exact rlF_of hG (by omega) r.gd zt (fleastG_mono (by omega) hG lf) (least_mono (by omega) _ r.l)
/-- The law of RealizeMatches. -/
theorem law_rlMatches {f : Fm} {t : Tm} (hm : MkFm true 2 [] f) (ok : f.cty.2 = 0) (mt : MkTm 2 [] f.cty.1 t) (hn : (norm t).2.2 = 0) :
  okR [] (rlF f t) ∧ okR [] (rlF f (norm t).1) ∧ ((rlF f t).2 = 0 → (rlF f (norm t).1).2 = 0 → FmR (rlF f t).1 (rlF f (norm t).1).1) := by
 obtain ⟨hG, hz, hd, lf, hT⟩ := mk2 hm
 obtain ⟨k1, k2, k3⟩ := cty_ok hG ok (by omega)
 rw [k2] at mt
 have p2 : 2 ^ 2 = 4 := rfl
 have zs := (ct_sz hm (by simp) k1).1
 obtain ⟨rt, zt, ht, rn, zn, hn', hs⟩ := norm_R mt k3 (by omega) hn
 rw [rlF_of2 hm rt zt, rlF_of2 hm rn zn]
 have o : FmOk 10000 f := ⟨hG, lf, argsOk_of (by omega), by omega⟩
 have rr : ∀ {x : Tm}, TmR 10000 x → TmR 10000 (if f.fl.c = true then x else tm0 13 []) := fun h => by split; exact h; exact unit_R'
 have hh : ∀ {x : Tm}, HasTy TyG [] x f.ct.1 → (f.fl.c = true → f.ct.2 = 0 ∧ HasTy TyG [] (if f.fl.c = true then x else tm0 13 []) f.ct.1) := fun h hc => by rw [if_pos hc]; exact ⟨k1, h⟩
 refine ⟨rl_okR hd hm (Nat.le_refl _) (rr rt) (hh ht), rl_okR hd hm (Nat.le_refl _) (rr rn) (hh hn'), fun h h' => ?_⟩
 refine rlOf_rel (fdp f) hd f f _ _ 10000 (FmR.refl hG) o o (Nat.le_refl _) (by omega) (by omega) (rr rt) (rr rn) ?_ h h'
 split
 ·exact hs
 ·exact .refl _
/-- The depth that is handed over does not matter. -/
theorem rlOf_fuel : ∀ (n m : Nat) (f : Fm) (t : Tm), FmC f → fdp f ≤ n → fdp f ≤ m → rlOf n f t = rlOf m f t := by
 intro n
 induction n with
 | zero => intro m f t _ h; have := fdp_pos f; omega
 | succ n ih =>
  intro m f t hC hn hm
  cases m with
  | zero => have := fdp_pos f; omega
  | succ m =>
   by_cases h4 : t.szW > 4096
   ·rw [rlOf, rlOf, decide_eq_true h4]; rfl
   rw [rlOf_else h4, rlOf_else h4]
   have fe : ∀ {F : Tm → Int → Tm} {x : Fm} {b : Int}, fdp (x.ev F b) = fdp x := fdp_evx _ _
   cases hC with
   | eq => rfl
   | @two k ty l a b hk ca cb =>
    have da := fdp_arg (f := .mk k ty l [a, b]) (x := a) (by simp [Fm.args])
    have db := fdp_arg (f := .mk k ty l [a, b]) (x := b) (by simp [Fm.args])
    rcases hk with rfl | rfl
    ·show rlAnd (rlOf n) a b t = rlAnd (rlOf m) a b t
     unfold rlAnd
     rw [ih m a _ ca (by omega) (by omega), ih m b _ cb (by omega) (by omega)]
    ·show rlImp (rlOf n) a b t = rlImp (rlOf m) a b t
     unfold rlImp
     rw [ih m a _ ca (by omega) (by omega), ih m b _ cb (by omega) (by omega), ih m (a.slf 1) _ (ca.ev _) (by unfold Fm.slf; rw [fe]; omega) (by unfold Fm.slf; rw [fe]; omega),
      ih m (b.slf 1) _ (cb.ev _) (by unfold Fm.slf; rw [fe]; omega) (by unfold Fm.slf; rw [fe]; omega)]
   | @q k s l a hk hs ca =>
    have da := fdp_arg (f := .mk k s l [a]) (x := a) (by simp [Fm.args])
    rcases hk with rfl | rfl | rfl | rfl
    ·show rlQ (rlOf n) 4 s a t = rlQ (rlOf m) 4 s a t
     unfold rlQ; rw [ih m a _ ca (by omega) (by omega)]
    ·show rlEx (rlOf n) a t = rlEx (rlOf m) a t
     unfold rlEx; rw [ih m (a.sp _) _ (ca.ev _) (by unfold Fm.sp; rw [fe]; omega) (by unfold Fm.sp; rw [fe]; omega)]
    ·show rlQ (rlOf n) 6 s a t = rlQ (rlOf m) 6 s a t
     unfold rlQ; rw [ih m a _ ca (by omega) (by omega)]
    ·show rlQ (rlOf n) 7 s a t = rlQ (rlOf m) 7 s a t
     unfold rlQ; rw [ih m a _ ca (by omega) (by omega)]
theorem two_eq {k : Int} {x y x' y' : Fm × Int} (h : (mTwo k x y).2 = 0) (h' : (mTwo k x' y').2 = 0) (hx : x.2 = 0 → x'.2 = 0 → x.1 = x'.1) (hy : y.2 = 0 → y'.2 = 0 → y.1 = y'.1) : (mTwo k x y).1 = (mTwo k x' y').1 := by
 obtain ⟨a1, a2, a3⟩ := mTwo_ok h
 obtain ⟨b1, b2, b3⟩ := mTwo_ok h'
 rw [a3, b3, hx a1 b1, hy a2 b2]
/-- What has no content is realized alike by all terms. -/
theorem rlOf_nc : ∀ (N : Nat), N ≤ 3 → ∀ (f : Fm) (t t' : Tm) (L : Int), FmOk L f → fdp f ≤ N → f.fl.c = false → 0 ≤ L → L + (N : Int) * 1000000 ≤ 200000000 → TmR L t → TmR L t' →
  (rlOf N f t).2 = 0 → (rlOf N f t').2 = 0 → (rlOf N f t).1 = (rlOf N f t').1 := by
 intro N
 induction N with
 | zero => intro _ f t t' L _ hd; have := fdp_pos f; omega
 | succ N ih =>
  intro hN f t t' L o hd hc hL0 hL r r' h h'
  have s4 := rlOf_size h
  have s4' := rlOf_size h'
  have zt := r.cut (by omega)
  have zt' := r'.cut (by omega)
  rw [rlOf_else s4] at h ⊢
  rw [rlOf_else s4'] at h' ⊢
  have ih' := ih (by omega)
  obtain ⟨gd, lf, ao, z⟩ := o
  have lm : ∀ {x : Fm} (M : Int), L ≤ M → x.least L = true → FmG true x → x.least M = true := fun M hM h hx => fleastG_mono hM hx h
  cases gd with
  | eq _ _ => rfl
  | @two k a b hk ga gb =>
   have za := ao.1 a (by simp [fmTwo, Fm.args])
   have zb := ao.1 b (by simp [fmTwo, Fm.args])
   rw [fdp_two] at hd
   obtain ⟨la, lb⟩ := fleast_parts2 lf
   have oa : FmOk L a := ⟨ga, la, argsOk_of za, by omega⟩
   have ob : FmOk L b := ⟨gb, lb, argsOk_of zb, by omega⟩
   rw [fl_c_two hk] at hc
   rcases hk with rfl | rfl
   ·change (rlAnd (rlOf N) a b t).2 = 0 at h
    change (rlAnd (rlOf N) a b t').2 = 0 at h'
    show (rlAnd (rlOf N) a b t).1 = (rlAnd (rlOf N) a b t').1
    simp only [beq_self_eq_true, Bool.true_and, Bool.or_eq_false_iff] at hc
    unfold rlAnd at h h' ⊢
    exact two_eq h h' (fun e e' => ih' a _ _ L oa (by omega) hc.2 hL0 (by omega) (rlPart_R hL0 (.inl rfl) r zt) (rlPart_R hL0 (.inl rfl) r' zt') e e')
     (fun e e' => ih' b _ _ L ob (by omega) hc.1 hL0 (by omega) (rlPart_R hL0 (.inr rfl) r zt) (rlPart_R hL0 (.inr rfl) r' zt') e e')
   ·change (rlImp (rlOf N) a b t).2 = 0 at h
    change (rlImp (rlOf N) a b t').2 = 0 at h'
    show (rlImp (rlOf N) a b t).1 = (rlImp (rlOf N) a b t').1
    have hcb : b.fl.c = false := by simpa using hc
    unfold rlImp at h h' ⊢
    rw [hc_c ga za, hc_c gb zb, cty_ct ga za] at h h' ⊢
    cases hca : a.fl.c with
    | false =>
     rw [hca] at h h'
     simp only [Bool.not_false, if_true] at h h' ⊢
     exact two_eq h h' (fun e e' => ih' a _ _ L oa (by omega) hca hL0 (by omega) r r' e e') (fun e e' => ih' b _ _ L ob (by omega) hcb hL0 (by omega) r r' e e')
    | true =>
     rw [hca] at h h'
     simp only [Bool.not_true, Bool.false_eq_true, if_false] at h h' ⊢
     rcases ct_G ga with ⟨e, gs⟩ | e
     case inr => rw [e] at h; cases h
     rw [e] at h h' ⊢
     have n0 : ((0 : Int) != 0) = false := rfl
     rw [n0] at h h' ⊢
     simp only [Bool.false_eq_true, if_false] at h h' ⊢
     obtain ⟨h1, h2⟩ := rlBuild_ok h
     obtain ⟨h1', h2'⟩ := rlBuild_ok h'
     rw [h2, h2']
     congr 1
     have e1 : b.slf 1 = b.up 1 0 := slf_up (by omega) (by omega) gb (lm _ (by omega) lb gb) 0 (by omega) (by omega)
     have u := gb.up (b := 1) (by omega) (by omega) (lm 536870912 (by omega) lb gb) 0
     have w := fleastG_up (b := 1) hL0 (by omega) (by omega) (by omega) gb lb 0 (by omega) (by omega)
     have ef : fdp (b.slf 1) = fdp b := fdp_evx _ _
     have ec : (b.slf 1).fl.c = b.fl.c := fl_c_ev _ _
     have ob1 : FmOk (L + 1000000) (b.slf 1) := by rw [e1]; exact ⟨u.1, fleastG_mono (by omega) u.1 w, argsOk_of (by rw [u.2]; exact zb), by rw [u.2]; omega⟩
     exact two_eq h1 h1' (fun e e' => rfl)
      (fun e e' => ih' _ _ _ (L + 1000000) ob1 (by omega) (by rw [ec]; exact hcb) (by omega) (by omega) (rlUp_R hL0 (by omega) r zt) (rlUp_R hL0 (by omega) r' zt') e e')
  | @q k s a hk hs ga =>
   have za := ao.1 a (by simp [fmQ, Fm.args])
   rw [fdp_q] at hd
   have la := fleast_part lf
   have oa : FmOk (L + 1000000) a := ⟨ga, lm _ (by omega) la ga, argsOk_of za, by omega⟩
   have hkq := FmG.qk hk
   rw [fl_c_q (by omega)] at hc
   have hca : a.fl.c = false := by cases h : a.fl.c <;> rw [h] at hc <;> simp_all
   have hk5 : k ≠ 5 := by intro e; subst e; rw [hca] at hc; simp at hc
   have uni : ∀ (k' : Int) (b : Bool), (rlBuild k' s (rlOf N a (rlUp b t))).2 = 0 → (rlBuild k' s (rlOf N a (rlUp b t'))).2 = 0 → (rlBuild k' s (rlOf N a (rlUp b t))).1 = (rlBuild k' s (rlOf N a (rlUp b t'))).1 := by
    intro k' b h h'
    obtain ⟨h1, h2⟩ := rlBuild_ok h
    obtain ⟨h1', h2'⟩ := rlBuild_ok h'
    rw [h2, h2', ih' a _ _ (L + 1000000) oa (by omega) hca (by omega) (by omega) (rlUp_R hL0 (by omega) r zt) (rlUp_R hL0 (by omega) r' zt') h1 h1']
   rcases hkq with rfl | rfl | rfl | rfl
   ·exact uni 4 _ h h'
   ·exact absurd rfl hk5
   ·exact uni 4 _ h h'
   ·exact uni 7 _ h h'
/-- The term that realizes a conjunction. -/
def rlBoth (f g : Fm) (a b : Tm) : Tm := if f.fl.c then (if g.fl.c then tm0 10 [a, b] else a) else b
theorem law_rlAnd {f g : Fm} {a b : Tm} (hf : MkFm true 2 [] f) (hg : MkFm true 2 [] g) (okf : f.cty.2 = 0) (okg : g.cty.2 = 0) (ma : MkTm 2 [] f.cty.1 a) (mb : MkTm 2 [] g.cty.1 b) :
  okR [] (rlF (fmTwo 2 f g) (rlBoth f g a b)) ∧ okR [] (rlF f a) ∧ okR [] (rlF g b) ∧
  ((rlF (fmTwo 2 f g) (rlBoth f g a b)).2 = 0 → (rlF f a).2 = 0 → (rlF g b).2 = 0 → FmR (rlF (fmTwo 2 f g) (rlBoth f g a b)).1 (fmTwo 2 (rlF f a).1 (rlF g b).1)) := by
 obtain ⟨Gf, zf, df, lf, Tf⟩ := mk2 hf
 obtain ⟨Gg, zg, dg, lg, Tg⟩ := mk2 hg
 obtain ⟨f1, f2, f3⟩ := cty_ok Gf okf (by omega)
 obtain ⟨g1, g2, g3⟩ := cty_ok Gg okg (by omega)
 rw [f2] at ma
 rw [g2] at mb
 have p2 : 2 ^ 2 = 4 := rfl
 have zsf := (ct_sz hf (by simp) f1).1
 have zsg := (ct_sz hg (by simp) g1).1
 obtain ⟨ra, za, ta⟩ := mk_term (by omega) (g := []) (by simp) (by simp) f3 (by omega) ma
 obtain ⟨rb, zb, tb⟩ := mk_term (by omega) (g := []) (by simp) (by simp) g3 (by omega) mb
 have of : FmOk 10000 f := ⟨Gf, lf, argsOk_of (by omega), by omega⟩
 have og : FmOk 10000 g := ⟨Gg, lg, argsOk_of (by omega), by omega⟩
 have rr : ∀ {c : Bool} {x : Tm}, TmR 10000 x → TmR 10000 (if c = true then x else tm0 13 []) := fun h => by split; exact h; exact unit_R'
 have okf' : okR [] (rlF f a) := by
  rw [rlF_of2 hf ra (by omega)]
  exact rl_okR df hf (Nat.le_refl _) (rr ra) (fun hc => by rw [if_pos hc]; exact ⟨f1, ta⟩)
 have okg' : okR [] (rlF g b) := by
  rw [rlF_of2 hg rb (by omega)]
  exact rl_okR dg hg (Nat.le_refl _) (rr rb) (fun hc => by rw [if_pos hc]; exact ⟨g1, tb⟩)
 have rp : TmR 10000 (tm0 10 [a, b]) := ⟨.plain (a := 2) rfl rfl rfl (by simp [ra.gd, rb.gd]), by rw [tmSz_2]; omega, least_tm0 (by omega) (by simp [ra.l, rb.l])⟩
 have rboth : TmR 10000 (rlBoth f g a b) ∧ tmSz (rlBoth f g a b) ≤ 4096 := by
  unfold rlBoth
  repeat' split
  ·exact ⟨rp, by rw [tmSz_2]; omega⟩
  ·exact ⟨ra, by omega⟩
  ·exact ⟨rb, by omega⟩
 obtain ⟨rB, zB⟩ := rboth
 have GT : FmG true (fmTwo 2 f g) := .two (.inl rfl) Gf Gg
 have zT : fmSz (fmTwo 2 f g) ≤ 4096 := by rw [fmSz_two]; omega
 have lT : (fmTwo 2 f g).least 10000 = true := fleast_two lf lg
 have dT : fdp (fmTwo 2 f g) = max (fdp f) (fdp g) + 1 := fdp_two
 have e1 : rlF (fmTwo 2 f g) (rlBoth f g a b) = rlOf (max (fdp f) (fdp g) + 1) (fmTwo 2 f g) (if (fmTwo 2 f g).fl.c then rlBoth f g a b else tm0 13 []) := by
  rw [← dT]
  exact rlF_of GT zT rB.gd zB (fleastG_mono (by omega) GT lT) (least_mono (by omega) _ rB.l)
 have hcT : (fmTwo 2 f g).fl.c = (g.fl.c || f.fl.c) := by rw [fl_c_two (.inl rfl)]; simp
 have tyB : (fmTwo 2 f g).fl.c = true → (fmTwo 2 f g).ct.2 = 0 ∧ HasTy TyG [] (rlBoth f g a b) (fmTwo 2 f g).ct.1 := by
  intro hc
  rw [ct_and]
  unfold rlBoth
  cases cf : f.fl.c <;> cases cg : g.fl.c <;> simp only [if_true, Bool.false_eq_true, if_false]
  ·rw [hcT, cf, cg] at hc; cases hc
  ·exact ⟨g1, tb⟩
  ·exact ⟨f1, ta⟩
  ·have hp : TyG (tPair f.ct.1 g.ct.1) := .pair' f3.1 g3.1 (by omega)
   have ej : ctJoin 3 f.ct g.ct = (tPair f.ct.1 g.ct.1, 0) := by
    have n0 : ((0 : Int) != 0) = false := rfl
    unfold ctJoin
    rw [f1, g1]
    have := hp.err
    rw [show Ty.mk 3 [f.ct.1, g.ct.1] = tPair f.ct.1 g.ct.1 from rfl, this, n0]
    rfl
   rw [ej]
   exact ⟨rfl, .n2 (ty := .mk 0 []) (.pair hp) ta tb⟩
 have rB' : TmR 10000 (if (fmTwo 2 f g).fl.c = true then rlBoth f g a b else tm0 13 []) := rr rB
 have okT : okR [] (rlF (fmTwo 2 f g) (rlBoth f g a b)) := by
  rw [e1]
  refine rlOf_good (max (fdp f) (fdp g) + 1) (by omega) _ [] _ 10000 GT (by rw [dT]; omega) (argsOk_of zT) (by omega) (fun _ => ?_) (.two (.inl rfl) Tf Tg) (by simp; omega) (by omega) (by omega) lT rB' (fun hc => ?_)
  ·intro k s x e; simp [fmTwo, fmQ] at e
  ·rw [if_pos hc]; exact tyB hc
 refine ⟨okT, okf', okg', fun h h1 h2 => ?_⟩
 rw [e1] at h ⊢
 rw [rlF_of2 hf ra (by omega)] at h1 ⊢
 rw [rlF_of2 hg rb (by omega)] at h2 ⊢
 have s4 := rlOf_size h
 rw [rlOf_else s4] at h ⊢
 change (rlAnd (rlOf (max (fdp f) (fdp g))) f g _).2 = 0 at h
 show FmR (rlAnd (rlOf (max (fdp f) (fdp g))) f g _).1 _
 unfold rlAnd at h ⊢
 rw [hc_c Gf (by omega), hc_c Gg (by omega)] at h ⊢
 obtain ⟨q1, q2, q3⟩ := mTwo_ok h
 rw [q3]
 rw [rlOf_fuel _ (max (fdp f) (fdp g)) f _ Gf.C (Nat.le_refl _) (by omega)] at h1 ⊢
 rw [rlOf_fuel _ (max (fdp f) (fdp g)) g _ Gg.C (Nat.le_refl _) (by omega)] at h2 ⊢
 have rel : ∀ {x : Fm} {t t' : Tm}, FmOk 10000 x → fdp x ≤ max (fdp f) (fdp g) → TmR 10000 t → TmR 10000 t' → Star t t' → (rlOf (max (fdp f) (fdp g)) x t).2 = 0 → (rlOf (max (fdp f) (fdp g)) x t').2 = 0 →
   FmR (rlOf (max (fdp f) (fdp g)) x t).1 (rlOf (max (fdp f) (fdp g)) x t').1 := fun ox hd r r' hs h h' =>
  rlOf_rel _ (by omega) _ _ _ _ 10000 (FmR.refl ox.gd) ox ox hd (by omega) (by omega) r r' hs h h'
 have nc : ∀ {x : Fm} {t t' : Tm} {g0 : List Ty}, FmOk 10000 x → fdp x ≤ max (fdp f) (fdp g) → x.fl.c = false → TmR 10000 t → TmR 10000 t' → (rlOf (max (fdp f) (fdp g)) x t).2 = 0 → (rlOf (max (fdp f) (fdp g)) x t').2 = 0 → okR g0 (rlOf (max (fdp f) (fdp g)) x t') →
   FmR (rlOf (max (fdp f) (fdp g)) x t).1 (rlOf (max (fdp f) (fdp g)) x t').1 := fun ox hd hc r r' h h' ho => by
  rw [rlOf_nc _ (by omega) _ _ _ 10000 ox hd hc (by omega) (by omega) r r' h h']
  rcases ho with ho | ⟨_, ho⟩
  ·rw [ho] at h'; cases h'
  ·exact FmR.refl ho.gd
 have hw : (if (fmTwo 2 f g).fl.c = true then rlBoth f g a b else tm0 13 []) = (if (g.fl.c || f.fl.c) = true then rlBoth f g a b else tm0 13 []) := by rw [hcT]
 rw [hw] at q1 q2 ⊢
 have okX : ∀ {x : Fm} {t : Tm}, MkFm true 2 [] x → fdp x ≤ max (fdp f) (fdp g) → x.fl.c = false → TmR 10000 t → okR [] (rlOf (max (fdp f) (fdp g)) x t) := fun hx hd hc r =>
  rl_okR (by omega) hx hd r (fun h => by rw [hc] at h; cases h)
 unfold rlBoth at q1 q2 ⊢
 cases cf : f.fl.c <;> cases cg : g.fl.c <;> rw [cf] at h1 q1 q2 <;> rw [cg] at h2 q1 q2 <;> simp only [Bool.or_self, Bool.or_true, Bool.or_false, Bool.and_self, Bool.and_true, Bool.and_false, if_true, Bool.false_eq_true, if_false, rlPart] at h1 h2 q1 q2 ⊢
 ·exact .two (.inl rfl) (rel of (by omega) unit_R' unit_R' (.refl _) q1 h1) (rel og (by omega) unit_R' unit_R' (.refl _) q2 h2)
 ·exact .two (.inl rfl) (nc of (by omega) cf rb unit_R' q1 h1 (okX hf (by omega) cf unit_R')) (rel og (by omega) rb rb (.refl _) q2 h2)
 ·exact .two (.inl rfl) (rel of (by omega) ra ra (.refl _) q1 h1) (nc og (by omega) cg ra unit_R' q2 h2 (okX hg (by omega) cg unit_R'))
 ·have zp : tmSz (tm0 10 [a, b]) ≤ 4096 := by rw [tmSz_2]; omega
  have r11 : TmR 10000 (tm0 11 [tm0 10 [a, b]]) := by have := rlPart_R (b := true) (by omega) (.inl rfl) rp zp; simpa [rlPart] using this
  have r12 : TmR 10000 (tm0 12 [tm0 10 [a, b]]) := by have := rlPart_R (b := true) (by omega) (.inr rfl) rp zp; simpa [rlPart] using this
  have sa : Star (tm0 11 [tm0 10 [a, b]]) a := .one (.red (k := 11) (ty := .mk 0 []) (l := [tm0 10 [a, b]]) rfl (fun i x x' e1 e2 => by rw [e1] at e2; cases e2; exact Par.refl (by
   have := List.mem_of_getElem? e1; simp at this; subst this; exact rp.gd)) (.fst (ty' := .mk 0 [])) (.fst (ty' := .mk 0 [])))
  have sb : Star (tm0 12 [tm0 10 [a, b]]) b := .one (.red (k := 12) (ty := .mk 0 []) (l := [tm0 10 [a, b]]) rfl (fun i x x' e1 e2 => by rw [e1] at e2; cases e2; exact Par.refl (by
   have := List.mem_of_getElem? e1; simp at this; subst this; exact rp.gd)) (.snd (ty' := .mk 0 [])) (.snd (ty' := .mk 0 [])))
  exact .two (.inl rfl) (rel of (by omega) r11 ra sa q1 h1) (rel og (by omega) r12 rb sb q2 h2)
end GoAbs
namespace GoAbs
open Go
theorem normN_W {steps : Int} : ∀ (k : Nat) (n : Int) (t : Tm), TmW t → ∀ r, normN steps k n t = some r → TmW r.1
 | 0, n, t, _, r, h => by simp [normN] at h
 | k + 1, n, t, hw, r, h => by
  rw [normN] at h
  split at h
  ·cases h; exact hw
  ·split at h
   ·cases h; exact zeroT_W
   ·split at h
    ·cases h; exact zeroT_W
    ·exact normN_W k (n + 1) _ (nx_W t hw) r h
theorem norm_W {t : Tm} (h : TmW t) : TmW (norm t).1 := normN_W 1001 0 t h _ (norm_eq t)
theorem fdp_sz {u : Bool} {f : Fm} (h : FmG u f) : fdp f ≤ fmSz f := by
 induction h with
 | eq _ _ => rw [fdp_eqn, fmSz_eq]; omega
 | two _ _ _ h1 h2 => rw [fdp_two, fmSz_two]; omega
 | q _ _ _ h1 => rw [fdp_q, fmSz_q]; omega
theorem FmTy.inv_eq {Q : Ty → Prop} {g : List Ty} {x y : Tm} (h : FmTy Q g (fmEq x y)) : HasTy Q g x tNat ∧ HasTy Q g y tNat := by
 generalize e : fmEq x y = f at h
 cases h with
 | eq h1 h2 => simp only [fmEq, Fm.mk.injEq, List.cons.injEq, and_true, true_and] at e; obtain ⟨rfl, rfl⟩ := e; exact ⟨h1, h2⟩
 | two hk _ _ => simp [fmEq, fmTwo] at e
 | q hk _ => simp [fmEq, fmQ] at e
theorem FmTy.inv_two {Q : Ty → Prop} {g : List Ty} {k : Int} {a b : Fm} (h : FmTy Q g (fmTwo k a b)) : FmTy Q g a ∧ FmTy Q g b := by
 generalize e : fmTwo k a b = f at h
 cases h with
 | eq h1 h2 => simp [fmEq, fmTwo] at e
 | two hk h1 h2 => simp only [fmTwo, Fm.mk.injEq, List.cons.injEq, and_true, true_and] at e; obtain ⟨rfl, rfl, rfl⟩ := e; exact ⟨h1, h2⟩
 | q hk _ => simp [fmTwo, fmQ] at e
theorem FmTy.inv_q {Q : Ty → Prop} {g : List Ty} {k : Int} {s : Ty} {a : Fm} (h : FmTy Q g (fmQ k s a)) : FmTy Q (g ++ [s]) a := by
 generalize e : fmQ k s a = f at h
 cases h with
 | eq h1 h2 => simp [fmEq, fmQ] at e
 | two hk _ _ => simp [fmTwo, fmQ] at e
 | q hk h1 => simp only [fmQ, Fm.mk.injEq, List.cons.injEq, and_true, true_and] at e; obtain ⟨rfl, rfl, rfl⟩ := e; exact h1
end GoAbs
