/-
  The abstract layer: plain laws, further ones.
-/
import Derived.Test.YteopcebaeojjkaaDoorAbsC
import Derived.Test.YteopcebaeojjkaaDoorAbsD
import Derived.Test.YteopcebaeojjkaaDoorAbsDb
set_option linter.unusedSimpArgs false
set_option linter.unusedVariables false
set_option linter.unusedSectionVars false
namespace GoAbs
open Go

theorem Ext.drew (g : G) (w : World) : Ext g w g w.drew :=
  ⟨rfl, rfl, rfl, by simp, fun _ => Nat.le_refl _, fun _ _ _ => rfl, fun _ _ h => ⟨rfl, h⟩, fun id h => ⟨h, rfl, .inl rfl⟩, Nat.le_refl _⟩
theorem Rel.drew {env : Nat → Option (List V)} {g : G} {w : World} {h : H} (r : Rel env g w h) : Rel env g w.drew h := by
  have hx := Ext.drew g w
  refine ⟨r.dom, r.top, ?_, r.inj, ?_, r.apart, r.apart2, ?_, fun k cs' e => (r.glob k cs' e).mono hx⟩
  · intro id cs e
    obtain ⟨vs, h1, h2, h3, h4, h5⟩ := r.box id cs e
    exact ⟨vs, h1, h2, fun i c v a b => (h3 i c v a b).mono hx, h4, h5⟩
  · intro id n k e
    obtain ⟨h1, h2, h3, hk⟩ := r.tok id n k e
    exact ⟨h1, h2, fun hlt => by
      obtain ⟨b, off, vs', s1, s2, s3, s4, s5⟩ := h3 hlt
      exact ⟨b, off, vs', s1, s2, s3, s4, s5⟩, hk⟩
  · intro b hb; simp only [World.size_drew] at hb; exact r.limnew b hb

/-- 'append' to a row that is full (nil): a new box with the elements, and unknown room behind them. -/
theorem append_box {P : Program} {env : Nat → Option (List V)} {g : G} {w : World} {h : H} {ρc : Operand → Value} {ρ : Operand → V} (r : Rel env g w h) (hρ : ∀ x, RV g w (ρc x) (ρ x))
    {o : Oper} {x y : Operand} {t t2 : TypeId} {nid : Id} {i j : TyI} {xs : List (List V)} {cc : Cap}
    (ho : o.op = .call { callee := .builtin .append, args := #[x, y], argTypes := #[t, t2] }) (hi : tyi P t = some i) (hj : tyi P t2 = some j)
    (hx1 : ρ x = .sl .full []) (hy1 : ρ y = .sl cc xs) (hne : xs ≠ []) (hn : h nid = none)
    (hk1 : i.kind = 4) (hk2 : j.kind = 4) (hk3 : i.esize ≠ 0) (hk4 : i.ezero.length = i.esize) (hk6 : xs.all (fun e => e.length == i.esize) = true)
    (hk8 : xs.length * i.ebytes ≤ 140737488355328) (hk9 : xs.length ≤ 140737488355328) :
    ∃ (q : Nat) (c : Value) (w' : World) (g' : G), (execOp ρc o).run P w = .ok (.value c) w' ∧ Ext g w g' w' ∧ Rel env g' w' (hset h nid (.box (xs.flatten ++ List.replicate q .undef))) ∧ RV g' w' c (.slb nid xs.length) := by
  obtain ⟨inf, d, z, i1, i2, i0, is, ib, ia, iz, _, ik4, _, _, _, _, _, iez⟩ := tyi_inv hi
  obtain ⟨e, rfl, hes, heb, _⟩ := ik4 hk1
  obtain ⟨inf2, d2, z2, j1, j2, j0, _, _, _, _, _, jk4, _⟩ := tyi_inv hj
  obtain ⟨e2, rfl, _⟩ := jk4 hk2
  obtain ⟨ie, de, he1, he2, he3⟩ := szOf_some (P := P) (t := e) (by rw [← hes]; exact hk3)
  have hez := (iez e (.inl rfl)).2 ie he1
  have hsz : ie.size = i.esize := by rw [he3, hes]
  obtain ⟨ze, hze, hzel⟩ : ∃ ze, ie.zero = some ze ∧ ze.cells.size = i.esize := by
    cases hz0 : ie.zero with
    | none => rw [hz0] at hez; rw [hez] at hk4; simp at hk4; exact absurd hk4.symm hk3
    | some ze => rw [hz0] at hez; rw [hez] at hk4; exact ⟨ze, rfl, by simpa using hk4⟩
  have hbytes : ie.bytes = i.ebytes := by rw [heb]; simp [bytesOf, he1]
  have hx := hρ x
  have hy := hρ y
  rw [hx1] at hx; rw [hy1] at hy
  generalize hcx : ρc x = vx at hx
  generalize hcy : ρc y = vy at hy
  cases hx with | sl a cap _ es k cs hke hcaps hruns hrs hccs => ?_
  cases hy with | sl a2 cap2 _ xs k2 cx hkx hcapx hrunx hrx hccx => ?_
  have hxs' : ∀ e ∈ xs, e.length = i.esize := by
    rw [List.all_eq_true] at hk6; intro e he; simpa using hk6 e he
  obtain ⟨b, off, rfl, hlx, hcellx⟩ := hrunx hne
  have hk2' : k2 = i.esize := by
    cases xs with
    | nil => exact absurd rfl hne
    | cons e0 _ => rw [← hkx e0 (by simp), hxs' e0 (by simp)]
  subst hk2'
  have hfx := flat_len xs i.esize hxs'
  have hc0 : cap = 0 := hccs
  subst hc0
  have hpos : 0 < xs.length := List.length_pos_iff.2 hne
  have hnc := nextcap_le xs.length 0 hpos
  generalize hq : w.tape w.drawn (.appendCap xs.length 0 e) % (9223372036854775808 - xs.length) = q
  let arr : Array Value := ((List.range (xs.length * ie.size)).map cx).toArray ++ Builtin.zeroCells ze.cells q
  have hrun : (execOp ρc o).run P w = .ok (.value (.slice (some ⟨w.heap.size, 0, none⟩) xs.length (xs.length + q))) (w.drew.alloc (.cells arr e)) := by
    have b1 : ¬ ((9223372036854775807 : Int) < (xs.length : Int) ∧ ie.bytes = 0) := by omega
    have b2 : ¬ (281474976710656 < Builtin.nextslicecap xs.length 0 * ie.bytes) := by
      rw [hbytes]
      have : Builtin.nextslicecap xs.length 0 * i.ebytes ≤ 2 * xs.length * i.ebytes := Nat.mul_le_mul_right _ hnc
      rw [Nat.mul_assoc] at this; omega
    have b3 : ¬ (xs.length ≤ 0) := by omega
    have f1 : (Builtin.firstCells ie.size 0 (.slice a 0 0)).run P w.drew = .ok #[] w.drew := by
      cases a with
      | none => simp [Builtin.firstCells]
      | some a => simp [Builtin.firstCells, loadCells, loadCellsFrom]
    have f2 := run_first (P := P) (g := g) (w := w) (a := some ⟨b, off, none⟩) (cap := cap2) (k := i.esize) (es := xs) (cell := cx) (fun _ => ⟨b, off, rfl, hlx, hcellx⟩) w.drew (fun _ => rfl)
    rw [← hsz] at f2
    simp [execOp, ho, resolve, invoke, builtin, Builtin.append_, run_underlying i2, run_underlying j2, run_sizeOf' he1, hcx, hcy, Builtin.lenOf, typeInfo, he1, b3, Question.forced, Question.cut]
    rw [if_neg (by omega)]
    rw [if_neg b1, if_neg b2, f1]
    simp only [Result.andThen_ok]
    rw [f2]
    simp [zeroValue, typeInfo, he1, hze, newRow, hq, arr]
  have hv : RVL g w.drew arr (xs.flatten ++ List.replicate (q * i.esize) .undef) := by
    have hx' := Ext.drew g w
    refine ⟨by simp only [arr, Array.size_append, zero_size, hzel, hsz]; simp [hfx], fun n c v hc hv => ?_⟩
    by_cases hlt : n < xs.flatten.length
    · rw [List.getElem?_append_left hlt] at hv
      simp only [arr] at hc
      rw [Array.getElem?_append_left (by simp; rw [hsz]; omega)] at hc
      simp only [List.getElem?_toArray, List.getElem?_map] at hc
      rw [List.getElem?_range (by rw [hsz]; omega)] at hc
      simp only [Option.map_some, Option.some.injEq] at hc
      subst hc
      exact (hrx n v hv).mono hx'
    · rw [List.getElem?_append_right (by omega), List.getElem?_replicate] at hv
      split at hv
      · cases hv; exact .undef _
      · cases hv
  obtain ⟨g', hx', hr', hv'⟩ := new_box (r.drew) hn hv e
  refine ⟨q * i.esize, _, _, g', hrun, (Ext.drew g w).trans hx', hr', ?_⟩
  generalize hp : Value.pointer (some ⟨w.drew.heap.size, 0, none⟩) = p at hv'
  cases hv' with
  | ptr _ _ hd =>
    simp only [Value.pointer.injEq, Option.some.injEq, Addr.mk.injEq] at hp
    rw [show w.heap.size = g'.loc nid from hp.1]
    exact .slb nid xs.length (xs.length + q) hd (by omega)

theorem aops_pre {P : Program} {env : Nat → Option (List V)} {ops : Array Oper} {gen reg : Nat} {K : St → Prop} :
    ∀ (rest : List Oper) (i : Nat) (log : List LogE) (σ : St), (∀ j o, rest[j]? = some o → ops[i + j]? = some o) → aops P env ops false gen reg rest i log K σ →
      ∃ l σe, l.map (·.1) = (List.range rest.length).map (i + ·) ∧ Chain P env ops gen reg l σ σe ∧ K σe
  | [], i, log, σ, _, h => ⟨[], σ, rfl, .nil σ, h⟩
  | o :: rest, i, log, σ, hr, h => by
    have ho : ops[i]? = some o := by have := hr 0 o; simpa using this
    have hr' : ∀ j p, rest[j]? = some p → ops[i + 1 + j]? = some p := fun j p hp => by
      have := hr (j + 1) p (by simpa using hp)
      rw [show i + (j + 1) = i + 1 + j by omega] at this
      exact this
    have hidx : i :: (List.range rest.length).map (i + 1 + ·) = (List.range (o :: rest).length).map (i + ·) := by
      rw [List.length_cons, List.range_succ_eq_map, List.map_cons, List.map_map]
      simp only [Nat.add_zero]
      congr 1
      apply List.map_congr_left
      intro j _; simp; omega
    rcases aops_stp h with ⟨hg, h'⟩ | ⟨hg, e, hs, hlog, h'⟩
    · obtain ⟨l, σe, h1, h2, h3⟩ := aops_pre rest (i + 1) log _ hr' h'
      exact ⟨(i, none) :: l, σe, by rw [List.map_cons, h1]; exact hidx, .cons _ _ _ _ _ ⟨o, ho, hg, rfl⟩ h2, h3⟩
    · obtain ⟨l, σe, h1, h2, h3⟩ := aops_pre rest (i + 1) _ _ hr' h'
      exact ⟨(i, some e) :: l, σe, by rw [List.map_cons, h1]; exact hidx, .cons _ _ _ _ _ ⟨o, ho, hg, hs, rfl⟩ h2, h3⟩

theorem chain_app {P : Program} {env : Nat → Option (List V)} {ops : Array Oper} {gen reg n : Nat} (hn : dstOk n ops = true) (l2 : List Nat) :
    ∀ (l : List (Nat × Option Eff)) {σ σe : St} (h : Chain P env ops gen reg l σ σe) {g : G} {w : World} {a : Act} (r : RelSt env n g w a σ)
    {Q : Exit → Act → World → Prop} (hk : ∀ g' a' w', Ext g w g' w' → RelSt env n g' w' a' σe → wpOps P ops Q l2 a' w'), wpOps P ops Q (l.map (·.1) ++ l2) a w
  | [], _, _, .nil _, g, w, a, r, Q, hk => hk g a w (Ext.refl g w) r
  | x :: l, _, _, .cons _ _ _ σ1 _ hs t, g, w, a, r, Q, hk => by
    rw [List.map_cons, List.cons_append, wpOps_cons]
    exact cstep_wp hn hs r fun g' a' w' hx r' => chain_app hn l2 l t r' fun g2 a2 w2 hx2 r2 => hk g2 a2 w2 (hx.trans hx2) r2

/-- What is asked of an 'append' that makes a new box. -/
structure AppOk (P : Program) (s x : V) (T U : Option TyI) (xs : List (List V)) : Prop where
  s : s = .sl .full []
  x : ∃ cc, x = .sl cc xs
  ne : xs ≠ []
  ty : ∃ i j, T = some i ∧ U = some j ∧ i.kind = 4 ∧ j.kind = 4 ∧ i.esize ≠ 0 ∧ i.ezero.length = i.esize ∧ xs.all (fun e => e.length == i.esize) = true ∧ xs.length * i.ebytes ≤ 140737488355328 ∧ xs.length ≤ 140737488355328

/-- A region with an 'append' to nil whose row is stored into later: a new box. -/
theorem AR_region_app {c : Ctx} {gen : Nat} {k : List It} {σ : St} {id : Nat} {ops : Array Oper} (j : Nat) {o : Oper} {x y : Operand} {t t2 : TypeId} {d : Nat} (hops : ops[j]? = some o) (hg : o.guard = none) (hdst : o.dst = some d)
    (hop : o.op = .call { callee := .builtin .append, args := #[x, y], argTypes := #[t, t2] })
    (h : aops c.P c.env ops false gen id (ops.toList.take j) 0 [] (fun σ1 => ∃ xs, AppOk c.P (av c.env σ1.tm x) (av c.env σ1.tm y) (tyi c.P t) (tyi c.P t2) xs ∧ σ1.h ⟨gen, id, j⟩ = none ∧
      ∀ q, aops c.P c.env ops false gen id (ops.toList.drop (j + 1)) (j + 1) [] (fun σ' => AR c gen k .normal σ')
        ⟨upd σ1.tm (some d) (.slb ⟨gen, id, j⟩ xs.length), hset σ1.h ⟨gen, id, j⟩ (.box (xs.flatten ++ List.replicate q .undef))⟩) σ) :
    AR c gen (.code (.region id ops false) :: k) .normal σ := by
  rw [← hdst] at h
  intro ok hm g a w hx r
  simp only [okStk, okCode, Bool.and_eq_true] at ok
  obtain ⟨⟨hd, _⟩, okk⟩ := ok
  have hj : j < ops.size := (Array.getElem?_eq_some_iff.1 hops).1
  obtain ⟨l1, σ1, h1, h2, xs, hA, hnone, hq⟩ := aops_pre (ops.toList.take j) 0 [] σ (fun i o h => by
    rw [List.getElem?_take] at h
    split at h
    · simpa using h
    · cases h) h
  have hl1 : l1.map (·.1) = List.range j := by
    rw [h1, List.length_take]
    rw [Nat.min_eq_left (by simpa using Nat.le_of_lt hj)]
    simp
  refine wp_region ?_
  have hsplit : List.range ops.size = List.range j ++ (j :: (List.range (ops.size - (j + 1))).map (j + 1 + ·)) := by
    apply List.ext_getElem?
    intro i
    by_cases hi : i < j
    · rw [List.getElem?_append_left (by simpa using hi), List.getElem?_range (by omega), List.getElem?_range hi]
    · rw [List.getElem?_append_right (by simpa using hi)]
      simp only [List.length_range]
      rcases Nat.eq_or_lt_of_le (Nat.le_of_not_lt hi) with e | hlt
      · subst e; simp [hj]
      · obtain ⟨m, rfl⟩ : ∃ m, i = j + 1 + m := ⟨i - (j + 1), by omega⟩
        rw [show j + 1 + m - j = m + 1 by omega, List.getElem?_cons_succ]
        by_cases hm : m < ops.size - (j + 1)
        · rw [List.getElem?_map, List.getElem?_range hm, List.getElem?_range (by omega)]; simp
        · rw [List.getElem?_eq_none (by simp; omega), List.getElem?_eq_none (by simp; omega)]
  rw [hsplit, ← hl1]
  refine chain_app hd _ l1 h2 r fun g' a' w' hx' r' => ?_
  rw [wpOps_cons]
  unfold wpOp
  rw [hops]
  have hw : Region.wanted o (yielded ops a'.tmps) = true := by unfold Region.wanted; rw [hg]
  simp only [hw, if_true]
  obtain ⟨a1, ⟨cc, a2⟩, a3, i, jj, t1, t2', k1, k2, k3, k4, k6, k8, k9⟩ := hA
  obtain ⟨q, cv, w2, g2, hrun, hx2, hr2, hv2⟩ := append_box (ρc := a'.eval) (ρ := av c.env σ1.tm) r'.rel (fun x => rv_av r' x) hop t1 t2' a1 a2 a3 hnone k1 k2 k3 k4 k6 k8 k9
  refine .inl ?_
  simp only [Oper.wp, hrun, Oper.upon_value]
  have r2 := r'.put hx2 (d := o.dst) (fun t ht => dstOk_at hd hops t ht) hr2 hv2
  obtain ⟨l3, σ3, h3, h4, h5⟩ := aops_pre (ops.toList.drop (j + 1)) (j + 1) [] _ (fun i o h => by
    rw [List.getElem?_drop] at h
    simpa using h) (hq q)
  have hl3 : l3.map (·.1) = (List.range (ops.size - (j + 1))).map (j + 1 + ·) := by
    rw [h3, List.length_drop]; simp
  rw [← hl3]
  exact chain_ops hd l3 h4 r2 fun g3 a3 w3 hx3 r3 => h5 okk hm g3 a3 w3 (((hx.trans hx').trans hx2).trans hx3) r3

/-- A value when the box of its row becomes immutable. -/
def Fz (id : Id) (n : Nat) (rows : List (List V)) (v v' : V) : Prop := v' = .undef ∨ v' = v ∨ (v = .slb id n ∧ v' = .sl .any rows)

theorem RV.freeze {g g' : G} {w : World} {S : Id → Prop} (hl : ∀ b, g.lim b ≤ g'.lim b) (hS : ∀ id, S id → g'.dom id = true ∧ g'.loc id = g.loc id ∧ g'.buf id = g.buf id)
    {c : Value} {v : V} (h : RV g w c v) (hin : InV S v) : RV g' w c v := by
  induction h with
  | undef c => exact .undef c
  | bool b => exact .bool b
  | int k n => exact .int k n
  | str s => exact .str s
  | agg vs cs h _ ih => rw [InV] at hin; exact .agg vs cs h fun i c v hc hv => ih i c v hc hv (InL_get hin hv)
  | tup vs cs h _ ih => rw [InV] at hin; exact .tup vs cs h fun i c v hc hv => ih i c v hc hv (InL_get hin hv)
  | sl a cap c es k cell hk hcap hrun _ hc ih =>
    rw [InV] at hin
    refine .sl a cap c es k cell hk hcap (fun hne => ?_) (fun i v hv => ih i v hv (InL_get (InLL_flat.1 hin.2) hv)) ?_
    · obtain ⟨b, off, e, h1, h2⟩ := hrun hne
      exact ⟨b, off, e, Nat.le_trans h1 (hl b), h2⟩
    cases c with
    | any => trivial
    | full => exact hc
    | own id =>
      obtain ⟨a1, a2, a3⟩ := hS id hin.1
      exact ⟨a1, by rw [a3]; exact hc.2⟩
  | ptr id off h => rw [InV] at hin; rw [← (hS id hin).2.1]; exact .ptr id off (hS id hin).1
  | slb id n cap h h2 => rw [InV] at hin; rw [← (hS id hin).2.1]; exact .slb id n cap (hS id hin).1 h2
  | el b off cs o cell hlm hrun _ ih => rw [InV] at hin; exact .el b off cs o cell (Nat.le_trans hlm (hl b)) hrun fun i v hv => ih i v hv (InL_get hin hv)
  | nilp => exact .nilp
  | fn f fs cs fs' cs' h1 h2 _ _ ih1 ih2 =>
    rw [InV] at hin
    exact .fn f fs cs fs' cs' h1 h2 (fun i c v hc hv => ih1 i c v hc hv (InL_get hin.1 hv)) (fun i c v hc hv => ih2 i c v hc hv (InL_get hin.2 hv))
  | nilf => exact .nilf
  | iface t c v _ ih => rw [InV] at hin; exact .iface t c v (ih hin)
  | nili => exact .nili

/-- A row that was stored into becomes immutable; what is kept must not mention its box. -/
theorem AR_freeze {c : Ctx} {gen : Nat} {k : List It} {e : Exit} {σ : St} (id : Id) {n kk : Nat} {rows : List (List V)} {cs : List V} {tm' : Nat → V} {h' : H}
    (hrel0 : Rel c.env c.g0 c.w0 c.h0) (hb : σ.h id = some (.box cs)) (hrows : cs.take (n * kk) = rows.flatten) (hlen : rows.length = n) (hk : ∀ r ∈ rows, r.length = kk) (hle : n * kk ≤ cs.length)
    (hrin : InLL (fun j => h' j ≠ none) rows) (hid : h' id = none)
    (hh : ∀ j, h' j ≠ none → (h' j = σ.h j ∧ ∀ bs, h' j = some (.box bs) → c.h0 j = some (.box bs)) ∨
      ∃ bs bs', σ.h j = some (.box bs) ∧ h' j = some (.box bs') ∧ bs.length = bs'.length ∧ (∀ (i : Nat) v v', bs[i]? = some v → bs'[i]? = some v' → Fz id n rows v v') ∧ InL (fun j => h' j ≠ none) bs')
    (hdom : ∀ j, c.h0 j ≠ none → h' j ≠ none) (htm : ∀ t, Fz id n rows (σ.tm t) (tm' t) ∧ InV (fun j => h' j ≠ none) (tm' t))
    (h : AR c gen k e ⟨tm', h'⟩) : AR c gen k e σ := by
  intro ok hm g a w hx r
  have q := r.rel
  obtain ⟨vs, ⟨ty, b1⟩, b2, b3, b4, b5⟩ := q.box id cs hb
  let g' : G := { g with dom := fun j => decide (h' j ≠ none), lim := fun b => if b = g.loc id then n * kk else g.lim b }
  have hl : ∀ b, g.lim b ≤ g'.lim b := fun b => by
    show g.lim b ≤ if b = g.loc id then n * kk else g.lim b
    split
    · rename_i e; rw [e, b4]; omega
    · exact Nat.le_refl _
  have hlo : ∀ b, b ≠ g.loc id → g'.lim b = g.lim b := fun b hb => by show (if b = g.loc id then _ else g.lim b) = _; rw [if_neg hb]
  have hS : ∀ j, h' j ≠ none → g'.dom j = true ∧ g'.loc j = g.loc j ∧ g'.buf j = g.buf j := fun j hj => ⟨by show decide (h' j ≠ none) = true; simpa using hj, rfl, rfl⟩
  have hmv : ∀ {c : Value} {v : V}, RV g w c v → InV (fun j => h' j ≠ none) v → RV g' w c v := fun h1 h2 => h1.freeze hl hS h2
  have hsame : ∀ j, h' j ≠ none → ∃ ob, σ.h j = some ob := fun j hj => by
    rcases hh j hj with ⟨h1, _⟩ | ⟨bs, bs', h1, _⟩
    · rw [← h1]; cases hj' : h' j with
      | none => exact absurd hj' hj
      | some ob => exact ⟨ob, rfl⟩
    · exact ⟨_, h1⟩
  have hx' : Ext c.g0 c.w0 g' w := by
    refine ⟨hx.os, hx.tape, hx.output, hx.size, fun b => Nat.le_trans (hx.lim b) (hl b), hx.cells, hx.wr, fun j hj => ?_, hx.top⟩
    obtain ⟨_, a2, a3⟩ := hx.dom j hj
    exact ⟨by show decide (h' j ≠ none) = true; simpa using hdom j ((hrel0.dom j).1 hj), a2, a3⟩
  have hrow : ∀ cap, n ≤ cap → RV g' w (.slice (some ⟨g.loc id, 0, none⟩) n cap) (.sl .any rows) := fun cap hcap => by
    have hfl := flat_len rows kk hk
    rw [hlen] at hfl
    rw [← hlen]
    refine .sl _ cap .any rows kk (fun i => vs[i]?.getD undef) hk (by omega) (fun _ => ⟨g.loc id, 0, rfl, ?_, fun i hi => ?_⟩) (fun i v hv => ?_) trivial
    · show 0 + _ ≤ if g.loc id = g.loc id then n * kk else _
      rw [if_pos rfl, hlen]; omega
    · rw [Nat.zero_add]
      have : i < vs.size := by rw [b2]; rw [hlen] at hi; omega
      simp [World.cell?, b1, this]
    · have hv' : cs[i]? = some v := by
        rw [← hrows, List.getElem?_take] at hv
        split at hv
        · exact hv
        · cases hv
      obtain ⟨c0, hc1, hc2⟩ := (show RVL g w vs cs from ⟨b2, b3⟩).at hv'
      simp only [hc1, Option.getD_some]
      exact hmv hc2 (InL_get (InLL_flat.1 hrin) hv)
  have hfz : ∀ {cv : Value} {v v' : V}, RV g w cv v → Fz id n rows v v' → InV (fun j => h' j ≠ none) v' → RV g' w cv v' := by
    intro cv v v' h1 h2 h3
    rcases h2 with rfl | rfl | ⟨rfl, rfl⟩
    · exact .undef _
    · exact hmv h1 h3
    · cases h1 with
      | slb _ _ cap _ hcap => exact hrow cap hcap
  have hboxes : ∀ j bs', h' j = some (.box bs') → ∃ bs, σ.h j = some (.box bs) ∧ bs.length = bs'.length ∧ ∀ (vs : Array Value), RVL g w vs bs → RVL g' w vs bs' := by
    intro j bs' e'
    rcases hh j (by rw [e']; simp) with ⟨h1, h2⟩ | ⟨bs, bs2, h1, h2, h3, h4, h5⟩
    · have h0 := h2 bs' e'
      refine ⟨bs', by rw [← h1]; exact e', rfl, fun vs hv => ⟨hv.1, fun i cv v hc hv' => hmv (hv.2 i cv v hc hv') ?_⟩⟩
      obtain ⟨vs0, _, z2, z3, _⟩ := hrel0.box j bs' h0
      obtain ⟨c0, hc0⟩ := RVL_get (g := c.g0) (w := c.w0) z2 hv'
      have := (z3 i c0 v hc0 hv').inV
      exact InV_mono (fun id hid => hdom id ((hrel0.dom id).1 hid)) v this
    · rw [e'] at h2; cases h2
      refine ⟨bs, h1, h3, fun vs hv => ⟨by rw [hv.1, h3], fun i cv v hc hv' => ?_⟩⟩
      have hi : i < bs.length := by rw [h3]; exact (List.getElem?_eq_some_iff.1 hv').1
      have hbi : bs[i]? = some bs[i] := List.getElem?_eq_getElem hi
      exact hfz (hv.2 i cv _ hc hbi) (h4 i _ _ hbi hv') (InL_get h5 hv')
  have hne : ∀ j bs', h' j = some (.box bs') → g.loc j ≠ g.loc id := fun j bs' e' e2 => by
    obtain ⟨bs, h1, _⟩ := hboxes j bs' e'
    have := q.inj j id bs cs h1 hb e2
    rw [this, hid] at e'; cases e'
  have htok : ∀ j n' k', h' j = some (.tok n' k') → σ.h j = some (.tok n' k') := fun j n' k' e' => by
    rcases hh j (by rw [e']; simp) with ⟨h1, _⟩ | ⟨bs, bs2, _, h2, _⟩
    · rw [← h1]; exact e'
    · rw [e'] at h2; cases h2
  refine h ok hm g' a w hx' ⟨?_, fun t => ?_, r.size, r.defers⟩
  · refine ⟨fun j => by show decide (h' j ≠ none) = true ↔ _; simp, fun j hj => ?_, ?_, ?_, ?_, ?_, ?_, ?_, ?_⟩
    · obtain ⟨ob, ho⟩ := hsame j hj
      exact q.top j (by rw [ho]; simp)
    · intro j bs' e'
      obtain ⟨bs, h1, h2, h3⟩ := hboxes j bs' e'
      obtain ⟨vs', c1, c2, c3, c4, c5⟩ := q.box j bs h1
      have := h3 vs' ⟨c2, c3⟩
      exact ⟨vs', c1, this.1, this.2, by show g'.lim (g.loc j) = 0; rw [hlo _ (hne j bs' e')]; exact c4, c5⟩
    · intro i1 i2 c1 c2 e1 e2 e3
      obtain ⟨d1, f1, _⟩ := hboxes i1 c1 e1
      obtain ⟨d2, f2, _⟩ := hboxes i2 c2 e2
      exact q.inj i1 i2 d1 d2 f1 f2 e3
    · intro j n' k' e'
      obtain ⟨h1, h2, h3, hk⟩ := q.tok j n' k' (htok j n' k' e')
      refine ⟨h1, h2, fun hlt => ?_, hk⟩
      obtain ⟨b, off, vs', s1, s2, s3, s4, s5⟩ := h3 hlt
      have := q.apart j id n' k' cs (htok j n' k' e') hlt hb _ s1
      exact ⟨b, off, vs', s1, s2, s3, by rw [hlo b this]; exact s4, s5⟩
    · intro i1 i2 n' k' c' e1 hlt e2
      obtain ⟨d2, f2, _⟩ := hboxes i2 c' e2
      exact q.apart i1 i2 n' k' d2 (htok i1 n' k' e1) hlt f2
    · intro i1 i2 n1 n2 k1 k2 e1 hlt e2 hlt2
      exact q.apart2 i1 i2 n1 n2 k1 k2 (htok _ _ _ e1) hlt (htok _ _ _ e2) hlt2
    · intro b hb'
      rw [hlo b (by have := q.lt hb; omega)]; exact q.limnew b hb'
    · intro k cs' e'
      refine hmv (q.glob k cs' e') ?_
      have := (hrel0.glob k cs' e').inV
      exact InV_mono (fun id hid => hdom id ((hrel0.dom id).1 hid)) _ this
  · exact hfz (r.tm t) (htm t).1 (htm t).2

/-- As 'AR_freeze', with lists: the values and the boxes that are kept. -/
theorem AR_freezeL {c : Ctx} {gen : Nat} {k : List It} {e : Exit} {σ : St} (id : Id) (n kk : Nat) (rows : List (List V)) (L : List (Nat × V)) (B : List (Id × List V × List V)) {cs : List V} {h' : H} {tm' : Nat → V}
    (hh' : h' = B.foldr (fun b h => hset h b.1 (.box b.2.2)) c.h0) (htm' : tm' = L.foldr (fun p tm => upd tm (some p.1) p.2) (fun _ => .undef))
    (hrel0 : Rel c.env c.g0 c.w0 c.h0) (hb : σ.h id = some (.box cs)) (hrows : cs.take (n * kk) = rows.flatten) (hlen : rows.length = n) (hk : ∀ r ∈ rows, r.length = kk) (hle : n * kk ≤ cs.length)
    (h0 : c.h0 id = none) (hnot : ∀ b ∈ B, b.1 ≠ id) (hag : Agree c.h0 σ.h)
    (hrin : InLL (fun j => h' j ≠ none) rows)
    (hB : ∀ b ∈ B, c.h0 b.1 = none ∧ σ.h b.1 = some (.box b.2.1) ∧ b.2.1.length = b.2.2.length ∧ (∀ p ∈ b.2.1.zip b.2.2, Fz id n rows p.1 p.2) ∧ InL (fun j => h' j ≠ none) b.2.2)
    (hL : ∀ p ∈ L, Fz id n rows (σ.tm p.1) p.2 ∧ InV (fun j => h' j ≠ none) p.2)
    (h : AR c gen k e ⟨tm', h'⟩) : AR c gen k e σ := by
  have key : ∀ (B' : List (Id × List V × List V)) (j : Id), (B'.foldr (fun b h => hset h b.1 (.box b.2.2)) c.h0) j = c.h0 j ∨ ∃ b ∈ B', b.1 = j ∧ (B'.foldr (fun b h => hset h b.1 (.box b.2.2)) c.h0) j = some (.box b.2.2) := by
    intro B' j
    induction B' with
    | nil => exact .inl rfl
    | cons b B' ih =>
      by_cases hj : j = b.1
      · right; exact ⟨b, by simp, hj.symm, by simp only [List.foldr_cons]; rw [hj, hset_same]⟩
      · simp only [List.foldr_cons]
        rw [hset_other hj]
        rcases ih with h | ⟨b', h1, h2, h3⟩
        · exact .inl h
        · exact .inr ⟨b', by simp [h1], h2, h3⟩
  have keyT : ∀ (L' : List (Nat × V)) (t : Nat), (L'.foldr (fun p tm => upd tm (some p.1) p.2) (fun _ => V.undef)) t = .undef ∨ ∃ p ∈ L', p.1 = t ∧ (L'.foldr (fun p tm => upd tm (some p.1) p.2) (fun _ => V.undef)) t = p.2 := by
    intro L' t
    induction L' with
    | nil => exact .inl rfl
    | cons p L' ih =>
      simp only [List.foldr_cons, upd]
      by_cases ht : t = p.1
      · right; exact ⟨p, by simp, ht.symm, by rw [if_pos ht]⟩
      · rw [if_neg ht]
        rcases ih with h | ⟨b', h1, h2, h3⟩
        · exact .inl h
        · exact .inr ⟨b', by simp [h1], h2, h3⟩
  refine AR_freeze id hrel0 hb hrows hlen hk hle hrin ?_ ?_ ?_ ?_ h
  · rcases key B id with h1 | ⟨b, h1, h2, _⟩
    · rw [hh', h1]; exact h0
    · exact absurd h2 (hnot b h1)
  · intro j hj
    rcases key B j with h1 | ⟨b, h1, h2, h3⟩
    · left
      have e1 : h' j = c.h0 j := by rw [hh']; exact h1
      rw [e1] at hj ⊢
      exact ⟨(hag j hj).symm, fun bs hbs => hbs⟩
    · right
      obtain ⟨_, b1, b2, b3, b4⟩ := hB b h1
      subst h2
      refine ⟨_, _, b1, by rw [hh']; exact h3, b2, fun i v v' hv hv' => ?_, b4⟩
      refine b3 (v, v') ?_
      have : (b.2.1.zip b.2.2)[i]? = some (v, v') := by rw [List.getElem?_zip_eq_some]; exact ⟨hv, hv'⟩
      exact List.mem_of_getElem? this
  · intro j hj
    rcases key B j with h1 | ⟨b, h1, h2, h3⟩
    · rw [hh', h1]; exact hj
    · rw [hh', h3]; simp
  · intro t
    rcases keyT L t with h1 | ⟨p, h1, h2, h3⟩
    · rw [htm', h1]; exact ⟨.inl rfl, by rw [InV]; trivial⟩
    · subst h2
      rw [htm', h3]; exact hL p h1
end GoAbs

namespace GoAbs
open Go

theorem ta_W {t : Tm} (h : TmW t) (i : Nat) : TmW (ta t i) := by
  unfold ta
  cases hh : t.args[i]? with
  | none => rw [List.getD_eq_getElem?_getD, hh]; exact zeroT_W
  | some x => rw [List.getD_eq_getElem?_getD, hh]; exact h.arg (List.mem_of_getElem? hh)
theorem tm_upW {b : Int} : ∀ (t : Tm) (fr : Int), TmW t → TmW (t.up b fr) := by
  intro t
  induction t using Tm.ind with | h t ih => ?_
  intro fr ht
  rw [Tm.up_eq]
  refine .mk _ _ _ _ ht.ty (by rw [List.length_map]; exact ht.len) ?_
  intro x hx
  obtain ⟨y, hy, rfl⟩ := List.mem_map.1 hx
  exact ih y hy _ (ht.arg hy)
theorem tm_innW {s : Tm} (hs : TmW s) {a : Int} : ∀ (t : Tm) (d : Int), TmW t → TmW (tmInn s a t d) := by
  intro t
  induction t using Tm.ind with | h t ih => ?_
  intro d ht
  rw [tmInn_eq]
  repeat' split
  · exact tm_upW _ _ hs
  · exact tmVar_W _
  · exact ht
  · refine .mk _ _ _ _ ht.ty (by rw [List.length_map]; exact ht.len) ?_
    intro x hx
    obtain ⟨y, hy, rfl⟩ := List.mem_map.1 hx
    exact ih y hy _ (ht.arg hy)
theorem red_W {t : Tm} (h : TmW t) : TmW t.red := by
  have w0 := ta_W h 0
  have w1 := ta_W h 1
  have w2 := ta_W h 2
  unfold Tm.red
  repeat' split
  · exact tm_innW w1 _ _ (ta_W w0 0)
  · exact w0
  · exact tm0_W2 (tm0_W2 w1 (ta_W w2 0)) (tmT_W3 h.ty w0 w1 (ta_W w2 0))
  · exact w0
  · exact tm0_W2 (tm0_W2 (tm0_W2 w1 (ta_W w2 0)) (ta_W w2 1)) (tmT_W3 h.ty w0 w1 (ta_W w2 1))
  · exact ta_W w0 0
  · exact ta_W w0 1
mutual
theorem nx_W {gr : Tm → Int} {room : Int} : ∀ t : Tm, TmW t → TmW (t.nx gr room).1
  | .mk k i ty l, h => by
    rw [Tm.nx]
    split
    · split
      · exact zeroT_W
      · exact red_W h
    · cases hl : Tm.nxL gr room l with
      | none => exact h
      | some p =>
        obtain ⟨h1, h2⟩ := nxL_W l (fun x hx => h.arg hx) p hl
        exact .mk _ _ _ _ h.ty (by rw [h1]; exact h.len) h2
theorem nxL_W {gr : Tm → Int} {room : Int} : ∀ l : List Tm, (∀ x ∈ l, TmW x) → ∀ p, Tm.nxL gr room l = some p → p.1.length = l.length ∧ ∀ x ∈ p.1, TmW x
  | [], _, p, h => by rw [Tm.nxL] at h; cases h
  | a :: l, hw, p, h => by
    rw [Tm.nxL] at h
    split at h
    · cases h
      refine ⟨by simp, fun x hx => ?_⟩
      rcases List.mem_cons.1 hx with rfl | hx
      · exact nx_W a (hw a (by simp))
      · exact hw x (by simp [hx])
    · cases hl : Tm.nxL gr room l with
      | none => rw [hl] at h; cases h
      | some q =>
        rw [hl] at h
        cases h
        obtain ⟨h1, h2⟩ := nxL_W l (fun x hx => hw x (by simp [hx])) q hl
        refine ⟨by simp [h1], fun x hx => ?_⟩
        rcases List.mem_cons.1 hx with rfl | hx
        · exact hw _ (by simp)
        · exact h2 x hx
end

/-- The search for a redex has come to a place. -/
def nxAt (gr : Tm → Int) (room : Int) (l : List Tm) (i : Nat) : Prop :=
  Tm.nxL gr room l = match Tm.nxL gr room (l.drop i) with | some p => some (l.take i ++ p.1, p.2) | none => none
theorem nxAt_0 {gr : Tm → Int} {room : Int} {l : List Tm} : nxAt gr room l 0 := by
  unfold nxAt
  cases h : Tm.nxL gr room l <;> simp [h]
theorem nxAt_next {gr : Tm → Int} {room : Int} {l : List Tm} {i : Nat} {x : Tm} (h : nxAt gr room l i) (hx : l[i]? = some x) (hn : (x.nx gr room).2.1 = false) : nxAt gr room l (i + 1) := by
  unfold nxAt at h ⊢
  rw [drop_get hx, Tm.nxL, hn] at h
  simp only [Bool.false_eq_true, if_false] at h
  rw [h]
  cases hl : Tm.nxL gr room (l.drop (i + 1)) with
  | none => rfl
  | some p => simp only [List.take_add_one, hx, Option.toList_some, List.append_assoc, List.singleton_append]
theorem nxAt_found {gr : Tm → Int} {room : Int} {l : List Tm} {i : Nat} {x : Tm} (h : nxAt gr room l i) (hx : l[i]? = some x) (hn : (x.nx gr room).2.1 = true) :
    Tm.nxL gr room l = some (l.set i (x.nx gr room).1, (x.nx gr room).2.2) := by
  unfold nxAt at h
  rw [drop_get hx, Tm.nxL, hn] at h
  simp only [if_true] at h
  rw [h, List.set_eq_take_append_cons_drop, if_pos (List.getElem?_eq_some_iff.1 hx).1]
theorem nxAt_end {gr : Tm → Int} {room : Int} {l : List Tm} (h : nxAt gr room l l.length) : Tm.nxL gr room l = none := by
  unfold nxAt at h
  rw [List.drop_length] at h
  rw [h, Tm.nxL]
theorem nx_mk {gr : Tm → Int} {room : Int} {t : Tm} (hr : t.root = false) :
    t.nx gr room = match Tm.nxL gr room t.args with | some p => (.mk t.kind t.index t.type p.1, true, p.2) | none => (t, false, true) := by
  obtain ⟨k, i, ty, l⟩ := t
  rw [Tm.nx, hr]; rfl
theorem HasTy.args {Q : Ty → Prop} {g : List Ty} {t : Tm} {s : Ty} (h : HasTy Q g t s) : ∀ x ∈ t.args, ∃ g' s', HasTy Q g' x s' := by
  cases h with
  | var => intro x hx; simp [tmVar, Tm.args] at hx
  | lam _ h1 => intro x hx; simp [tmT, Tm.args] at hx; subst hx; exact ⟨_, _, h1⟩
  | n0 => intro x hx; simp [tmT, Tm.args] at hx
  | n1 _ h1 => intro x hx; simp [tmT, Tm.args] at hx; subst hx; exact ⟨_, _, h1⟩
  | n2 _ h1 h2 => intro x hx; simp [tmT, Tm.args] at hx; rcases hx with rfl | rfl; exact ⟨_, _, h1⟩; exact ⟨_, _, h2⟩
  | n3 _ h1 h2 h3 => intro x hx; simp [tmT, Tm.args] at hx; rcases hx with rfl | rfl | rfl; exact ⟨_, _, h1⟩; exact ⟨_, _, h2⟩; exact ⟨_, _, h3⟩

theorem flat5 (l : List Tm) : (l.map Tm.cells).flatten.length = l.length * 5 := by
  induction l with
  | nil => rfl
  | cons a l ih => simp only [List.map_cons, List.flatten_cons, List.length_append, Tm.cells_len, ih, List.length_cons]; omega
/-- The row after the store. -/
theorem take_splice {l : List Tm} {i : Nat} {x : Tm} {z : List V} (hi : i < l.length) :
    (splice ((l.map Tm.cells).flatten ++ z) (i * 5) x.cells).take (l.length * 5) = ((l.set i x).map Tm.cells).flatten := by
  have hf := flat5 l
  have hx := Tm.cells_len x
  have e1 : ((l.map Tm.cells).flatten ++ z).length = l.length * 5 + z.length := by rw [List.length_append, hf]
  rw [splice_eq x.cells (i * 5) _ (by rw [e1, hx]; omega), hx]
  have ht : ((l.take i).map Tm.cells).flatten.length = i * 5 := by rw [flat5, List.length_take, Nat.min_eq_left (by omega)]
  have hd : (l.map Tm.cells).flatten = ((l.take i).map Tm.cells).flatten ++ (l[i].cells ++ ((l.drop (i + 1)).map Tm.cells).flatten) := by
    conv => lhs; rw [← List.take_append_drop i l]
    rw [List.map_append, List.flatten_append, List.drop_eq_getElem_cons hi, List.map_cons, List.flatten_cons]
  have hl := Tm.cells_len l[i]
  rw [List.set_eq_take_append_cons_drop, if_pos hi, List.map_append, List.flatten_append, List.map_cons, List.flatten_cons]
  have hdl : ((l.drop (i + 1)).map Tm.cells).flatten.length = (l.length - (i + 1)) * 5 := by rw [flat5, List.length_drop]
  have a1 : ((l.map Tm.cells).flatten ++ z).take (i * 5) = ((l.take i).map Tm.cells).flatten := by
    rw [hd, List.append_assoc, ← ht, List.take_left]
  have a2 : ((l.map Tm.cells).flatten ++ z).drop (i * 5 + 5) = ((l.drop (i + 1)).map Tm.cells).flatten ++ z := by
    rw [hd, List.append_assoc, List.append_assoc, ← List.append_assoc]
    have : (((l.take i).map Tm.cells).flatten ++ l[i].cells).length = i * 5 + 5 := by rw [List.length_append, ht, hl]
    rw [← this, List.drop_left]
  rw [a1, a2]
  have b : (((l.take i).map Tm.cells).flatten ++ x.cells ++ ((l.drop (i + 1)).map Tm.cells).flatten).length = l.length * 5 := by
    rw [List.length_append, List.length_append, ht, hx, hdl]
    have : l.length = i + 1 + (l.length - (i + 1)) := by omega
    generalize l.length - (i + 1) = m at *
    omega
  rw [← List.append_assoc, ← b, List.take_left, List.append_assoc]
end GoAbs
namespace GoAbs
def nxR (t : Tm) : Option (List Tm × Bool) → Tm × Bool × Bool
  | some p => (.mk t.kind t.index t.type p.1, true, p.2)
  | none => (t, false, true)
theorem nx_nxR {gr : Tm → Int} {room : Int} {t : Tm} (hr : t.root = false) : t.nx gr room = nxR t (Tm.nxL gr room t.args) := by
  rw [nx_mk hr]; cases Tm.nxL gr room t.args <;> rfl
end GoAbs

namespace GoAbs
open Go

theorem TmG.re {k : Int} {t : Ty} {l l' : List Tm} (h : TmG (tmT k t l)) (hl : l'.length = l.length) (ha : ∀ x ∈ l', TmG x) : TmG (tmT k t l') := by
  generalize e : tmT k t l = u at h
  cases h with
  | plain hA hB hC _ =>
    simp only [tmT, tm0, Tm.mk.injEq] at e
    obtain ⟨rfl, _, rfl, rfl⟩ := e
    exact .plain hA (by rw [hl]; exact hB) hC ha
  | var hi =>
    simp only [tmT, tmVar, Tm.mk.injEq] at e
    obtain ⟨rfl, rfl, rfl, rfl⟩ := e
    have : l' = [] := by cases l' with
      | nil => rfl
      | cons _ _ => simp at hl
    subst this
    exact .var (by omega)
  | typd hA hB hC hg _ =>
    simp only [tmT, Tm.mk.injEq] at e
    obtain ⟨rfl, _, rfl, rfl⟩ := e
    exact .typd hA (by rw [hl]; exact hB) hC hg ha
theorem TmG.subs {k : Int} {t : Ty} {l : List Tm} (h : TmG (tmT k t l)) : ∀ x ∈ l, TmG x := fun x hx => h.arg (by simpa [tmT, Tm.args] using hx)

theorem pUp_G {b : Int} (hb : 0 ≤ b) {t : Tm} (h : TmG t) : ∀ c : Int, 0 ≤ c → TmG (pUp b t c) := by
  refine TmG.nd (P := fun t _ => ∀ c : Int, 0 ≤ c → TmG (pUp b t c)) ?_ ?_ h
  · intro i hi c hc
    rw [pUp_var]
    split
    · exact .var (by omega)
    · exact .var hi
  · intro k t l hk hl ht ih c hc
    rw [pUp_node hk]
    have := below_nn k
    refine ht.re (by simp) fun x hx => ?_
    obtain ⟨y, hy, rfl⟩ := List.mem_map.1 hx
    exact ih y hy _ (by omega)
theorem pIn_G {s : Tm} (hs : TmG s) {t : Tm} (h : TmG t) : ∀ e : Int, 0 ≤ e → TmG (pIn s t e) := by
  refine TmG.nd (P := fun t _ => ∀ e : Int, 0 ≤ e → TmG (pIn s t e)) ?_ ?_ h
  · intro i hi e he
    rw [pIn_var]
    split
    · exact pUp_G he hs 0 (by omega)
    · split
      · exact .var (by omega)
      · exact .var hi
  · intro k t l hk hl ht ih e he
    rw [pIn_node hk]
    have := below_nn k
    refine ht.re (by simp) fun x hx => ?_
    obtain ⟨y, hy, rfl⟩ := List.mem_map.1 hx
    exact ih y hy _ (by omega)

theorem pUp_swap {a b : Int} (ha : 0 ≤ a) (hb : 0 ≤ b) {t : Tm} (h : TmG t) : ∀ d c : Int, 0 ≤ d → d ≤ c → pUp b (pUp a t d) (c + a) = pUp a (pUp b t c) d := by
  refine TmG.nd (P := fun t _ => ∀ d c : Int, 0 ≤ d → d ≤ c → pUp b (pUp a t d) (c + a) = pUp a (pUp b t c) d) ?_ ?_ h
  · intro i hi d c hd hc
    rw [pUp_var, pUp_var, pUp_var, pUp_var]
    congr 1
    repeat' split
    all_goals omega
  · intro k t l hk hl ht ih d c hd hc
    rw [pUp_node hk, pUp_node hk, pUp_node hk, pUp_node hk, List.map_map, List.map_map]
    congr 1
    refine List.map_congr_left fun x hx => ?_
    have := below_nn k
    simp only [Function.comp]
    have e : c + a + tmBelow k = c + tmBelow k + a := by omega
    rw [e]
    exact ih x hx _ _ (by omega) (by omega)
theorem pUp_inU {b : Int} (hb : 0 ≤ b) {s : Tm} (hs : TmG s) {t : Tm} (h : TmG t) : ∀ c e : Int, 0 ≤ e → e ≤ c → pUp b (pIn s t e) c = pIn (pUp b s (c - e)) (pUp b t (c + 1)) e := by
  refine TmG.nd (P := fun t _ => ∀ c e : Int, 0 ≤ e → e ≤ c → pUp b (pIn s t e) c = pIn (pUp b s (c - e)) (pUp b t (c + 1)) e) ?_ ?_ h
  · intro i hi c e he hc
    rw [pIn_var, pUp_var, pIn_var]
    by_cases h1 : i = e
    · subst h1
      rw [if_pos rfl, if_neg (show ¬ i ≥ c + 1 by omega), if_pos rfl]
      have := pUp_swap (a := i) (b := b) he hb hs 0 (c - i) (by omega) (by omega)
      rw [show c - i + i = c by omega] at this
      exact this
    · rw [if_neg h1]
      by_cases h2 : i > e
      · rw [if_pos h2, pUp_var]
        by_cases h3 : i ≥ c + 1
        · rw [if_pos h3, if_pos (by omega), if_neg (by omega), if_pos (by omega)]
          congr 1; omega
        · rw [if_neg h3, if_neg (by omega), if_neg h1, if_pos h2]
      · rw [if_neg h2, pUp_var, if_neg (show ¬ i ≥ c by omega), if_neg (show ¬ i ≥ c + 1 by omega), if_neg h1, if_neg h2]
  · intro k t l hk hl ht ih c e he hc
    rw [pIn_node hk, pUp_node hk, pUp_node hk, pIn_node hk, List.map_map, List.map_map]
    congr 1
    refine List.map_congr_left fun x hx => ?_
    have := below_nn k
    simp only [Function.comp]
    have := ih x hx (c + tmBelow k) (e + tmBelow k) (by omega) (by omega)
    rw [show c + tmBelow k - (e + tmBelow k) = c - e by omega] at this
    rw [this]
    congr 2; omega

/-- What a redex becomes. -/
inductive Rdx : Int → Ty → List Tm → Tm → Prop
  | beta {ty ty' : Ty} {b a : Tm} : Rdx 3 ty [tmT 2 ty' [b], a] (pIn a b 0)
  | rec0 {ty ty' : Ty} {z f : Tm} : Rdx 6 ty [z, f, tmT 4 ty' []] z
  | recS {ty ty' : Ty} {z f n : Tm} : Rdx 6 ty [z, f, tmT 5 ty' [n]] (tm0 3 [tm0 3 [f, n], tmT 6 ty [z, f, n]])
  | fold0 {ty ty' : Ty} {z f : Tm} : Rdx 9 ty [z, f, tmT 7 ty' []] z
  | foldS {ty ty' : Ty} {z f h l : Tm} : Rdx 9 ty [z, f, tmT 8 ty' [h, l]] (tm0 3 [tm0 3 [tm0 3 [f, h], l], tmT 9 ty [z, f, l]])
  | fst {ty ty' : Ty} {x y : Tm} : Rdx 11 ty [tmT 10 ty' [x, y]] x
  | snd {ty ty' : Ty} {x y : Tm} : Rdx 12 ty [tmT 10 ty' [x, y]] y

/-- Redexes that stand side by side are reduced at once. -/
inductive Par : Tm → Tm → Prop
  | var (i : Int) : Par (tmVar i) (tmVar i)
  | cong {k : Int} {ty : Ty} {l l' : List Tm} (hk : k ≠ 1) (hl : l.length = l'.length) (h : ∀ (i : Nat) x x', l[i]? = some x → l'[i]? = some x' → Par x x') : Par (tmT k ty l) (tmT k ty l')
  | red {k : Int} {ty : Ty} {l l' : List Tm} {r r' : Tm} (hl : l.length = l'.length) (h : ∀ (i : Nat) x x', l[i]? = some x → l'[i]? = some x' → Par x x')
      (hr : Rdx k ty l r) (hr' : Rdx k ty l' r') : Par (tmT k ty l) r'

theorem Par.refl {t : Tm} (h : TmG t) : Par t t := by
  refine TmG.nd (P := fun t _ => Par t t) ?_ ?_ h
  · intro i hi; exact .var i
  · intro k t l hk hl ht ih
    refine .cong hk rfl fun i x x' h1 h2 => ?_
    rw [h1] at h2; cases h2
    exact ih x (List.mem_of_getElem? h1)

theorem Rdx.kind {k : Int} {ty : Ty} {l : List Tm} {r : Tm} (h : Rdx k ty l r) : k = 3 ∨ k = 6 ∨ k = 9 ∨ k = 11 ∨ k = 12 := by cases h <;> simp
theorem Rdx.below {k : Int} {ty : Ty} {l : List Tm} {r : Tm} (h : Rdx k ty l r) : tmBelow k = 0 := by cases h <;> rfl
theorem Rdx.ne {k : Int} {ty : Ty} {l : List Tm} {r : Tm} (h : Rdx k ty l r) : k ≠ 1 := by cases h <;> decide
theorem G2 {f a : Tm} (hf : TmG f) (ha : TmG a) : TmG (tm0 3 [f, a]) := .plain (a := 2) rfl rfl rfl (by simp [hf, ha])
theorem Rdx.G {k : Int} {ty : Ty} {l : List Tm} {r : Tm} (h : Rdx k ty l r) (hG : TmG (tmT k ty l)) : TmG r := by
  have hs := hG.subs
  cases h with
  | @beta _ ty' b a =>
    simp only [List.mem_cons, List.not_mem_nil, or_false, forall_eq_or_imp, forall_eq] at hs
    exact pIn_G hs.2 (hs.1.subs b (by simp)) 0 (by omega)
  | rec0 => exact hs _ (by simp)
  | @recS _ ty' z f n =>
    simp only [List.mem_cons, List.not_mem_nil, or_false, forall_eq_or_imp, forall_eq] at hs
    have hn := hs.2.2.subs n (by simp)
    exact G2 (G2 hs.2.1 hn) (hG.re rfl (by simp [hs.1, hs.2.1, hn]))
  | fold0 => exact hs _ (by simp)
  | foldS =>
    simp only [List.mem_cons, List.not_mem_nil, or_false, forall_eq_or_imp, forall_eq] at hs
    have hh := hs.2.2.subs
    simp only [List.mem_cons, List.not_mem_nil, or_false, forall_eq_or_imp, forall_eq] at hh
    exact G2 (G2 (G2 hs.2.1 hh.1) hh.2) (hG.re rfl (by simp [hs.1, hs.2.1, hh.2]))
  | @fst _ ty' x y => exact (hs (tmT 10 ty' [r, y]) (by simp)).subs r (by simp)
  | @snd _ ty' x y => exact (hs (tmT 10 ty' [x, r]) (by simp)).subs r (by simp)

theorem Par.G {t u : Tm} (h : Par t u) : TmG t → TmG u := by
  have key : ∀ {l l' : List Tm}, l.length = l'.length → (∀ (i : Nat) x x', l[i]? = some x → l'[i]? = some x' → TmG x → TmG x') → (∀ x ∈ l, TmG x) → ∀ x ∈ l', TmG x := by
    intro l l' hl hp hx y hy
    obtain ⟨i, hi, e⟩ := List.mem_iff_getElem.1 hy
    have h1 : l'[i]? = some y := by rw [List.getElem?_eq_getElem hi, e]
    have h2 : l[i]? = some l[i] := List.getElem?_eq_getElem (by omega)
    exact hp i _ _ h2 h1 (hx _ (List.getElem_mem _))
  induction h with
  | var i => exact id
  | cong hk hl hp ih => exact fun hG => hG.re hl.symm (key hl ih hG.subs)
  | red hl hp hr hr' ih => exact fun hG => hr'.G (hG.re hl.symm (key hl ih hG.subs))

theorem map_pt {f g : Tm → Tm} {R : Tm → Tm → Prop} {l l' : List Tm} (hl : l.length = l'.length) (hp : ∀ (i : Nat) x x', l[i]? = some x → l'[i]? = some x' → R (f x) (g x')) :
    (l.map f).length = (l'.map g).length ∧ ∀ (i : Nat) x x', (l.map f)[i]? = some x → (l'.map g)[i]? = some x' → R x x' := by
  refine ⟨by simp [hl], fun i x x' h1 h2 => ?_⟩
  rw [List.getElem?_map] at h1 h2
  cases a1 : l[i]? with
  | none => rw [a1] at h1; cases h1
  | some y =>
    cases a2 : l'[i]? with
    | none => rw [a2] at h2; cases h2
    | some z =>
      rw [a1] at h1; rw [a2] at h2
      cases h1; cases h2
      exact hp i y z a1 a2

theorem pUp_tm0 {b k c : Int} {l : List Tm} (hk : k ≠ 1) : pUp b (tm0 k l) c = tm0 k (l.map fun x => pUp b x (c + tmBelow k)) := pUp_node hk
theorem pIn_tm0 {s : Tm} {k e : Int} {l : List Tm} (hk : k ≠ 1) : pIn s (tm0 k l) e = tm0 k (l.map fun x => pIn s x (e + tmBelow k)) := pIn_node hk
theorem bel2 : tmBelow 2 = 1 := rfl
theorem Rdx.up {b : Int} (hb : 0 ≤ b) {k : Int} {ty : Ty} {l : List Tm} {r : Tm} (h : Rdx k ty l r) (hG : TmG (tmT k ty l)) {c : Int} (hc : 0 ≤ c) : Rdx k ty (l.map fun x => pUp b x c) (pUp b r c) := by
  have hs := hG.subs
  cases h with
  | @beta _ ty' b0 a =>
    simp only [List.mem_cons, List.not_mem_nil, or_false, forall_eq_or_imp, forall_eq] at hs
    rw [pUp_inU hb hs.2 (hs.1.subs b0 (by simp)) c 0 (by omega) hc]
    simp only [List.map_cons, List.map_nil]
    rw [pUp_node (by decide), bel2, Int.sub_zero]
    exact .beta
  | rec0 => simp only [List.map_cons, List.map_nil]; rw [pUp_node (k := 4) (by decide)]; exact .rec0
  | recS =>
    simp only [List.map_cons, List.map_nil]
    rw [pUp_node (k := 5) (by decide), pUp_tm0 (by decide)]
    simp only [List.map_cons, List.map_nil]
    rw [pUp_tm0 (by decide), pUp_node (k := 6) (by decide)]
    simp only [List.map_cons, List.map_nil]
    have e3 : tmBelow 3 = 0 := rfl
    have e5 : tmBelow 5 = 0 := rfl
    have e6 : tmBelow 6 = 0 := rfl
    simp only [e3, e5, e6, Int.add_zero]
    exact .recS
  | fold0 => simp only [List.map_cons, List.map_nil]; rw [pUp_node (k := 7) (by decide)]; exact .fold0
  | foldS =>
    simp only [List.map_cons, List.map_nil]
    rw [pUp_node (k := 8) (by decide), pUp_tm0 (by decide)]
    simp only [List.map_cons, List.map_nil]
    rw [pUp_tm0 (by decide), pUp_node (k := 9) (by decide)]
    simp only [List.map_cons, List.map_nil]
    rw [pUp_tm0 (by decide)]
    simp only [List.map_cons, List.map_nil]
    have e3 : tmBelow 3 = 0 := rfl
    have e5 : tmBelow 8 = 0 := rfl
    have e6 : tmBelow 9 = 0 := rfl
    simp only [e3, e5, e6, Int.add_zero]
    exact .foldS
  | fst =>
    simp only [List.map_cons, List.map_nil]
    rw [pUp_node (k := 10) (by decide)]
    simp only [List.map_cons, List.map_nil, (show tmBelow 10 = 0 from rfl), Int.add_zero]
    exact .fst
  | snd =>
    simp only [List.map_cons, List.map_nil]
    rw [pUp_node (k := 10) (by decide)]
    simp only [List.map_cons, List.map_nil, (show tmBelow 10 = 0 from rfl), Int.add_zero]
    exact .snd
theorem Rdx.inn {s : Tm} (hsG : TmG s) {k : Int} {ty : Ty} {l : List Tm} {r : Tm} (h : Rdx k ty l r) (hG : TmG (tmT k ty l)) {e : Int} (he : 0 ≤ e) : Rdx k ty (l.map fun x => pIn s x e) (pIn s r e) := by
  have hs := hG.subs
  cases h with
  | @beta _ ty' b a =>
    simp only [List.mem_cons, List.not_mem_nil, or_false, forall_eq_or_imp, forall_eq] at hs
    have := pIn_inD he hsG hs.2 (hs.1.subs b (by simp)) 0 (by omega)
    simp only [Int.zero_add] at this
    rw [this]
    simp only [List.map_cons, List.map_nil]
    rw [pIn_node (by decide), bel2]
    exact .beta
  | rec0 => simp only [List.map_cons, List.map_nil]; rw [pIn_node (k := 4) (by decide)]; exact .rec0
  | recS =>
    simp only [List.map_cons, List.map_nil]
    rw [pIn_node (k := 5) (by decide), pIn_tm0 (by decide)]
    simp only [List.map_cons, List.map_nil]
    rw [pIn_tm0 (by decide), pIn_node (k := 6) (by decide)]
    simp only [List.map_cons, List.map_nil]
    have e3 : tmBelow 3 = 0 := rfl
    have e5 : tmBelow 5 = 0 := rfl
    have e6 : tmBelow 6 = 0 := rfl
    simp only [e3, e5, e6, Int.add_zero]
    exact .recS
  | fold0 => simp only [List.map_cons, List.map_nil]; rw [pIn_node (k := 7) (by decide)]; exact .fold0
  | foldS =>
    simp only [List.map_cons, List.map_nil]
    rw [pIn_node (k := 8) (by decide), pIn_tm0 (by decide)]
    simp only [List.map_cons, List.map_nil]
    rw [pIn_tm0 (by decide), pIn_node (k := 9) (by decide)]
    simp only [List.map_cons, List.map_nil]
    rw [pIn_tm0 (by decide)]
    simp only [List.map_cons, List.map_nil]
    have e3 : tmBelow 3 = 0 := rfl
    have e5 : tmBelow 8 = 0 := rfl
    have e6 : tmBelow 9 = 0 := rfl
    simp only [e3, e5, e6, Int.add_zero]
    exact .foldS
  | fst =>
    simp only [List.map_cons, List.map_nil]
    rw [pIn_node (k := 10) (by decide)]
    simp only [List.map_cons, List.map_nil, (show tmBelow 10 = 0 from rfl), Int.add_zero]
    exact .fst
  | snd =>
    simp only [List.map_cons, List.map_nil]
    rw [pIn_node (k := 10) (by decide)]
    simp only [List.map_cons, List.map_nil, (show tmBelow 10 = 0 from rfl), Int.add_zero]
    exact .snd

theorem Par.up {b : Int} (hb : 0 ≤ b) {t u : Tm} (h : Par t u) : TmG t → ∀ c : Int, 0 ≤ c → Par (pUp b t c) (pUp b u c) := by
  induction h with
  | var i => intro _ c hc; rw [pUp_var]; exact .var _
  | @cong k ty l l' hk hl hp ih =>
    intro hG c hc
    rw [pUp_node hk, pUp_node hk]
    have := below_nn k
    obtain ⟨h1, h2⟩ := map_pt (f := fun x => pUp b x (c + tmBelow k)) (g := fun x => pUp b x (c + tmBelow k)) (R := Par) hl (fun i x x' a1 a2 => ih i x x' a1 a2 (hG.subs _ (List.mem_of_getElem? a1)) _ (by omega))
    exact .cong hk h1 h2
  | @red k ty l l' r r' hl hp hr hr' ih =>
    intro hG c hc
    rw [pUp_node hr.ne, hr.below, Int.add_zero]
    obtain ⟨h1, h2⟩ := map_pt (f := fun x => pUp b x c) (g := fun x => pUp b x c) (R := Par) hl (fun i x x' a1 a2 => ih i x x' a1 a2 (hG.subs _ (List.mem_of_getElem? a1)) _ hc)
    exact .red h1 h2 (hr.up hb hG hc) (hr'.up hb ((Par.cong hr.ne hl hp).G hG) hc)
theorem Par.inn {s s' : Tm} (hs : Par s s') (hsG : TmG s) {t u : Tm} (h : Par t u) : TmG t → ∀ e : Int, 0 ≤ e → Par (pIn s t e) (pIn s' u e) := by
  induction h with
  | var i =>
    intro hG e he
    rw [pIn_var, pIn_var]
    repeat' split
    · exact hs.up he hsG 0 (by omega)
    · exact .var _
    · exact .var _
  | @cong k ty l l' hk hl hp ih =>
    intro hG e he
    rw [pIn_node hk, pIn_node hk]
    have := below_nn k
    obtain ⟨h1, h2⟩ := map_pt (f := fun x => pIn s x (e + tmBelow k)) (g := fun x => pIn s' x (e + tmBelow k)) (R := Par) hl (fun i x x' a1 a2 => ih i x x' a1 a2 (hG.subs _ (List.mem_of_getElem? a1)) _ (by omega))
    exact .cong hk h1 h2
  | @red k ty l l' r r' hl hp hr hr' ih =>
    intro hG e he
    rw [pIn_node hr.ne, hr.below, Int.add_zero]
    obtain ⟨h1, h2⟩ := map_pt (f := fun x => pIn s x e) (g := fun x => pIn s' x e) (R := Par) hl (fun i x x' a1 a2 => ih i x x' a1 a2 (hG.subs _ (List.mem_of_getElem? a1)) _ he)
    exact .red h1 h2 (hr.inn hsG hG he) (hr'.inn (hs.G hsG) ((Par.cong hr.ne hl hp).G hG) he)

theorem par2 {k : Int} {ty : Ty} {a a' b b' : Tm} (hk : k ≠ 1) (h1 : Par a a') (h2 : Par b b') : Par (tmT k ty [a, b]) (tmT k ty [a', b']) :=
  .cong hk rfl fun i x x' e1 e2 => by
    match i with
    | 0 => simp at e1 e2; subst e1; subst e2; exact h1
    | 1 => simp at e1 e2; subst e1; subst e2; exact h2
    | i + 2 => simp at e1
theorem par1 {k : Int} {ty : Ty} {a a' : Tm} (hk : k ≠ 1) (h1 : Par a a') : Par (tmT k ty [a]) (tmT k ty [a']) :=
  .cong hk rfl fun i x x' e1 e2 => by
    match i with
    | 0 => simp at e1 e2; subst e1; subst e2; exact h1
    | i + 1 => simp at e1
inductive Star : Tm → Tm → Prop
  | refl (t : Tm) : Star t t
  | step {t u v : Tm} : Par t u → Star u v → Star t v
theorem Star.trans {t u v : Tm} (h : Star t u) : Star u v → Star t v := by
  induction h with
  | refl => exact id
  | step hp _ ih => exact fun h => .step hp (ih h)
theorem Star.G {t u : Tm} (h : Star t u) : TmG t → TmG u := by
  induction h with
  | refl => exact id
  | step hp _ ih => exact fun hG => ih (hp.G hG)
theorem Rdx.root {k : Int} {ty : Ty} {l : List Tm} {r : Tm} (h : Rdx k ty l r) : (tmT k ty l).root = true := by cases h <;> rfl
end GoAbs

namespace GoAbs
open Go

end GoAbs

namespace GoAbs
open Go

theorem Star.up {b : Int} (hb : 0 ≤ b) {t u : Tm} (h : Star t u) : TmG t → ∀ c : Int, 0 ≤ c → Star (pUp b t c) (pUp b u c) := by
  induction h with
  | refl t => exact fun _ c _ => .refl _
  | step hp _ ih => exact fun hG c hc => .step (hp.up hb hG c hc) (ih (hp.G hG) c hc)
theorem Star.inn1 {s : Tm} (hs : TmG s) {t u : Tm} (h : Star t u) : TmG t → ∀ e : Int, 0 ≤ e → Star (pIn s t e) (pIn s u e) := by
  induction h with
  | refl t => exact fun _ e _ => .refl _
  | step hp _ ih => exact fun hG e he => .step (Par.inn (Par.refl hs) hs hp hG e he) (ih (hp.G hG) e he)
theorem Star.inn2 {s s' : Tm} (h : Star s s') {t : Tm} (ht : TmG t) : TmG s → ∀ e : Int, 0 ≤ e → Star (pIn s t e) (pIn s' t e) := by
  induction h with
  | refl s => exact fun _ e _ => .refl _
  | step hp _ ih => exact fun hG e he => .step (Par.inn hp hG (Par.refl ht) ht e he) (ih (hp.G hG) e he)
theorem Star.inn {s s' t u : Tm} (hs : Star s s') (gs : TmG s) (h : Star t u) (gt : TmG t) {e : Int} (he : 0 ≤ e) : Star (pIn s t e) (pIn s' u e) :=
  (h.inn1 gs gt e he).trans (hs.inn2 (h.G gt) gs e he)
theorem Star.t1 {k : Int} {ty : Ty} (hk : k ≠ 1) {x x' : Tm} (h : Star x x') : Star (tmT k ty [x]) (tmT k ty [x']) := by
  induction h with
  | refl => exact .refl _
  | step hp _ ih => exact .step (par1 hk hp) ih
theorem Star.t2 {k : Int} {ty : Ty} (hk : k ≠ 1) {x x' y : Tm} (hy : TmG y) (h : Star x x') : Star (tmT k ty [x, y]) (tmT k ty [x', y]) := by
  induction h with
  | refl => exact .refl _
  | step hp _ ih => exact .step (par2 hk hp (Par.refl hy)) ih

/-- Formulas whose terms are reduced. -/
inductive FmR : Fm → Fm → Prop
  | eq {x y x' y' : Tm} : Star x x' → Star y y' → FmR (fmEq x y) (fmEq x' y')
  | two {k : Int} {a b a' b' : Fm} (hk : k = 2 ∨ k = 3) : FmR a a' → FmR b b' → FmR (fmTwo k a b) (fmTwo k a' b')
  | q {k : Int} {s : Ty} {a a' : Fm} (hk : k = 4 ∨ k = 5 ∨ k = 6 ∨ k = 7) : FmR a a' → FmR (fmQ k s a) (fmQ k s a')

theorem FmR.refl {u : Bool} {f : Fm} (h : FmG u f) : FmR f f := by
  induction h with
  | eq _ _ => exact .eq (.refl _) (.refl _)
  | two hk _ _ h1 h2 => exact .two hk h1 h2
  | q hk _ _ h1 => exact .q (FmG.qk hk) h1
theorem FmR.inv {f f' : Fm} (h : FmR f f') : f.fl.c = f'.fl.c ∧ f.ct = f'.ct ∧ fdp f = fdp f' := by
  induction h with
  | eq _ _ => exact ⟨by rw [Fm.fl_eqn, Fm.fl_eqn], by rw [ct_eqn, ct_eqn], by rw [fdp_eqn, fdp_eqn]⟩
  | two hk _ _ h1 h2 => exact ⟨by rw [fl_c_two hk, fl_c_two hk, h1.1, h2.1], by rw [ct_two, ct_two, h1.1, h1.2.1, h2.1, h2.2.1], by rw [fdp_two, fdp_two, h1.2.2, h2.2.2]⟩
  | q hk _ h1 => exact ⟨by rw [fl_c_q (by omega), fl_c_q (by omega), h1.1], by rw [ct_q, ct_q, h1.1, h1.2.1], by rw [fdp_q, fdp_q, h1.2.2]⟩

theorem FmG.inv_eq {u : Bool} {x y : Tm} (h : FmG u (fmEq x y)) : TmG x ∧ TmG y := by
  generalize e : fmEq x y = f at h
  cases h with
  | eq h1 h2 => simp only [fmEq, Fm.mk.injEq, List.cons.injEq, and_true, true_and] at e; obtain ⟨rfl, rfl⟩ := e; exact ⟨h1, h2⟩
  | two hk _ _ => simp [fmEq, fmTwo] at e
  | q hk _ _ => simp [fmEq, fmQ] at e
theorem FmG.inv_two {u : Bool} {k : Int} {a b : Fm} (h : FmG u (fmTwo k a b)) : (k = 2 ∨ k = 3) ∧ FmG u a ∧ FmG u b := by
  generalize e : fmTwo k a b = f at h
  cases h with
  | eq h1 h2 => simp [fmEq, fmTwo] at e
  | two hk h1 h2 => simp only [fmTwo, Fm.mk.injEq, List.cons.injEq, and_true, true_and] at e; obtain ⟨rfl, rfl, rfl⟩ := e; exact ⟨hk, h1, h2⟩
  | q hk _ _ => simp [fmTwo, fmQ] at e
theorem FmG.inv_q {u : Bool} {k : Int} {s : Ty} {a : Fm} (h : FmG u (fmQ k s a)) : TyG s ∧ FmG u a := by
  generalize e : fmQ k s a = f at h
  cases h with
  | eq h1 h2 => simp [fmEq, fmQ] at e
  | two hk _ _ => simp [fmTwo, fmQ] at e
  | q hk hs h1 => simp only [fmQ, Fm.mk.injEq, List.cons.injEq, and_true, true_and] at e; obtain ⟨rfl, rfl, rfl⟩ := e; exact ⟨hs, h1⟩

theorem FmR.up {f f' : Fm} (h : FmR f f') : FmG true f → FmG true f' → f.least 536870912 = true → f'.least 536870912 = true → ∀ d : Int, 0 ≤ d → d + fmSz f ≤ 100000 → d + fmSz f' ≤ 100000 → FmR (f.up 1 d) (f'.up 1 d) := by
  have one : ∀ {x x' : Tm}, Star x x' → TmG x → TmG x' → x.least 536870912 = true → x'.least 536870912 = true → ∀ d : Int, 0 ≤ d → d + tmSz x ≤ 100000 → d + tmSz x' ≤ 100000 → Star (x.up 1 d) (x'.up 1 d) := by
    intro x x' hs gx gx' lx lx' d hd z z'
    rw [up_p (by omega) (by omega) gx d (least_mono (by omega) _ lx) hd (by omega), up_p (by omega) (by omega) gx' d (least_mono (by omega) _ lx') hd (by omega)]
    exact hs.up (by omega) gx d hd
  induction h with
  | eq h1 h2 =>
    intro g g' l l' d hd z z'
    obtain ⟨g1, g2⟩ := g.inv_eq
    obtain ⟨g1', g2'⟩ := g'.inv_eq
    obtain ⟨l1, l2⟩ := fleast_eq.1 l
    obtain ⟨l1', l2'⟩ := fleast_eq.1 l'
    rw [fmSz_eq] at z z'
    rw [fmUp_eqn, fmUp_eqn]
    exact .eq (one h1 g1 g1' l1 l1' d hd (by omega) (by omega)) (one h2 g2 g2' l2 l2' d hd (by omega) (by omega))
  | two hk _ _ ih1 ih2 =>
    intro g g' l l' d hd z z'
    obtain ⟨_, g1, g2⟩ := g.inv_two
    obtain ⟨_, g1', g2'⟩ := g'.inv_two
    obtain ⟨l1, l2⟩ := fleast_parts2 l
    obtain ⟨l1', l2'⟩ := fleast_parts2 l'
    rw [fmSz_two] at z z'
    rw [fmUp2 hk hd (by omega), fmUp2 hk hd (by omega)]
    exact .two hk (ih1 g1 g1' l1 l1' d hd (by omega) (by omega)) (ih2 g2 g2' l2 l2' d hd (by omega) (by omega))
  | q hk _ ih1 =>
    intro g g' l l' d hd z z'
    rw [fmSz_q] at z z'
    rw [fmUpq hk hd (by omega), fmUpq hk hd (by omega)]
    exact .q hk (ih1 g.inv_q.2 g'.inv_q.2 (fleast_part l) (fleast_part l') _ (by omega) (by omega) (by omega))

theorem FmR.inn {s s' : Tm} (hs : Star s s') (gs : TmG s) (gs' : TmG s') (ls : s.least 1000000000 = true) (ls' : s'.least 1000000000 = true) (zs : tmSz s ≤ 100000) (zs' : tmSz s' ≤ 100000) {f f' : Fm} (h : FmR f f') :
    FmG true f → FmG true f' → f.least 1000000000 = true → f'.least 1000000000 = true → ∀ d : Int, 0 ≤ d → d + fmSz f ≤ 100000 → d + fmSz f' ≤ 100000 → FmR (fmInn s 0 f d) (fmInn s' 0 f' d) := by
  have one : ∀ {x x' : Tm}, Star x x' → TmG x → TmG x' → x.least 1000000000 = true → x'.least 1000000000 = true → ∀ d : Int, 0 ≤ d → d + tmSz x ≤ 100000 → d + tmSz x' ≤ 100000 → Star (tmInn s 0 x d) (tmInn s' 0 x' d) := by
    intro x x' hx gx gx' lx lx' d hd z z'
    rw [inn_p gs ls (by omega) gx d lx hd (by omega), inn_p gs' ls' (by omega) gx' d lx' hd (by omega)]
    exact Star.inn hs gs hx gx hd
  induction h with
  | eq h1 h2 =>
    intro g g' l l' d hd z z'
    obtain ⟨g1, g2⟩ := g.inv_eq
    obtain ⟨g1', g2'⟩ := g'.inv_eq
    obtain ⟨l1, l2⟩ := fleast_eq.1 l
    obtain ⟨l1', l2'⟩ := fleast_eq.1 l'
    rw [fmSz_eq] at z z'
    rw [fmInn_eqn, fmInn_eqn]
    exact .eq (one h1 g1 g1' l1 l1' d hd (by omega) (by omega)) (one h2 g2 g2' l2 l2' d hd (by omega) (by omega))
  | two hk _ _ ih1 ih2 =>
    intro g g' l l' d hd z z'
    obtain ⟨_, g1, g2⟩ := g.inv_two
    obtain ⟨_, g1', g2'⟩ := g'.inv_two
    obtain ⟨l1, l2⟩ := fleast_parts2 l
    obtain ⟨l1', l2'⟩ := fleast_parts2 l'
    rw [fmSz_two] at z z'
    rw [fmInn_two, fmInn_two, below_two hk, addW_zero hd (by omega)]
    exact .two hk (ih1 g1 g1' l1 l1' d hd (by omega) (by omega)) (ih2 g2 g2' l2 l2' d hd (by omega) (by omega))
  | q hk _ ih1 =>
    intro g g' l l' d hd z z'
    rw [fmSz_q] at z z'
    have hr := below_q hk
    rw [fmInn_q, fmInn_q, hr, addW_eq (by omega) (by omega) (by omega) (by omega)]
    exact .q hk (ih1 g.inv_q.2 g'.inv_q.2 (fleast_part l) (fleast_part l') _ (by omega) (by omega) (by omega))

end GoAbs

namespace GoAbs
open Go

end GoAbs

namespace GoAbs
open Go

theorem normN_W {steps : Int} : ∀ (k : Nat) (n : Int) (t : Tm), TmW t → ∀ r, normN steps k n t = some r → TmW r.1
  | 0, n, t, _, r, h => by simp [normN] at h
  | k + 1, n, t, hw, r, h => by
    rw [normN] at h
    split at h
    · cases h; exact hw
    · split at h
      · cases h; exact zeroT_W
      · split at h
        · cases h; exact zeroT_W
        · exact normN_W k (n + 1) _ (nx_W t hw) r h
theorem norm_W {t : Tm} (h : TmW t) : TmW (norm t).1 := normN_W 1001 0 t h _ (norm_eq t)

theorem FmTy.inv_eq {Q : Ty → Prop} {g : List Ty} {x y : Tm} (h : FmTy Q g (fmEq x y)) : HasTy Q g x tNat ∧ HasTy Q g y tNat := by
  generalize e : fmEq x y = f at h
  cases h with
  | eq h1 h2 => simp only [fmEq, Fm.mk.injEq, List.cons.injEq, and_true, true_and] at e; obtain ⟨rfl, rfl⟩ := e; exact ⟨h1, h2⟩
  | two hk _ _ => simp [fmEq, fmTwo] at e
  | q hk _ => simp [fmEq, fmQ] at e
theorem FmTy.inv_two {Q : Ty → Prop} {g : List Ty} {k : Int} {a b : Fm} (h : FmTy Q g (fmTwo k a b)) : FmTy Q g a ∧ FmTy Q g b := by
  generalize e : fmTwo k a b = f at h
  cases h with
  | eq h1 h2 => simp [fmEq, fmTwo] at e
  | two hk h1 h2 => simp only [fmTwo, Fm.mk.injEq, List.cons.injEq, and_true, true_and] at e; obtain ⟨rfl, rfl, rfl⟩ := e; exact ⟨h1, h2⟩
  | q hk _ => simp [fmTwo, fmQ] at e
theorem FmTy.inv_q {Q : Ty → Prop} {g : List Ty} {k : Int} {s : Ty} {a : Fm} (h : FmTy Q g (fmQ k s a)) : FmTy Q (g ++ [s]) a := by
  generalize e : fmQ k s a = f at h
  cases h with
  | eq h1 h2 => simp [fmEq, fmQ] at e
  | two hk _ _ => simp [fmTwo, fmQ] at e
  | q hk h1 => simp only [fmQ, Fm.mk.injEq, List.cons.injEq, and_true, true_and] at e; obtain ⟨rfl, rfl, rfl⟩ := e; exact h1
end GoAbs

namespace GoAbs
open Go

theorem lim_match {e : Int} (h : e = 0 ∨ e = 5 ∨ e = 4) : (e == 11) = false ∧ ((e == 0) = true ∨ ((e == 0) = false ∧ (e == 4 || e == 5 || e == 3) = true)) := by
  rcases h with rfl | rfl | rfl
  · exact ⟨rfl, .inl rfl⟩
  · exact ⟨rfl, .inr ⟨rfl, rfl⟩⟩
  · exact ⟨rfl, .inr ⟨rfl, rfl⟩⟩

/-- What is kept of a closed term. -/
structure TmC (t : Tm) (s : Ty) : Prop where
  ty : HasTy TyG [] t s
  gd : TmG t
  sz : tmSz t ≤ 4096

theorem law_chJoins {a b : Ty} {s t : Tm} (ha : MkTy 1 a) (hb : MkTy 1 b) (ms : MkTm 2 [] a s) (mt : MkTm 2 [] b t) :
    TmC (chJoin a b s t) (chPair a b) ∧ TmC (chPart 11 a b (chJoin a b s t)) a ∧ TmC (chPart 12 b a (chJoin a b s t)) b ∧ TmC s a ∧ TmC t b ∧
    (matchN 11 (chPart 11 a b (chJoin a b s t)) s = 0 ∨ matchN 11 (chPart 11 a b (chJoin a b s t)) s = 5 ∨ matchN 11 (chPart 11 a b (chJoin a b s t)) s = 4) ∧
    (matchN 11 (chPart 12 b a (chJoin a b s t)) t = 0 ∨ matchN 11 (chPart 12 b a (chJoin a b s t)) t = 5 ∨ matchN 11 (chPart 12 b a (chJoin a b s t)) t = 4) := by
  have ga := ha.G (by omega)
  have gb := hb.G (by omega)
  have za := ha.sz1
  have zb := hb.sz1
  obtain ⟨rs, zs, ts⟩ := mk_term (by omega) (g := []) (by simp) (by simp) ga (by omega) ms
  obtain ⟨rt, zt, tt⟩ := mk_term (by omega) (g := []) (by simp) (by simp) gb (by omega) mt
  have cs : TmC s a := ⟨ts, rs.gd, by omega⟩
  have ct : TmC t b := ⟨tt, rt.gd, by omega⟩
  have cu : ∀ {y : Ty}, TyG y → (y.kind == 5) = true → y = tUnit := by
    intro y hy hk
    have hk' : y.kind = 5 := by simpa using hk
    have := hy.1
    cases this <;> simp_all [tNat, tList, tUnit, tPair, tFun, Ty.kind]
  have unit : TmC (tm0 13 []) tUnit := ⟨.n0 (ty := .mk 0 []) .unit, .t0 ar13 rfl, by rw [tmSz_0]; omega⟩
  have mu : ∀ {x : Tm}, TmC x tUnit → matchN 11 (tm0 13 []) x = 0 ∨ matchN 11 (tm0 13 []) x = 5 ∨ matchN 11 (tm0 13 []) x = 4 := fun h => match_unit h.ty h.gd h.sz
  cases ka : (a.kind == 5) with
  | true =>
    obtain rfl := cu ga ka
    cases kb : (b.kind == 5) with
    | true =>
      obtain rfl := cu gb kb
      simp only [chJoin, chPair, chPart, ka, if_true]
      exact ⟨ct, unit, unit, cs, ct, mu cs, mu ct⟩
    | false =>
      simp only [chJoin, chPair, chPart, ka, kb, if_true, Bool.false_eq_true, if_false]
      exact ⟨ct, unit, ct, cs, ct, mu cs, .inl match_same⟩
  | false =>
    cases kb : (b.kind == 5) with
    | true =>
      obtain rfl := cu gb kb
      simp only [chJoin, chPair, chPart, ka, kb, if_true, Bool.false_eq_true, if_false]
      exact ⟨cs, cs, unit, cs, ct, .inl match_same, mu ct⟩
    | false =>
      have hp : TyG (tPair a b) := .pair' ga.1 gb.1 (by omega)
      have gp : TmG (tm0 10 [s, t]) := .plain (a := 2) rfl rfl rfl (by simp [rs.gd, rt.gd])
      have tp : HasTy TyG [] (tm0 10 [s, t]) (tPair a b) := .n2 (ty := .mk 0 []) (.pair hp) ts tt
      simp only [chJoin, chPair, chPart, ka, kb, Bool.false_eq_true, if_false]
      have c11 : TmC (tm0 11 [tm0 10 [s, t]]) a := ⟨.n1 (ty := .mk 0 []) .fst tp, .plain (a := 1) rfl rfl rfl (by simp [gp]), by rw [tmSz_1, tmSz_2]; omega⟩
      have c12 : TmC (tm0 12 [tm0 10 [s, t]]) b := ⟨.n1 (ty := .mk 0 []) .snd tp, .plain (a := 1) rfl rfl rfl (by simp [gp]), by rw [tmSz_1, tmSz_2]; omega⟩
      exact ⟨⟨tp, gp, by rw [tmSz_2]; omega⟩, c11, c12, cs, ct, match_part (.inl ⟨rfl, rfl⟩) c11.ty c11.gd (by omega), match_part (.inr ⟨rfl, rfl⟩) c12.ty c12.gd (by omega)⟩
end GoAbs
