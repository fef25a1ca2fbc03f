/-
 The abstract layer: plain laws, further ones.
-/
import Derived.Test.YtmbpmbofehmdaaaGreatDoorAbsDd
import Derived.Test.YtmbpmbofehmdaaaGreatDoorAbsDb
set_option linter.unusedSimpArgs false
set_option linter.unusedVariables false
set_option linter.unusedSectionVars false
namespace GoAbs
open Go
section
variable {F : Fence} (hF : ∀ f, F.fn f) {m : Nat} {ds : List Deferred} {P : Program} {env : Nat → Option (List V)} {ops : Array Oper} {n : Nat}
include hF
end
def tailOrd (ops : Array Oper) (t0 : Nat) : Bool := (List.range ops.size).all fun i => decide (i < t0) || (List.range t0).all fun j => ordB ops j i
theorem tailOrd_W {ops : Array Oper} {t0 : Nat} (hok : drawOk ops = true) (h : tailOrd ops t0 = true) : TailW ops t0 := fun listed hc i o hge ho hd j hj hjs => by
 obtain ⟨htab, hsp⟩ := drawOk_spec hok
 have his : i < ops.size := (Array.getElem?_eq_some_iff.1 ho).1
 unfold tailOrd at h
 rw [List.all_eq_true] at h
 have h1 := h i (List.mem_range.2 his)
 rw [Bool.or_eq_true] at h1
 rcases h1 with h1 | h1
 ·simp at h1; omega
 ·rw [List.all_eq_true] at h1
  exact ord_listed htab hc i o ho hd j hjs (h1 j (List.mem_range.2 hj))
structure Ready3 (p : Nat) (ops : Array Oper) (L : Array Bool) : Prop where
 q0 : Region.ready .any ops L = [p]
 q1 : Region.ready .any ops (L.setIfInBounds p true) = [p + 1]
 q2 : Region.ready .any ops ((L.setIfInBounds p true).setIfInBounds (p + 1) true) = [p + 2]
 q3 : Region.ready .any ops (((L.setIfInBounds p true).setIfInBounds (p + 1) true).setIfInBounds (p + 2) true) = []
structure PlainOp (ops : Array Oper) (p : Nat) (o : Oper) : Prop where
 at' : ops[p]? = some o
 guard : o.guard = none
 nd : ∀ c, o.op ≠ .defer c
theorem AR_region_raw3 {c : Ctx} {gen : Nat} {k : List It} {σ : St} {id : Nat} {ops : Array Oper} (p : Nat) (hto : tailOrd ops p = true) (hsz : ops.size = p + 3) (hR : Ready3 p ops (frontL (p + 3) p))
  {o5 o6 o7 : Oper} (p5 : PlainOp ops p o5) (p6 : PlainOp ops (p + 1) o6) (p7 : PlainOp ops (p + 2) o7) {K : St → Prop}
  (hK : ∀ σ1, K σ1 → ∃ O : V → H → Prop, (∀ (g : G) (w : World) (ρc : Operand → Value), Rel c.env g w σ1.h → (∀ x, RV g w (ρc x) (av c.env σ1.tm x)) →
    ∃ (v : V) (h1 : H) (cv : Value) (w' : World) (g' : G), O v h1 ∧ (execOp ρc o5).run c.P w = .ok (.value cv) w' ∧ Ext g w g' w' ∧ Rel c.env g' w' h1 ∧ RV g' w' cv v) ∧
   ∀ v h1, O v h1 → ∃ e6 e7 n6 n7, prim c.P (av c.env (upd σ1.tm o5.dst v)) h1 n6 o6.op = some e6 ∧ prim c.P (av c.env (upd (upd σ1.tm o5.dst v) o6.dst e6.v)) (happly h1 e6.writes) n7 o7.op = some e7 ∧
    AR c gen k .normal ⟨upd (upd (upd σ1.tm o5.dst v) o6.dst e6.v) o7.dst e7.v, happly (happly h1 e6.writes) e7.writes⟩)
  (h : aops c.P c.env ops true gen id (ops.toList.take p) 0 [] K σ) : AR c gen (.code (.region id ops true) :: k) .normal σ := by
 intro okk hm g a w hx r
 have okk' := okk
 simp only [okStk, okCode, Bool.and_eq_true, Bool.or_eq_true, Bool.not_eq_true'] at okk
 obtain ⟨⟨hd, hdr⟩, okk2⟩ := okk
 have hdk : drawOk ops = true := by simpa using hdr
 obtain ⟨l, σe, h1, h2, hk, h4⟩ := aops_preD (ops.toList.take p) 0 [] σ [] (fun j o h => by
  rw [List.getElem?_take] at h
  split at h
  ·simpa using h
  ·cases h) (by simp) (by simp) h
 obtain ⟨O, hrun, h3⟩ := hK σe hk
 have hl : l.map (·.1) = List.range p := by
  rw [h1, List.length_take]
  simp [hsz]
 have hx1 : Ext g w g { w with drawn := w.drawn + 1 } :=
  ⟨rfl, rfl, rfl, Nat.le_refl _, fun _ => Nat.le_refl _, fun _ _ _ => rfl, fun _ _ h => ⟨rfl, h⟩, fun _ h => ⟨h, rfl, .inl rfl⟩, Nat.le_refl _⟩
 have hrel : Rel c.env g { w with drawn := w.drawn + 1 } σ.h := by
  have q := r.rel
  refine ⟨q.dom, q.top, fun id cs e => ?_, q.inj, fun id n k e => ?_, q.apart, q.apart2, q.limnew, fun k cs e => (q.glob k cs e).mono hx1⟩
  ·obtain ⟨vs, h1, h2, h3, h4, h5⟩ := q.box id cs e
   exact ⟨vs, h1, h2, fun i c v x y => (h3 i c v x y).mono hx1, h4, h5⟩
  ·obtain ⟨h1, h2, h3, h4⟩ := q.tok id n k e
   exact ⟨h1, h2, h3, h4⟩
 obtain ⟨q0, q1, q2, q3⟩ := hR
 obtain ⟨a5, g5, nd5⟩ := p5
 obtain ⟨a6, g6, nd6⟩ := p6
 obtain ⟨a7, g7, nd7⟩ := p7
 refine (wpIn_wide (n := 0) (Q := postI c k)).1 (wpIn_region_any hm (chain_preG (F := Fence.wide) (m := 0) (ds := []) (fun _ => trivial) rfl (fun k args w R h => callsIn_wide.2 h) hd hdk (tailOrd_W hdk hto) (by omega) (g0 := g) (w0 := w) (Q := postI c k) ?_ ops.size l _ σ g _ a ?_ (by simp) ?_ ?_ ?_ (h4 rfl).1 ?_ h2 hx1
  (RelD.of ⟨hrel, fun t => (r.tm t).mono hx1, r.size, r.defers⟩)))
 ·intro fuel g' a' w' hf hx' r'
  rw [hsz] at hf ⊢
  obtain ⟨f, rfl⟩ : ∃ f, fuel = f + 1 + 1 + 1 := ⟨fuel - 3, by omega⟩
  obtain ⟨v, hh, cv, w1, g1, hO, run5, x5, r5, v5⟩ := hrun g' w' a'.eval r'.1.rel (fun x => r'.av x)
  obtain ⟨e6, e7, n6, n7, k6, k7, hend⟩ := h3 v hh hO
  have rd5 := r'.put x5 (d := o5.dst) (fun t ht => dstOk_at hd a5 t ht) r5 v5
  obtain ⟨c6, w2, g2, run6, x6, r6, v6⟩ := prim_sound (o := o6) rd5.1.rel (fun x => rd5.av x) k6
  have rd6 := rd5.put x6 (d := o6.dst) (fun t ht => dstOk_at hd a6 t ht) r6 v6
  obtain ⟨c7, w3, g3, run7, x7, r7, v7⟩ := prim_sound (o := o7) rd6.1.rel (fun x => rd6.av x) k7
  have rd7 := rd6.put x7 (d := o7.dst) (fun t ht => dstOk_at hd a7 t ht) r7 v7
  refine ⟨fun h => (by rw [q0] at h; cases h), fun i hi => ?_⟩
  rw [q0] at hi
  simp only [List.mem_cons, List.not_mem_nil, or_false] at hi
  subst hi
  refine any_one (F := Fence.wide) (fun _ => trivial) (by rw [q0]; simp) a5 g5 nd5 (.inl run5) ?_
  refine ⟨fun h => (by rw [q1] at h; cases h), fun i hi => ?_⟩
  rw [q1] at hi
  simp only [List.mem_cons, List.not_mem_nil, or_false] at hi
  subst hi
  refine any_one (F := Fence.wide) (fun _ => trivial) (by rw [q1]; simp) a6 g6 nd6 run6 ?_
  refine ⟨fun h => (by rw [q2] at h; cases h), fun i hi => ?_⟩
  rw [q2] at hi
  simp only [List.mem_cons, List.not_mem_nil, or_false] at hi
  subst hi
  refine any_one (F := Fence.wide) (fun _ => trivial) (by rw [q2]; simp) a7 g7 nd7 run7 ?_
  exact wpAnyIn_done q3 (hend okk2 hm g3 _ w3 ((((hx.trans hx').trans x5).trans x6).trans x7) rd7.st) f
 ·have := congrArg List.length hl; simp at this; omega
 ·intro i
  have : (∃ x ∈ l, x.1 = i) ↔ i ∈ l.map (·.1) := by simp
  rw [this, hl, List.mem_range]
  constructor
  ·intro h
   have hi' : i < ops.size := by omega
   exact ⟨h, by simp [hi']⟩
  ·exact fun h => h.1
 ·intro i _ hi
  simp [hi]
 ·have : (l.map (·.1)).Pairwise (· < ·) := by rw [hl]; exact List.pairwise_lt_range
  rw [List.pairwise_map] at this
  exact this
 ·intro j o ho hj
  have hjl : j < ops.size := (Array.getElem?_eq_some_iff.1 ho).1
  simp [hjl] at hj
theorem Rel.lessBox {env : Nat → Option (List V)} {g : G} {w : World} {h : H} (r : Rel env g w h) {id : Id} {cs cs2 : List V} (hb : h id = some (.box cs)) (hp : ∀ vs, RVLp g w vs cs → RVLp g w vs cs2) :
  Rel env g w (hset h id (.box cs2)) where
 dom := fun i => by
  by_cases e : i = id
  ·subst e; rw [hset_same, r.dom, hb]; simp
  ·rw [hset_other e]; exact r.dom i
 top := fun i hi => by
  by_cases e : i = id
  ·subst e; exact r.top _ (by rw [hb]; simp)
  ·rw [hset_other e] at hi; exact r.top i hi
 box := fun i cs' hi => by
  by_cases e : i = id
  ·subst e
   rw [hset_same] at hi
   simp only [Option.some.injEq, Obj.box.injEq] at hi
   subst hi
   obtain ⟨vs, h1, h2, h3, h4, h5⟩ := r.box i cs hb
   have := hp vs ⟨h2, h3⟩
   exact ⟨vs, h1, this.1, this.2, h4, h5⟩
  ·rw [hset_other e] at hi; exact r.box i cs' hi
 inj := fun i i' c c' hi hi' hl => by
  have hx : ∀ j c, hset h id (.box cs2) j = some (.box c) → ∃ c2, h j = some (.box c2) := by
   intro j c hj
   by_cases e : j = id
   ·subst e; exact ⟨cs, hb⟩
   ·rw [hset_other e] at hj; exact ⟨c, hj⟩
  obtain ⟨c2, h2⟩ := hx i c hi
  obtain ⟨c3, h3⟩ := hx i' c' hi'
  exact r.inj i i' c2 c3 h2 h3 hl
 tok := fun i n k hi => by
  have e : i ≠ id := by intro e; subst e; rw [hset_same] at hi; simp at hi
  rw [hset_other e] at hi; exact r.tok i n k hi
 apart := fun i i' n k c hi hn hi' a ha => by
  have e : i ≠ id := by intro e; subst e; rw [hset_same] at hi; simp at hi
  rw [hset_other e] at hi
  by_cases e' : i' = id
  ·subst e'; exact r.apart i i' n k cs hi hn hb a ha
  ·rw [hset_other e'] at hi'; exact r.apart i i' n k c hi hn hi' a ha
 apart2 := fun i i' n n' k k' hi hn hi' hn' a a' ha ha' hbk => by
  have e : i ≠ id := by intro e; subst e; rw [hset_same] at hi; simp at hi
  have e' : i' ≠ id := by intro e; subst e; rw [hset_same] at hi'; simp at hi'
  rw [hset_other e] at hi; rw [hset_other e'] at hi'
  exact r.apart2 i i' n n' k k' hi hn hi' hn' a a' ha ha' hbk
 limnew := r.limnew
 glob := r.glob
theorem AR_cutBox {c : Ctx} {gen : Nat} {k : List It} {e : Exit} {σ : St} (id : Id) (m : Nat) {cs : List V} (hb : σ.h id = some (.box cs))
  (h : AR c gen k e ⟨σ.tm, hset σ.h id (.box (cs.take m))⟩) : AR c gen k e σ :=
 fun ok hm g a w hx r => h ok hm g a w hx ⟨r.rel.lessBox hb (fun vs hv => ⟨by have := hv.1; rw [List.length_take]; omega, fun i c v h1 h2 => hv.2 i c v h1 (by
  rw [List.getElem?_take] at h2
  split at h2
  ·exact h2
  ·cases h2)⟩), r.tm, r.size, r.defers⟩
def Fm.hole : List Nat → V → Fm → List V
 | [], v, f => [.int .i64 f.kind, .int .i64 f.type.kind, .sl .any (f.type.args.map Ty.cells), v, .sl .any (f.args.map Fm.cells)]
 | i :: p, v, f => [.int .i64 f.kind, .int .i64 f.type.kind, .sl .any (f.type.args.map Ty.cells), .sl .any (f.terms.map Tm.cells),
   .sl .any ((f.args.map Fm.cells).set i (match f.args[i]? with | some a => Fm.hole p v a | none => []))]
section
variable (id : Id) (n : Nat) (X : V)
mutual
def fz : V → V
 | .undef => .undef
 | .bool b => .bool b
 | .int k m => .int k m
 | .str s => .str s
 | .agg cs => .agg (fzL cs)
 | .tup vs => .tup (fzL vs)
 | .sl c es => .sl c (fzLL es)
 | .ptr i off => .ptr i off
 | .slb i m => if i = id ∧ m = n then X else .slb i m
 | .slr i m c => .slr i m c
 | .el cs off => .el (fzL cs) off
 | .nilp => .nilp
 | .fn f a b => .fn f (fzL a) (fzL b)
 | .nilf => .nilf
 | .iface t v => .iface t (fz v)
 | .nili => .nili
def fzL : List V → List V
 | [] => []
 | v :: vs => fz v :: fzL vs
def fzLL : List (List V) → List (List V)
 | [] => []
 | v :: vs => fzL v :: fzLL vs
end
theorem fzL_eq : ∀ l : List V, fzL id n X l = l.map (fz id n X)
 | [] => by simp [fzL]
 | v :: vs => by simp [fzL, fzL_eq vs]
theorem fzLL_eq : ∀ l : List (List V), fzLL id n X l = l.map (fzL id n X)
 | [] => by simp [fzLL]
 | v :: vs => by simp [fzLL, fzLL_eq vs]
theorem fzL_length (l : List V) : (fzL id n X l).length = l.length := by rw [fzL_eq]; simp
theorem fzL_get {l : List V} {i : Nat} {v : V} (h : (fzL id n X l)[i]? = some v) : ∃ u, l[i]? = some u ∧ v = fz id n X u := by
 rw [fzL_eq, List.getElem?_map] at h
 cases hh : l[i]? with
 | none => simp [hh] at h
 | some u => simp [hh] at h; exact ⟨u, rfl, h.symm⟩
theorem fzL_at {l : List V} {i : Nat} {v : V} (h : l[i]? = some v) : (fzL id n X l)[i]? = some (fz id n X v) := by
 rw [fzL_eq, List.getElem?_map, h]; rfl
theorem flat_fzLL (es : List (List V)) : (fzLL id n X es).flatten = fzL id n X es.flatten := by
 rw [fzLL_eq, fzL_eq, List.map_flatten]
 congr 1
 apply List.map_congr_left
 intro l _; rw [fzL_eq]
end
theorem RV.fz {g g' : G} {w : World} {S : Id → Prop} {id : Id} {n : Nat} {X : V} (hl : ∀ b, g.lim b ≤ g'.lim b) (hS : ∀ i, S i → g'.dom i = true ∧ g'.loc i = g.loc i ∧ g'.buf i = g.buf i)
  (hrow : ∀ cap, n ≤ cap → RV g' w (.slice (some ⟨g.loc id, 0, none⟩) n cap) X) {c : Value} {v : V} (h : RV g w c v) (hin : InV S (fz id n .undef v)) : RV g' w c (fz id n X v) := by
 induction h with
 | undef c => exact .undef c
 | bool b => exact .bool b
 | int k m => exact .int k m
 | str s => exact .str s
 | agg vs cs h _ ih =>
  rw [GoAbs.fz] at hin ⊢
  rw [InV] at hin
  refine .agg vs _ (by rw [fzL_length]; exact h) fun i c v hc hv => ?_
  obtain ⟨u, hu, rfl⟩ := fzL_get id n X hv
  have hi := InL_get hin (fzL_at id n .undef hu)
  exact ih i c u hc hu hi
 | tup vs cs h _ ih =>
  rw [GoAbs.fz] at hin ⊢
  rw [InV] at hin
  refine .tup vs _ (by rw [fzL_length]; exact h) fun i c v hc hv => ?_
  obtain ⟨u, hu, rfl⟩ := fzL_get id n X hv
  have hi := InL_get hin (fzL_at id n .undef hu)
  exact ih i c u hc hu hi
 | sl a cap c es k cell hk hcap hrun _ hc ih =>
  rw [GoAbs.fz] at hin ⊢
  rw [InV] at hin
  have hln : (fzLL id n X es).length = es.length := by rw [fzLL_eq]; simp
  rw [← hln]
  refine .sl a cap c _ k cell ?_ (by rw [hln]; exact hcap) ?_ ?_ ?_
  ·intro e he
   rw [fzLL_eq] at he
   obtain ⟨e0, h0, rfl⟩ := List.mem_map.1 he
   rw [fzL_length]; exact hk e0 h0
  ·intro hne
   rw [hln]
   obtain ⟨b, off, e, h1, h2⟩ := hrun (by intro e; subst e; exact hne rfl)
   exact ⟨b, off, e, Nat.le_trans h1 (hl b), h2⟩
  ·intro i v hv
   rw [flat_fzLL] at hv
   obtain ⟨u, hu, rfl⟩ := fzL_get id n X hv
   have hi := InL_get (InLL_flat.1 hin.2) (by rw [flat_fzLL]; exact fzL_at id n .undef hu)
   exact ih i u hu hi
  ·rw [hln]
   cases c with
   | any => trivial
   | full => exact hc
   | own id =>
    obtain ⟨a1, a2, a3⟩ := hS id hin.1
    exact ⟨a1, by rw [a3]; exact hc.2⟩
 | ptr i off h => rw [GoAbs.fz] at hin ⊢; rw [InV] at hin; rw [← (hS i hin).2.1]; exact .ptr i off (hS i hin).1
 | slb i m cap h h2 =>
  rw [GoAbs.fz] at hin ⊢
  by_cases e : i = id ∧ m = n
  ·rw [if_pos e]
   obtain ⟨rfl, rfl⟩ := e
   exact hrow cap h2
  ·rw [if_neg e] at hin ⊢
   rw [InV] at hin; rw [← (hS i hin).2.1]; exact .slb i m cap (hS i hin).1 h2
 | slr i m cap h h2 => rw [GoAbs.fz] at hin ⊢; rw [InV] at hin; rw [← (hS i hin).2.1]; exact .slr i m cap (hS i hin).1 h2
 | el b off cs o cell hlm hrun _ ih =>
  rw [GoAbs.fz] at hin ⊢
  rw [InV] at hin
  refine .el b off _ o cell (by rw [fzL_length]; exact Nat.le_trans hlm (hl b)) (by rw [fzL_length]; exact hrun) fun i v hv => ?_
  obtain ⟨u, hu, rfl⟩ := fzL_get id n X hv
  have hi := InL_get hin (fzL_at id n .undef hu)
  exact ih i u hu hi
 | nilp => exact .nilp
 | fn f fs cs fs' cs' h1 h2 _ _ ih1 ih2 =>
  rw [GoAbs.fz] at hin ⊢
  rw [InV] at hin
  refine .fn f fs cs _ _ (by rw [fzL_length]; exact h1) (by rw [fzL_length]; exact h2) (fun i c v hc hv => ?_) (fun i c v hc hv => ?_)
  ·obtain ⟨u, hu, rfl⟩ := fzL_get id n X hv
   have hi := InL_get hin.1 (fzL_at id n .undef hu)
   exact ih1 i c u hc hu hi
  ·obtain ⟨u, hu, rfl⟩ := fzL_get id n X hv
   have hi := InL_get hin.2 (fzL_at id n .undef hu)
   exact ih2 i c u hc hu hi
 | nilf => exact .nilf
 | iface t c v _ ih => rw [GoAbs.fz] at hin ⊢; rw [InV] at hin; exact .iface t c _ (ih hin)
 | nili => exact .nili
mutual
theorem fz_und {S : Id → Prop} {id : Id} {n : Nat} {X : V} : ∀ v : V, InV S (fz id n X v) → InV S (fz id n .undef v)
 | .undef, h => h
 | .bool _, h => h
 | .int _ _, h => h
 | .str _, h => h
 | .agg cs, h => by rw [fz, InV] at h ⊢; exact fzL_und cs h
 | .tup cs, h => by rw [fz, InV] at h ⊢; exact fzL_und cs h
 | .sl c es, h => by rw [fz, InV] at h ⊢; exact ⟨h.1, fzLL_und es h.2⟩
 | .ptr _ _, h => h
 | .slb i m, h => by
  rw [fz] at h ⊢
  by_cases e : i = id ∧ m = n
  ·rw [if_pos e]; rw [InV]; trivial
  ·rw [if_neg e] at h ⊢; exact h
 | .slr _ _ _, h => h
 | .el cs _, h => by rw [fz, InV] at h ⊢; exact fzL_und cs h
 | .nilp, h => h
 | .fn f a b, h => by rw [fz, InV] at h ⊢; exact ⟨fzL_und a h.1, fzL_und b h.2⟩
 | .nilf, h => h
 | .iface t v, h => by rw [fz, InV] at h ⊢; exact fz_und v h
 | .nili, h => h
theorem fzL_und {S : Id → Prop} {id : Id} {n : Nat} {X : V} : ∀ l : List V, InL S (fzL id n X l) → InL S (fzL id n .undef l)
 | [], h => h
 | v :: l, h => by rw [fzL, InL] at h ⊢; exact ⟨fz_und v h.1, fzL_und l h.2⟩
theorem fzLL_und {S : Id → Prop} {id : Id} {n : Nat} {X : V} : ∀ l : List (List V), InLL S (fzLL id n X l) → InLL S (fzLL id n .undef l)
 | [], h => h
 | v :: l, h => by rw [fzLL, InLL] at h ⊢; exact ⟨fzL_und v h.1, fzLL_und l h.2⟩
end
def FzD (id : Id) (n : Nat) (rows : List (List V)) (v v' : V) : Prop := v' = .undef ∨ v' = v ∨ v' = fz id n (.sl .any rows) v
theorem AR_freezeD {c : Ctx} {gen : Nat} {k : List It} {e : Exit} {σ : St} (id : Id) {n kk : Nat} {rows : List (List V)} {cs : List V} {tm' : Nat → V} {h' : H}
  (hrel0 : Rel c.env c.g0 c.w0 c.h0) (hb : σ.h id = some (.box cs)) (hrows : cs.take (n * kk) = rows.flatten) (hlen : rows.length = n) (hk : ∀ r ∈ rows, r.length = kk) (hle : n * kk ≤ cs.length)
  (hrin : InLL (fun j => h' j ≠ none) rows) (hid : h' id = none)
  (hh : ∀ j, h' j ≠ none → (h' j = σ.h j ∧ ∀ bs, h' j = some (.box bs) → c.h0 j = some (.box bs)) ∨
   ∃ bs bs', σ.h j = some (.box bs) ∧ h' j = some (.box bs') ∧ bs.length = bs'.length ∧ (∀ (i : Nat) v v', bs[i]? = some v → bs'[i]? = some v' → FzD id n rows v v') ∧ InL (fun j => h' j ≠ none) bs')
  (hdom : ∀ j, c.h0 j ≠ none → h' j ≠ none) (htm : ∀ t, FzD id n rows (σ.tm t) (tm' t) ∧ InV (fun j => h' j ≠ none) (tm' t))
  (h : AR c gen k e ⟨tm', h'⟩) : AR c gen k e σ := by
 intro ok hm g a w hx r
 have q := r.rel
 obtain ⟨vs, ⟨ty, b1⟩, b2, b3, b4, b5⟩ := q.box id cs hb
 let g' : G := { g with dom := fun j => decide (h' j ≠ none), lim := fun b => if b = g.loc id then n * kk else g.lim b }
 have hl : ∀ b, g.lim b ≤ g'.lim b := fun b => by
  show g.lim b ≤ if b = g.loc id then n * kk else g.lim b
  split
  ·rename_i e; rw [e, b4]; omega
  ·exact Nat.le_refl _
 have hlo : ∀ b, b ≠ g.loc id → g'.lim b = g.lim b := fun b hb => by show (if b = g.loc id then _ else g.lim b) = _; rw [if_neg hb]
 have hS : ∀ j, h' j ≠ none → g'.dom j = true ∧ g'.loc j = g.loc j ∧ g'.buf j = g.buf j := fun j hj => ⟨by show decide (h' j ≠ none) = true; simpa using hj, rfl, rfl⟩
 have hmv : ∀ {c : Value} {v : V}, RV g w c v → InV (fun j => h' j ≠ none) v → RV g' w c v := fun h1 h2 => h1.freeze hl hS h2
 have hsame : ∀ j, h' j ≠ none → ∃ ob, σ.h j = some ob := fun j hj => by
  rcases hh j hj with ⟨h1, _⟩ | ⟨bs, bs', h1, _⟩
  ·rw [← h1]; cases hj' : h' j with
   | none => exact absurd hj' hj
   | some ob => exact ⟨ob, rfl⟩
  ·exact ⟨_, h1⟩
 have hx' : Ext c.g0 c.w0 g' w := by
  refine ⟨hx.os, hx.tape, hx.output, hx.size, fun b => Nat.le_trans (hx.lim b) (hl b), hx.cells, hx.wr, fun j hj => ?_, hx.top⟩
  obtain ⟨_, a2, a3⟩ := hx.dom j hj
  exact ⟨by show decide (h' j ≠ none) = true; simpa using hdom j ((hrel0.dom j).1 hj), a2, a3⟩
 have hrow : ∀ cap, n ≤ cap → RV g' w (.slice (some ⟨g.loc id, 0, none⟩) n cap) (.sl .any rows) := fun cap hcap => by
  have hfl := flat_len rows kk hk
  rw [hlen] at hfl
  rw [← hlen]
  refine .sl _ cap .any rows kk (fun i => vs[i]?.getD undef) hk (by omega) (fun _ => ⟨g.loc id, 0, rfl, ?_, fun i hi => ?_⟩) (fun i v hv => ?_) trivial
  ·show 0 + _ ≤ if g.loc id = g.loc id then n * kk else _
   rw [if_pos rfl, hlen]; omega
  ·rw [Nat.zero_add]
   have : i < vs.size := by rw [hlen] at hi; omega
   simp [World.cell?, b1, this]
  ·have hv' : cs[i]? = some v := by
    rw [← hrows, List.getElem?_take] at hv
    split at hv
    ·exact hv
    ·cases hv
   obtain ⟨c0, hc1, hc2⟩ := (show RVLp g w vs cs from ⟨b2, b3⟩).at hv'
   simp only [hc1, Option.getD_some]
   exact hmv hc2 (InL_get (InLL_flat.1 hrin) hv)
 have hfz : ∀ {cv : Value} {v v' : V}, RV g w cv v → FzD id n rows v v' → InV (fun j => h' j ≠ none) v' → RV g' w cv v' := by
  intro cv v v' h1 h2 h3
  rcases h2 with rfl | rfl | rfl
  ·exact .undef _
  ·exact hmv h1 h3
  ·exact h1.fz hl hS hrow (fz_und _ h3)
 have hboxes : ∀ j bs', h' j = some (.box bs') → ∃ bs, σ.h j = some (.box bs) ∧ bs.length = bs'.length ∧ ∀ (vs : Array Value), RVLp g w vs bs → RVLp g' w vs bs' := by
  intro j bs' e'
  rcases hh j (by rw [e']; simp) with ⟨h1, h2⟩ | ⟨bs, bs2, h1, h2, h3, h4, h5⟩
  ·have h0 := h2 bs' e'
   refine ⟨bs', by rw [← h1]; exact e', rfl, fun vs hv => ⟨hv.1, fun i cv v hc hv' => hmv (hv.2 i cv v hc hv') ?_⟩⟩
   obtain ⟨vs0, _, z2, z3, _⟩ := hrel0.box j bs' h0
   obtain ⟨c0, hc0⟩ := RVLp_get (g := c.g0) (w := c.w0) z2 hv'
   have := (z3 i c0 v hc0 hv').inV
   exact InV_mono (fun id hid => hdom id ((hrel0.dom id).1 hid)) v this
  ·rw [e'] at h2; cases h2
   refine ⟨bs, h1, h3, fun vs hv => ⟨by have := hv.1; omega, fun i cv v hc hv' => ?_⟩⟩
   have hi : i < bs.length := by rw [h3]; exact (List.getElem?_eq_some_iff.1 hv').1
   have hbi : bs[i]? = some bs[i] := List.getElem?_eq_getElem hi
   exact hfz (hv.2 i cv _ hc hbi) (h4 i _ _ hbi hv') (InL_get h5 hv')
 have hne : ∀ j bs', h' j = some (.box bs') → g.loc j ≠ g.loc id := fun j bs' e' e2 => by
  obtain ⟨bs, h1, _⟩ := hboxes j bs' e'
  have := q.inj j id bs cs h1 hb e2
  rw [this, hid] at e'; cases e'
 have htok : ∀ j n' k', h' j = some (.tok n' k') → σ.h j = some (.tok n' k') := fun j n' k' e' => by
  rcases hh j (by rw [e']; simp) with ⟨h1, _⟩ | ⟨bs, bs2, _, h2, _⟩
  ·rw [← h1]; exact e'
  ·rw [e'] at h2; cases h2
 refine h ok hm g' a w hx' ⟨?_, fun t => ?_, r.size, r.defers⟩
 ·refine ⟨fun j => by show decide (h' j ≠ none) = true ↔ _; simp, fun j hj => ?_, ?_, ?_, ?_, ?_, ?_, ?_, ?_⟩
  ·obtain ⟨ob, ho⟩ := hsame j hj
   exact q.top j (by rw [ho]; simp)
  ·intro j bs' e'
   obtain ⟨bs, h1, h2, h3⟩ := hboxes j bs' e'
   obtain ⟨vs', c1, c2, c3, c4, c5⟩ := q.box j bs h1
   have := h3 vs' ⟨c2, c3⟩
   exact ⟨vs', c1, this.1, this.2, by show g'.lim (g.loc j) = 0; rw [hlo _ (hne j bs' e')]; exact c4, c5⟩
  ·intro i1 i2 c1 c2 e1 e2 e3
   obtain ⟨d1, f1, _⟩ := hboxes i1 c1 e1
   obtain ⟨d2, f2, _⟩ := hboxes i2 c2 e2
   exact q.inj i1 i2 d1 d2 f1 f2 e3
  ·intro j n' k' e'
   obtain ⟨h1, h2, h3, hk⟩ := q.tok j n' k' (htok j n' k' e')
   refine ⟨h1, h2, fun hlt => ?_, hk⟩
   obtain ⟨b, off, vs', s1, s2, s3, s4, s5⟩ := h3 hlt
   have := q.apart j id n' k' cs (htok j n' k' e') hlt hb _ s1
   exact ⟨b, off, vs', s1, s2, s3, by rw [hlo b this]; exact s4, s5⟩
  ·intro i1 i2 n' k' c' e1 hlt e2
   obtain ⟨d2, f2, _⟩ := hboxes i2 c' e2
   exact q.apart i1 i2 n' k' d2 (htok i1 n' k' e1) hlt f2
  ·intro i1 i2 n1 n2 k1 k2 e1 hlt e2 hlt2
   exact q.apart2 i1 i2 n1 n2 k1 k2 (htok _ _ _ e1) hlt (htok _ _ _ e2) hlt2
  ·intro b hb'
   rw [hlo b (by have := q.lt hb; omega)]; exact q.limnew b hb'
  ·intro k cs' e'
   refine hmv (q.glob k cs' e') ?_
   have := (hrel0.glob k cs' e').inV
   exact InV_mono (fun id hid => hdom id ((hrel0.dom id).1 hid)) _ this
 ·exact hfz (r.tm t) (htm t).1 (htm t).2
theorem AR_newRow {P : Program} {env : Nat → Option (List V)} {n : Nat} {fn : Func} {g0 : G} {w0 : World} {h0 : H} {gen : Nat} {σ : St} {k : List It}
  {id i0 : Id} {m : Nat} {rv : V} {cs : List V} (hrel0 : Rel env g0 w0 h0) (hid : h0 id = none) (hres : aresL P σ fn.results.toList = some [rv])
  (hb : σ.h i0 = some (.box cs)) (h00 : h0 i0 = none) (hin : InL (fun j => h0 j ≠ none) cs) (hag : Agree h0 σ.h) (hrv : InV (fun j => h0 j ≠ none) (fz i0 m .undef rv)) :
  AR ⟨P, env, n, fn, g0, w0, h0, fz i0 m (.slb id m) rv, hset h0 id (.box cs)⟩ gen k .ret σ := by
 refine AR_to_ret ?_
 intro _ _ g a w hx r
 obtain ⟨cv, h1, h2⟩ := run_results r fn hres
 have q := r.rel
 simp only [oneOr] at h2
 let g' : G := { g with dom := fun j => decide (hset h0 id (.box cs) j ≠ none), loc := fun j => if j = id then g.loc i0 else g.loc j, top := max g.top (id.gen + 1) }
 have hne : ∀ j, h0 j ≠ none → j ≠ id := fun j hj e => hj (by rw [e]; exact hid)
 have hmv : ∀ {c : Value} {v : V}, RV g w c v → InV (fun j => h0 j ≠ none) v → RV g' w c v := by
  intro c v hv hi
  refine RV.move (g := g) (g' := g') rfl ?_ hv hi
  intro j hj
  exact ⟨by show decide _ = true; rw [hset_other (hne j hj)]; simpa using hj, by show (if j = id then _ else _) = _; rw [if_neg (hne j hj)], rfl⟩
 have h00' : ∀ j, h0 j ≠ none → j ≠ i0 := fun j hj e => hj (by rw [e]; exact h00)
 have hold : ∀ j, j ≠ id → hset h0 id (.box cs) j = h0 j := fun j hj => hset_other hj
 refine ⟨r.defers, cv, h1, cv, g', rfl, ?_, ?_, ?_⟩
 ·refine ⟨hx.os, hx.tape, hx.output, hx.size, hx.lim, hx.cells, hx.wr, fun j hj => ?_, Nat.le_trans hx.top (by show g.top ≤ max _ _; omega)⟩
  obtain ⟨a1, a2, a3⟩ := hx.dom j hj
  have hj0 := (hrel0.dom j).1 hj
  exact ⟨by show decide _ = true; rw [hold j (hne j hj0)]; simpa using hj0, by show (if j = id then _ else _) = _; rw [if_neg (hne j hj0)]; exact a2, a3⟩
 ·refine ⟨fun j => by show decide _ = true ↔ _; simp, ?_, ?_, ?_, ?_, ?_, ?_, q.limnew, ?_⟩
  ·intro j hj
   show _ < max _ _
   by_cases e : j = id
   ·subst e; omega
   ·have hj : hset h0 id (.box cs) j ≠ none := hj
    rw [hold j e] at hj
    have := q.top j (by rw [hag j hj]; exact hj)
    omega
  ·intro j cs' e
   have e : hset h0 id (.box cs) j = some (.box cs') := e
   by_cases hj : j = id
   ·subst hj
    rw [hset_same] at e; simp only [Option.some.injEq, Obj.box.injEq] at e; subst e
    obtain ⟨vs, b1, b2, b3, b4, b5⟩ := q.box i0 cs hb
    refine ⟨vs, by show CellsAt w (if j = j then _ else _) _; rw [if_pos rfl]; exact b1, b2, fun i c v hc hv => hmv (b3 i c v hc hv) (InL_get hin hv),
     by show g.lim (if j = j then _ else _) = 0; rw [if_pos rfl]; exact b4, by show g.wr (if j = j then _ else _) = true; rw [if_pos rfl]; exact b5⟩
   ·rw [hold j hj] at e
    obtain ⟨vs, b1, b2, b3, b4, b5⟩ := q.box j cs' (hag.at e)
    refine ⟨vs, by show CellsAt w (if j = id then _ else _) _; rw [if_neg hj]; exact b1, b2, fun i c v hc hv => hmv (b3 i c v hc hv) ?_,
     by show g.lim (if j = id then _ else _) = 0; rw [if_neg hj]; exact b4, by show g.wr (if j = id then _ else _) = true; rw [if_neg hj]; exact b5⟩
    obtain ⟨vs0, _, z2, z3, _⟩ := hrel0.box j cs' e
    obtain ⟨c0, hc0⟩ := RVLp_get (g := g0) (w := w0) z2 hv
    exact InV_mono (fun i hi => (hrel0.dom i).1 hi) v ((z3 i c0 v hc0 hv).inV)
  ·intro i1 i2 c1 c2 e1 e2 e
   have e1 : hset h0 id (.box cs) i1 = some (.box c1) := e1
   have e2 : hset h0 id (.box cs) i2 = some (.box c2) := e2
   have e' : (if i1 = id then g.loc i0 else g.loc i1) = (if i2 = id then g.loc i0 else g.loc i2) := e
   by_cases f1 : i1 = id <;> by_cases f2 : i2 = id
   ·rw [f1, f2]
   ·exfalso
    rw [if_pos f1, if_neg f2] at e'
    rw [hold i2 f2] at e2
    have := q.inj i0 i2 cs c2 hb (hag.at e2) e'
    exact h00' i2 (by rw [e2]; simp) this.symm
   ·exfalso
    rw [if_neg f1, if_pos f2] at e'
    rw [hold i1 f1] at e1
    have := q.inj i1 i0 c1 cs (hag.at e1) hb e'
    exact h00' i1 (by rw [e1]; simp) this
   ·rw [if_neg f1, if_neg f2] at e'
    rw [hold i1 f1] at e1; rw [hold i2 f2] at e2
    exact q.inj i1 i2 c1 c2 (hag.at e1) (hag.at e2) e'
  ·intro j n' k' e
   have e : hset h0 id (.box cs) j = some (.tok n' k') := e
   have hj : j ≠ id := by intro f; rw [f, hset_same] at e; simp at e
   rw [hold j hj] at e
   exact q.tok j n' k' (hag.at e)
  ·intro i1 i2 n' k' c' e hlt e2 a ha
   have e : hset h0 id (.box cs) i1 = some (.tok n' k') := e
   have e2 : hset h0 id (.box cs) i2 = some (.box c') := e2
   have hj : i1 ≠ id := by intro f; rw [f, hset_same] at e; simp at e
   rw [hold i1 hj] at e
   show a.block ≠ (if i2 = id then g.loc i0 else g.loc i2)
   by_cases f2 : i2 = id
   ·rw [if_pos f2]; exact q.apart i1 i0 n' k' cs (hag.at e) hlt hb a ha
   ·rw [if_neg f2]; rw [hold i2 f2] at e2; exact q.apart i1 i2 n' k' c' (hag.at e) hlt (hag.at e2) a ha
  ·intro i1 i2 n1 n2 k1 k2 e hlt e2 hlt2
   have e : hset h0 id (.box cs) i1 = some (.tok n1 k1) := e
   have e2 : hset h0 id (.box cs) i2 = some (.tok n2 k2) := e2
   have f1 : i1 ≠ id := by intro f; rw [f, hset_same] at e; simp at e
   have f2 : i2 ≠ id := by intro f; rw [f, hset_same] at e2; simp at e2
   rw [hold i1 f1] at e; rw [hold i2 f2] at e2
   exact q.apart2 i1 i2 n1 n2 k1 k2 (hag.at e) hlt (hag.at e2) hlt2
  ·intro k' cs' e
   exact hmv (q.glob k' cs' e) (InV_mono (fun i hi => (hrel0.dom i).1 hi) _ (hrel0.glob k' cs' e).inV)
 ·have hd : g'.dom id = true := by show decide _ = true; rw [hset_same]; simp
  have hl : g.loc i0 = g'.loc id := by show _ = (if id = id then _ else _); rw [if_pos rfl]
  refine RV.fz (g := g) (g' := g') (S := fun j => h0 j ≠ none) (fun _ => Nat.le_refl _) (fun j hj => ⟨by show decide _ = true; rw [hold j (hne j hj)]; simpa using hj, by show (if j = id then _ else _) = _; rw [if_neg (hne j hj)], rfl⟩) (fun cap hc => ?_) h2 hrv
  rw [hl]
  exact .slb id m cap hd hc
def NewRow (P : Program) (env : Nat → Option (List V)) (f : FuncId) (args : List V) (v : Id → V) (cs : List V) : Prop :=
 ∀ (h : H) (id : Id), h id = none → Ret P env f args h (v id) (hset h id (.box cs))
theorem splice_len2 (vs bs : List V) (off : Nat) : (splice bs off vs).length = bs.length := by
 induction vs generalizing bs off with
 | nil => rfl
 | cons v vs ih => rw [splice, ih]; simp
def RoomS (h0 h : H) (v : V) (es : Nat) (rows : List (List V)) : Prop :=
 (rows = [] ∧ v = .sl .full []) ∨ ∃ (id : Id) (cap : Nat) (bs : List V), v = .slr id rows.length cap ∧ h id = some (.box bs) ∧ bs.length = cap * es ∧ bs.take (rows.length * es) = rows.flatten ∧ h0 id = none
theorem plain_two {P : Program} {env : Nat → Option (List V)} {ops : Array Oper} {gen reg i : Nat} {o6 o7 : Oper} {K : St → Prop} {σ : St} (g6 : o6.guard = none) (g7 : o7.guard = none)
  (f6 : ∃ s x f, o6.op = .fieldAddr s x f) (f7 : ∃ t x y, o7.op = .store t x y) (h : aops P env ops false gen reg [o6, o7] i [] K σ) :
  ∃ e6 e7 n6 n7, prim P (av env σ.tm) σ.h n6 o6.op = some e6 ∧ prim P (av env (upd σ.tm o6.dst e6.v)) (happly σ.h e6.writes) n7 o7.op = some e7 ∧ K ⟨upd (upd σ.tm o6.dst e6.v) o7.dst e7.v, happly (happly σ.h e6.writes) e7.writes⟩ := by
 obtain ⟨s, x, f, f6⟩ := f6
 obtain ⟨t, x', y', f7⟩ := f7
 rw [aops] at h
 have w6 : gwant ops o6 σ.tm = some true := by unfold gwant; rw [g6]
 rw [w6, f6] at h
 simp only at h
 cases e6 : prim P (av env σ.tm) σ.h ⟨gen, reg, i⟩ (.fieldAddr s x f) with
 | none => rw [e6] at h; exact h.elim
 | some a6 =>
  rw [e6] at h
  simp only [Bool.false_eq_true, false_implies, true_and] at h
  rw [aops] at h
  have w7 : gwant ops o7 (σ.put o6.dst a6).tm = some true := by unfold gwant; rw [g7]
  rw [w7, f7] at h
  simp only at h
  cases e7 : prim P (av env (σ.put o6.dst a6).tm) (σ.put o6.dst a6).h ⟨gen, reg, i + 1⟩ (.store t x' y') with
  | none => rw [e7] at h; exact h.elim
  | some a7 =>
   rw [e7] at h
   simp only [Bool.false_eq_true, false_implies, true_and] at h
   rw [aops] at h
   exact ⟨a6, a7, ⟨gen, reg, i⟩, ⟨gen, reg, i + 1⟩, by rw [f6]; exact e6, by rw [f7]; exact e7, h⟩
theorem AR_growRoom {c : Ctx} {gen : Nat} {k : List It} {σ : St} {id : Nat} {ops : Array Oper} (p : Nat) (hto : tailOrd ops p = true) (hsz : ops.size = p + 3) (hR : Ready3 p ops (frontL (p + 3) p))
  {o5 o6 o7 : Oper} (p5 : PlainOp ops p o5) (p6 : PlainOp ops (p + 1) o6) (p7 : PlainOp ops (p + 2) o7) {ts ty d5 : Nat} {t : TypeId} {T : TyI}
  (f6 : ∃ s x f, o6.op = .fieldAddr s x f) (f7 : ∃ t x y, o7.op = .store t x y) (hdr : ops.toList.drop (p + 1) = [o6, o7])
  (ho5 : o5.op = .call { callee := .builtin .append, args := #[.tmp ts, .tmp ty], argTypes := #[t, t] }) (hd5 : o5.dst = some d5) (hT : tyi c.P t = some T) (k4 : T.kind = 4) (ez : T.esize ≠ 0) (ee : T.ezero.length = T.esize)
  {h0 : H} {K : St → Prop}
  (hK : ∀ σ1, K σ1 → ∃ (cc : Cap) (e : List V) (rows : List (List V)) (nid : Id), σ1.tm ty = .sl cc [e] ∧ RoomS h0 σ1.h (σ1.tm ts) T.esize rows ∧ e.length = T.esize ∧ e.all oneV = true ∧
   (rows.length + 1) * T.ebytes ≤ 140737488355328 ∧ rows.length + 1 ≤ 140737488355328 ∧ σ1.h nid = none ∧ h0 nid = none ∧
   ∀ (i' : Id) (cap' : Nat) (bs : List V), (i' = nid ∨ ∃ n cap, σ1.tm ts = .slr i' n cap) → h0 i' = none → (∃ bs0, σ1.h i' = some (.box bs0)) ∨ σ1.h i' = none → bs.length = cap' * T.esize → bs.take ((rows.length + 1) * T.esize) = (rows ++ [e]).flatten →
    aops c.P c.env ops false gen id (ops.toList.drop (p + 1)) (p + 1) [] (fun σ' => AR c gen k .normal σ') ⟨upd σ1.tm (some d5) (.slr i' (rows.length + 1) cap'), hset σ1.h i' (.box bs)⟩)
  (h : aops c.P c.env ops true gen id (ops.toList.take p) 0 [] K σ) : AR c gen (.code (.region id ops true) :: k) .normal σ := by
 rw [← hd5] at hK
 refine AR_region_raw3 p hto hsz hR p5 p6 p7 (K := K) (fun σ1 hk => ?_) h
 obtain ⟨cc, e, rows, nid, hy, hS, he, he1, b8, b9, hn, hn0, hend0⟩ := hK σ1 hk
 have hend := fun i' cap' bs a1 a2 a3 a4 a5 => plain_two p6.guard p7.guard f6 f7 (by have := hend0 i' cap' bs a1 a2 a3 a4 a5; rw [hdr] at this; exact this)
 have hfl : [e].flatten = e := by simp
 have hrow : rows.flatten.length = rows.length * T.esize → (rows ++ [e]).flatten.length = (rows.length + 1) * T.esize := fun h => by
  simp only [List.flatten_append, List.length_append, hfl, h, he]; rw [Nat.add_mul]; omega
 rcases hS with ⟨rfl, hv⟩ | ⟨oid, cap, bs, hv, hb, hbl, hbt, h00⟩
 ·refine ⟨fun v h1 => ∃ q, v = .slr nid 1 (1 + q) ∧ h1 = hset σ1.h nid (.box (e ++ List.replicate (q * T.esize) .undef)), fun g w ρc r hρ => ?_, ?_⟩
  ·obtain ⟨q, cv, w', g', a1, a2, a3, a4⟩ := append_room (ρc := ρc) (ρ := av c.env σ1.tm) r hρ ho5 hT hT hv hy (by simp) hn k4 k4 ez ee (by simpa using he) (by simpa using b8) (by simp)
   rw [hfl] at a3
   exact ⟨_, _, cv, w', g', ⟨q, rfl, rfl⟩, a1, a2, a3, a4⟩
  ·rintro v h1 ⟨q, rfl, rfl⟩
   exact hend nid (1 + q) _ (.inl rfl) hn0 (.inr hn) (by simp [he]; rw [Nat.add_mul]; omega) (by simp [List.take_append, he])
 ·have hcl : rows.length * T.esize ≤ cap * T.esize ∨ True := .inr trivial
  refine ⟨fun v h1 => ∃ i' cap' bs', (i' = nid ∨ i' = oid) ∧ v = .slr i' (rows.length + 1) cap' ∧ h1 = hset σ1.h i' (.box bs') ∧ bs'.length = cap' * T.esize ∧ bs'.take ((rows.length + 1) * T.esize) = (rows ++ [e]).flatten, fun g w ρc r hρ => ?_, ?_⟩
  ·have hcap : rows.length ≤ cap := by
    have := hρ (.tmp ts)
    simp only [av] at this
    rw [hv] at this
    generalize ρc (.tmp ts) = vx at this
    cases this with | slr _ _ _ _ hcap => exact hcap
   have hle : rows.length * T.esize ≤ bs.length := by rw [hbl]; exact Nat.mul_le_mul_right _ hcap
   have hrl : rows.flatten.length = rows.length * T.esize := by rw [← hbt, List.length_take]; omega
   rcases append_slr (ρc := ρc) (ρ := av c.env σ1.tm) (nid := nid) r hρ ho5 hT hT hv hy (by simp) hb hbl hn k4 k4 ez ee (by simpa using he) (by simpa using he1) (by simpa using b8) (by simpa using b9) with ⟨hfit, cv, w', a1, a2, a3, a4⟩ | ⟨q, cv, w', g', a1, a2, a3, a4⟩
   ·simp only [List.length_cons, List.length_nil, Nat.zero_add] at hfit a4
    rw [hfl] at a3
    have hf2 : (rows.length + 1) * T.esize ≤ bs.length := by rw [hbl]; exact Nat.mul_le_mul_right _ hfit
    refine ⟨_, _, cv, w', g, ⟨oid, cap, _, .inr rfl, rfl, rfl, by rw [splice_len2]; exact hbl, ?_⟩, a1, a2, a3, a4⟩
    rw [Nat.add_mul] at hf2 ⊢
    rw [splice_eq _ _ _ (by omega), hbt, List.flatten_append, hfl, List.take_left' (by simp [hrl, he])]
   ·simp only [List.length_cons, List.length_nil, Nat.zero_add] at a4
    rw [hfl, hbt] at a3
    refine ⟨_, _, cv, w', g', ⟨nid, _, _, .inl rfl, rfl, rfl, ?_, ?_⟩, a1, a2, a3, a4⟩
    ·simp only [List.length_append, hrl, he, List.length_replicate]; simp only [Nat.add_mul]; omega
    ·rw [List.flatten_append, hfl, List.take_left' (by simp [hrl, he, Nat.add_mul])]
  ·rintro v h1 ⟨i', cap', bs', hi, rfl, rfl, h2, h3⟩
   refine hend i' cap' bs' ?_ ?_ ?_ h2 h3
   ·rcases hi with rfl | rfl
    ·exact .inl rfl
    ·exact .inr ⟨_, _, hv⟩
   ·rcases hi with rfl | rfl
    ·exact hn0
    ·exact h00
   ·rcases hi with rfl | rfl
    ·exact .inr hn
    ·exact .inl ⟨_, hb⟩
section
variable (id : Id) (n : Nat) (X : V)
theorem fzL_Ty : ∀ t : Ty, fzL id n X t.cells = t.cells := by
 intro t
 induction t using Ty.ind with
 | h t ih =>
  rw [Ty.cells_eq]
  simp only [fzL, fz, List.cons.injEq, V.sl.injEq, and_true, true_and]
  rw [fzLL_eq, List.map_map]
  exact List.map_congr_left fun x hx => ih x hx
theorem fzLL_Ty (l : List Ty) : fzLL id n X (l.map Ty.cells) = l.map Ty.cells := by
 rw [fzLL_eq, List.map_map]; exact List.map_congr_left fun x _ => fzL_Ty id n X x
theorem fzL_Tm : ∀ t : Tm, fzL id n X t.cells = t.cells := by
 intro t
 induction t using Tm.ind with
 | h t ih =>
  rw [Tm.cells_eq]
  simp only [fzL, fz, List.cons.injEq, V.sl.injEq, and_true, true_and, fzLL_Ty]
  rw [fzLL_eq, List.map_map]
  exact List.map_congr_left fun x hx => ih x hx
theorem fzLL_Tm (l : List Tm) : fzLL id n X (l.map Tm.cells) = l.map Tm.cells := by
 rw [fzLL_eq, List.map_map]; exact List.map_congr_left fun x _ => fzL_Tm id n X x
theorem fzL_Fm : ∀ t : Fm, fzL id n X t.cells = t.cells := by
 intro t
 induction t using Fm.ind with
 | h t ih =>
  rw [Fm.cells_eq]
  simp only [fzL, fz, List.cons.injEq, V.sl.injEq, and_true, true_and, fzLL_Ty, fzLL_Tm]
  rw [fzLL_eq, List.map_map]
  exact List.map_congr_left fun x hx => ih x hx
theorem fzLL_Fm (l : List Fm) : fzLL id n X (l.map Fm.cells) = l.map Fm.cells := by
 rw [fzLL_eq, List.map_map]; exact List.map_congr_left fun x _ => fzL_Fm id n X x
end
inductive Fm.Path : List Nat → Fm → Prop
 | leaf {f : Fm} (h : f.args = []) : Fm.Path [] f
 | step {f x : Fm} {i : Nat} {p : List Nat} (h : f.args[i]? = some x) (hx : Fm.Path p x) : Fm.Path (i :: p) f
def Fm.atP : List Nat → Fm → Fm
 | [], f => f
 | i :: p, f => Fm.atP p (fa f i)
def Fm.putP : List Nat → List Tm → Fm → Fm
 | [], ts, f => .mk f.kind f.type ts f.args
 | i :: p, ts, f => .mk f.kind f.type f.terms (f.args.set i (Fm.putP p ts (fa f i)))
theorem hole_nil (v : V) (f : Fm) : Fm.hole [] v f = [.int .i64 f.kind, .int .i64 f.type.kind, .sl .any (f.type.args.map Ty.cells), v, .sl .any (f.args.map Fm.cells)] := rfl
theorem hole_cons {i : Nat} {p : List Nat} {v : V} {f x : Fm} (h : f.args[i]? = some x) : Fm.hole (i :: p) v f = [.int .i64 f.kind, .int .i64 f.type.kind, .sl .any (f.type.args.map Ty.cells), .sl .any (f.terms.map Tm.cells),
   .sl .any ((f.args.map Fm.cells).set i (Fm.hole p v x))] := by
 rw [Fm.hole, h]
theorem hole_len {p : List Nat} {v : V} {f : Fm} : (Fm.hole p v f).length = 5 := by cases p <;> rfl
theorem hole_one {p : List Nat} {v : V} {f : Fm} (hv : oneV v = true) : (Fm.hole p v f).all oneV = true := by
 cases p <;> simp [Fm.hole, oneV, hv] <;> exact hv
theorem hole_cells (ts : List Tm) : ∀ {p : List Nat} {f : Fm}, Fm.Path p f → Fm.hole p (.sl .any (ts.map Tm.cells)) f = (f.putP p ts).cells
 | [], f, _ => by rw [hole_nil, Fm.putP, Fm.mk_cells]
 | i :: p, f, h => by
  cases h with
  | @step _ x _ _ hi hx =>
   rw [hole_cons hi, Fm.putP, Fm.mk_cells, fa_at hi, hole_cells ts hx, List.map_set]
theorem fzL_hole {id : Id} {n : Nat} {X v : V} : ∀ {p : List Nat} {f : Fm}, Fm.Path p f → fzL id n X (Fm.hole p v f) = Fm.hole p (fz id n X v) f
 | [], f, _ => by
  rw [hole_nil, hole_nil]
  simp only [fzL, fz, fzLL_Ty, fzLL_Fm]
 | i :: p, f, h => by
  cases h with
  | @step _ x _ _ hi hx =>
   rw [hole_cons hi, hole_cons hi]
   simp only [fzL, fz, fzLL_Ty, fzLL_Tm, List.cons.injEq, V.sl.injEq, true_and, and_true]
   rw [fzLL_eq, List.map_set, ← fzLL_eq, fzLL_Fm, fzL_hole hx]
theorem weakL_hole {v : V} : ∀ {p : List Nat} {f : Fm}, Fm.Path p f → weakL (Fm.hole p v f) = Fm.hole p (weak v) f
 | [], f, _ => by
  rw [hole_nil, hole_nil]
  simp only [weakL, weak, weakLL_Ty, weakLL_Fm]
 | i :: p, f, h => by
  cases h with
  | @step _ x _ _ hi hx =>
   rw [hole_cons hi, hole_cons hi]
   simp only [weakL, weak, weakLL_Ty, weakLL_Tm, List.cons.injEq, V.sl.injEq, true_and, and_true]
   rw [weakLL_eq, List.map_set, ← weakLL_eq, weakLL_Fm, weakL_hole hx]
theorem InL_hole {S : Id → Prop} {v : V} (hv : InV S v) : ∀ {p : List Nat} {f : Fm}, Fm.Path p f → InL S (Fm.hole p v f)
 | [], f, _ => by
  rw [hole_nil]
  simp only [InL, InV, capIn, InLL_Ty, InLL_Fm, true_and, and_true]
  exact hv
 | i :: p, f, h => by
  cases h with
  | @step _ x _ _ hi hx =>
   rw [hole_cons hi]
   simp only [InL, InV, capIn, InLL_Ty, InLL_Tm, true_and, and_true]
   rw [InLL_mem]
   intro e he
   rcases List.mem_or_eq_of_mem_set he with he | rfl
   ·exact InLL_mem.1 (InLL_Fm f.args) e he
   ·exact InL_hole hv hx
def holeRow (f : Fm) (i : Nat) (e : List V) : List (List V) := (f.args.map Fm.cells).set i e
theorem holeRow_len {f : Fm} {i : Nat} {e : List V} : (holeRow f i e).length = f.args.length := by simp [holeRow]
theorem holeRow_take {f x : Fm} {i j : Nat} {e : List V} (hx : f.args[j]? = some x) : (holeRow f i e).take (j + 1) = (holeRow f i e).take j ++ [if j = i then e else x.cells] := by
 have hj : j < f.args.length := (List.getElem?_eq_some_iff.1 hx).1
 rw [List.take_add_one]
 congr 1
 unfold holeRow
 by_cases h : j = i
 ·subst h; rw [List.getElem?_set_self (by simpa using hj), if_pos rfl]; rfl
 ·rw [List.getElem?_set_ne (Ne.symm h), if_neg h, List.getElem?_map, hx]; rfl
theorem holeRow_lo {f : Fm} {i j : Nat} {e e' : List V} (h : j ≤ i) : (holeRow f i e).take j = (holeRow f i e').take j := by
 unfold holeRow
 rw [List.take_set_of_le h, List.take_set_of_le h]
theorem holeRow_all {f : Fm} {i : Nat} {e : List V} (he : e.length = 5) : ∀ r ∈ holeRow f i e, r.length = 5 := by
 intro r hr
 rcases List.mem_or_eq_of_mem_set hr with hr | rfl
 ·obtain ⟨y, _, rfl⟩ := List.mem_map.1 hr; exact Fm.cells_len y
 ·exact he
def NewAt (P : Program) (env : Nat → Option (List V)) (f : FuncId) (args : List V) (id : Id) (v : V) (cs : List V) : Prop :=
 ∀ (h : H), h id = none → Ret P env f args h v (hset h id (.box cs))
theorem NewRow.at {P : Program} {env : Nat → Option (List V)} {f : FuncId} {args : List V} {v : Id → V} {cs : List V} (h : NewRow P env f args v cs) (id : Id) : NewAt P env f args id (v id) cs := fun h0 hn => h h0 id hn
theorem Call1_newAt {P : Program} {env : Nat → Option (List V)} {k : FuncId} {args : List V} {h : H} {R : Eff → Prop} {id : Id} {v : V} {cs : List V} (hp : NewAt P env k args id v cs)
  (hd : h id = none) (hr : R ⟨v, [id], [(id, .box cs)]⟩) : Call1 P env k args h R :=
 ⟨⟨v, [id], [(id, .box cs)]⟩, by simp, fun h2 hh => by
  have := hp h2 (by rw [hh id (by simp), hd])
  simpa [happly] using this, hr⟩
theorem fzLL_holeRow {id : Id} {n : Nat} {X v : V} {f x : Fm} {q : Nat} {p : List Nat} (hP : Fm.Path p x) : fzLL id n X (holeRow f q (Fm.hole p v x)) = holeRow f q (Fm.hole p (fz id n X v) x) := by
 unfold holeRow; rw [fzLL_eq, List.map_set, ← fzLL_eq, fzLL_Fm, fzL_hole hP]
theorem weakLL_holeRow {v : V} {f x : Fm} {q : Nat} {p : List Nat} (hP : Fm.Path p x) : weakLL (holeRow f q (Fm.hole p v x)) = holeRow f q (Fm.hole p (weak v) x) := by
 unfold holeRow; rw [weakLL_eq, List.map_set, ← weakLL_eq, weakLL_Fm, weakL_hole hP]
theorem hole_fz {id oid : Id} {n : Nat} {X : V} {f x : Fm} {q : Nat} {p : List Nat} (hq : f.args[q]? = some x) (hP : Fm.Path p x) :
  fz oid n X (.agg [.int .i64 f.kind, .int .i64 f.type.kind, .sl .any (f.type.args.map Ty.cells), .sl .any (f.terms.map Tm.cells), .sl .any (holeRow f q (Fm.hole p (.slb oid n) x))]) = .agg (Fm.hole (q :: p) X f) := by
 have e1 : fz oid n X (.slb oid n) = X := by simp [fz]
 rw [hole_cons hq]
 simp only [fz, fzL, fzLL_Ty, fzLL_Tm, fzLL_holeRow hP, e1, and_self, if_true]
 rfl
theorem AR_freezeT {c : Ctx} {gen : Nat} {k : List It} {e : Exit} {σ : St} (id : Id) (n kk : Nat) (rows : List (List V)) (L : List (Nat × V)) (B : List (Id × List V × List V)) {cs : List V} {h' : H} {tm' : Nat → V} {d : Id} {od : Obj} {dk : List V}
  (hh' : h' = B.foldr (fun b h => hset h b.1 (.box b.2.2)) (hset c.h0 d (.box dk))) (hd0 : c.h0 d = some od) (hdk : σ.h d = some (.box dk)) (hdi : InL (fun j => h' j ≠ none) dk) (htm' : tm' = L.foldr (fun p tm => upd tm (some p.1) p.2) (fun _ => .undef))
  (hrel0 : Rel c.env c.g0 c.w0 c.h0) (hb : σ.h id = some (.box cs)) (hrows : cs.take (n * kk) = rows.flatten) (hlen : rows.length = n) (hk : ∀ r ∈ rows, r.length = kk) (hle : n * kk ≤ cs.length)
  (h0 : c.h0 id = none) (hnot : ∀ b ∈ B, b.1 ≠ id) (hag : AgreeBut d c.h0 σ.h)
  (hrin : InLL (fun j => h' j ≠ none) rows)
  (hB : ∀ b ∈ B, c.h0 b.1 = none ∧ σ.h b.1 = some (.box b.2.1) ∧ b.2.1.length = b.2.2.length ∧ (∀ p ∈ b.2.1.zip b.2.2, FzD id n rows p.1 p.2) ∧ InL (fun j => h' j ≠ none) b.2.2)
  (hL : ∀ p ∈ L, FzD id n rows (σ.tm p.1) p.2 ∧ InV (fun j => h' j ≠ none) p.2)
  (h : AR c gen k e ⟨tm', h'⟩) : AR c gen k e σ := by
 have key : ∀ (B' : List (Id × List V × List V)) (j : Id), (B'.foldr (fun b h => hset h b.1 (.box b.2.2)) (hset c.h0 d (.box dk))) j = (hset c.h0 d (.box dk)) j ∨ ∃ b ∈ B', b.1 = j ∧ (B'.foldr (fun b h => hset h b.1 (.box b.2.2)) (hset c.h0 d (.box dk))) j = some (.box b.2.2) := by
  intro B' j
  induction B' with
  | nil => exact .inl rfl
  | cons b B' ih =>
   by_cases hj : j = b.1
   ·right; exact ⟨b, by simp, hj.symm, by simp only [List.foldr_cons]; rw [hj, hset_same]⟩
   ·simp only [List.foldr_cons]
    rw [hset_other hj]
    rcases ih with h | ⟨b', h1, h2, h3⟩
    ·exact .inl h
    ·exact .inr ⟨b', by simp [h1], h2, h3⟩
 have keyT : ∀ (L' : List (Nat × V)) (t : Nat), (L'.foldr (fun p tm => upd tm (some p.1) p.2) (fun _ => V.undef)) t = .undef ∨ ∃ p ∈ L', p.1 = t ∧ (L'.foldr (fun p tm => upd tm (some p.1) p.2) (fun _ => V.undef)) t = p.2 := by
  intro L' t
  induction L' with
  | nil => exact .inl rfl
  | cons p L' ih =>
   simp only [List.foldr_cons, upd]
   by_cases ht : t = p.1
   ·right; exact ⟨p, by simp, ht.symm, by rw [if_pos ht]⟩
   ·rw [if_neg ht]
    rcases ih with h | ⟨b', h1, h2, h3⟩
    ·exact .inl h
    ·exact .inr ⟨b', by simp [h1], h2, h3⟩
 refine AR_freezeD id hrel0 hb hrows hlen hk hle hrin ?_ ?_ ?_ ?_ h
 ·rcases key B id with h1 | ⟨b, h1, h2, _⟩
  ·rw [hh', h1, hset_other (fun e => by rw [e, hd0] at h0; cases h0)]; exact h0
  ·exact absurd h2 (hnot b h1)
 ·intro j hj
  rcases key B j with h1 | ⟨b, h1, h2, h3⟩
  ·by_cases hjd : j = d
   ·right
    subst hjd
    exact ⟨dk, dk, hdk, by rw [hh', h1, hset_same], rfl, fun i v v' e1 e2 => .inr (.inl (by rw [e1] at e2; cases e2; rfl)), hdi⟩
   left
   have e1 : h' j = c.h0 j := by rw [hh', h1]; exact hset_other hjd
   rw [e1] at hj ⊢
   exact ⟨(hag j hjd hj).symm, fun bs hbs => hbs⟩
  ·right
   obtain ⟨_, b1, b2, b3, b4⟩ := hB b h1
   subst h2
   refine ⟨_, _, b1, by rw [hh']; exact h3, b2, fun i v v' hv hv' => ?_, b4⟩
   refine b3 (v, v') ?_
   have : (b.2.1.zip b.2.2)[i]? = some (v, v') := by rw [List.getElem?_zip_eq_some]; exact ⟨hv, hv'⟩
   exact List.mem_of_getElem? this
 ·intro j hj
  rcases key B j with h1 | ⟨b, h1, h2, h3⟩
  ·rw [hh', h1]
   by_cases hjd : j = d
   ·rw [hjd, hset_same]; simp
   ·rw [hset_other hjd]; exact hj
  ·rw [hh', h3]; simp
 ·intro t
  rcases keyT L t with h1 | ⟨p, h1, h2, h3⟩
  ·rw [htm', h1]; exact ⟨.inl rfl, by rw [InV]; trivial⟩
  ·subst h2
   rw [htm', h3]; exact hL p h1
inductive Fm.Walk (l : List Int) : Fm → Nat → List Nat → Nat → Prop
 | leaf {f : Fm} {a : Nat} (h : f.args = []) : Fm.Walk l f a [] a
 | step {f x : Fm} {a i a' b : Nat} {p : List Nat} (hd : nextD l a f.args.length = ((i : Int), a')) (hx : f.args[i]? = some x) (h : Fm.Walk l x a' p b) : Fm.Walk l f a (i :: p) b
theorem Fm.Walk.path {l : List Int} {f : Fm} {a b : Nat} {p : List Nat} (h : Fm.Walk l f a p b) : Fm.Path p f := by
 induction h with
 | leaf h => exact .leaf h
 | step _ hx _ ih => exact .step hx ih
theorem Fm.walks (l : List Int) : ∀ (f : Fm), FmW f → ∀ a, ∃ p b, Fm.Walk l f a p b := by
 intro f
 induction f using Fm.ind with | h f ih => ?_
 intro hf a
 cases ha : f.args with
 | nil => exact ⟨[], a, .leaf ha⟩
 | cons y ys =>
  have hlen := hf.len
  have hl : 0 < f.args.length := by rw [ha]; simp
  obtain ⟨r1, r2⟩ := nextD_range (l := l) (a := a) (n := (f.args.length : Int)) (by omega) (by omega)
  generalize hq : nextD l a f.args.length = q at r1 r2
  obtain ⟨v, a'⟩ := q
  simp only at r1 r2
  obtain ⟨i, rfl⟩ : ∃ i : Nat, v = i := ⟨v.toNat, by omega⟩
  obtain ⟨x, hx⟩ : ∃ x, f.args[i]? = some x := ⟨_, List.getElem?_eq_getElem (by omega)⟩
  obtain ⟨p, b, h⟩ := ih x (List.mem_of_getElem? hx) (hf.arg (List.mem_of_getElem? hx)) a'
  exact ⟨i :: p, b, .step hq hx h⟩
theorem leaf_terms {u : Bool} : ∀ {p : List Nat} {f : Fm}, FmG u f → Fm.Path p f → ∃ x y, (f.atP p).terms = [x, y] ∧ TmG x ∧ TmG y
 | [], f, hg, h => by
  cases h with
  | leaf h =>
   cases hg with
   | @eq x y gx gy => exact ⟨x, y, rfl, gx, gy⟩
   | two => cases h
   | q => cases h
 | i :: p, f, hg, h => by
  cases h with
  | @step _ x _ _ hi hx =>
   rw [Fm.atP, fa_at hi]
   have hm := List.mem_of_getElem? hi
   refine leaf_terms (u := u) (p := p) ?_ hx
   cases hg with
   | eq => cases hm
   | two _ h1 h2 =>
    simp only [fmTwo, Fm.args, List.mem_cons, List.not_mem_nil, or_false] at hm
    rcases hm with rfl | rfl <;> assumption
   | q _ _ h1 =>
    simp only [fmQ, Fm.args, List.mem_cons, List.not_mem_nil, or_false] at hm
    subst hm; exact h1
theorem fmSzL_set : ∀ {l : List Fm} {i : Nat} {x y : Fm}, l[i]? = some x → fmSzL (l.set i y) + fmSz x = fmSzL l + fmSz y
 | [], i, x, y, h => by cases h
 | z :: l, 0, x, y, h => by simp at h; subst h; simp [fmSzL]; omega
 | z :: l, i + 1, x, y, h => by
  simp only [List.getElem?_cons_succ] at h
  have := fmSzL_set (y := y) h
  simp only [List.set_cons_succ, fmSzL]; omega
theorem putP_A {ts : List Tm} {x' y' : Tm} (hts : ts = [x', y']) (gx : TmG x') (gy : TmG y') (wx : TmW x') (wy : TmW y') (nx : TmN x') (ny : TmN y') :
  ∀ {p : List Nat} {f : Fm}, FmG true f → FmW f → FmN f → Fm.Path p f → FmG true (f.putP p ts) ∧ FmW (f.putP p ts) ∧ FmN (f.putP p ts) ∧ fmSz (f.putP p ts) ≤ fmSz f + tmSz x' + tmSz y'
 | [], f, hg, hw, hn, h => by
  subst hts
  cases h with
  | leaf h =>
   cases hg with
   | @eq x y gx0 gy0 =>
    rw [Fm.putP]
    refine ⟨.eq gx gy, .mk _ _ _ _ hw.ty (by simp) (by simp [wx, wy]) hw.len (fun z hz => hw.arg hz), ?_, ?_⟩
    ·cases hn with | mk h1 h2 h3 h4 => exact .mk h1 h2 (by simp [nx, ny]) h4
    ·show fmSz (fmEq x' y') ≤ fmSz (fmEq x y) + _ + _
     rw [fmSz_eq, fmSz_eq]; omega
   | two => cases h
   | q => cases h
 | i :: p, f, hg, hw, hn, h => by
  cases h with
  | @step _ x _ _ hi hx =>
   have hm := List.mem_of_getElem? hi
   have gX : FmG true x := hg.argG hm
   obtain ⟨a1, a2, a3, a4⟩ := putP_A hts gx gy wx wy nx ny gX (hw.arg hm) (hn.arg hm) hx
   rw [Fm.putP, fa_at hi]
   refine ⟨?_, ?_, ?_, ?_⟩
   ·cases hg with
    | eq => cases hm
    | @two k a b hk h1 h2 =>
     match i, hi with
     | 0, hi => exact .two hk a1 h2
     | 1, hi => exact .two hk h1 a1
     | i + 2, hi => simp [fmTwo, Fm.args] at hi
    | @q k s a hk hs h1 =>
     match i, hi with
     | 0, hi => exact .q hk hs a1
     | i + 1, hi => simp [fmQ, Fm.args] at hi
   ·refine .mk _ _ _ _ hw.ty hw.tlen (fun z hz => hw.term hz) (by simpa using hw.len) fun z hz => ?_
    rcases List.mem_or_eq_of_mem_set hz with hz | rfl
    ·exact hw.arg hz
    ·exact a2
   ·cases hn with
    | mk h1 h2 h3 h4 =>
     refine .mk h1 h2 h3 fun z hz => ?_
     rcases List.mem_or_eq_of_mem_set hz with hz | rfl
     ·exact h4 z hz
     ·exact a3
   ·obtain ⟨k, t, l, a⟩ := f
    simp only [Fm.kind, Fm.type, Fm.terms, Fm.args] at hi ⊢
    rw [fmSz, fmSz]
    have := fmSzL_set (y := x.putP p ts) hi
    omega
theorem zip_fz {id : Id} {n : Nat} {rows : List (List V)} : ∀ l : List V, ∀ p ∈ l.zip (fzL id n (.sl .any rows) l), FzD id n rows p.1 p.2
 | [], p, h => by cases h
 | v :: l, p, h => by
  rw [fzL, List.zip_cons_cons] at h
  rcases List.mem_cons.1 h with rfl | h
  ·exact .inr (.inr rfl)
  ·exact zip_fz l p h
theorem fz_put {id : Id} {n : Nat} {ts : List Tm} {p : List Nat} {f : Fm} (hP : Fm.Path p f) : fzL id n (.sl .any (ts.map Tm.cells)) (Fm.hole p (.slb id n) f) = (f.putP p ts).cells := by
 rw [fzL_hole hP, ← hole_cells ts hP]; simp [fz]
theorem two_store0 {x y t : Tm} : splice (x.cells ++ y.cells) 0 t.cells = t.cells ++ y.cells := by
 rw [splice_eq _ _ _ (by simp [Tm.cells_len])]
 simp [Tm.cells_len]
theorem two_store1 {x y t : Tm} : splice (x.cells ++ y.cells) 5 t.cells = x.cells ++ t.cells := by
 rw [splice_eq _ _ _ (by simp [Tm.cells_len])]
 simp [Tm.cells_len]
theorem FmG.N {f : Fm} (h : FmG true f) : f.least 536870912 = true → FmN f := by
 induction h with
 | @eq x y h1 h2 =>
  intro hl
  obtain ⟨l1, l2⟩ := fleast_eq.1 hl
  exact .mk (I64_of (by omega) (by omega)) (.mk I64_0 (by simp)) (by simp [h1.N l1, h2.N l2]) (by simp)
 | @two k a b hk _ _ h1 h2 =>
  intro hl
  refine .mk (I64_of (by omega) (by omega)) (.mk I64_0 (by simp)) (by simp) ?_
  intro z hz
  simp only [List.mem_cons, List.not_mem_nil, or_false] at hz
  rcases hz with rfl | rfl
  ·exact h1 (least_args hl (by simp [fmTwo, Fm.args]))
  ·exact h2 (least_args hl (by simp [fmTwo, Fm.args]))
 | @q k s a hk hs _ h1 =>
  intro hl
  refine .mk (I64_of (by omega) (by omega)) hs.1.N (by simp) ?_
  intro z hz
  simp only [List.mem_cons, List.not_mem_nil, or_false] at hz
  subst hz
  exact h1 (least_args hl (by simp [fmQ, Fm.args]))
theorem MkFm.A {g : List Ty} {f : Fm} (h : MkFm true 3 g f) (hg : ∀ y ∈ g, MkTy 1 y) (hl : g.length ≤ 10) (wf : FmW f) : FmA 1100 f ∧ FmG true f ∧ f.least 536870912 = true := by
 have gG := h.G (fun y hy => (hg y hy).G (by omega))
 have zf := h.sz (fun y hy => (hg y hy).sz1)
 have lf := (h.ty hg).least (by omega)
 exact ⟨⟨wf, gG.N lf, by omega, fun _ => gG⟩, gG, lf⟩
theorem MkDec.A {g : List Ty} {f : Fm} (h : MkDec 3 g f) (hg : ∀ y ∈ g, MkTy 1 y) (hl : g.length ≤ 10) (wf : FmW f) : FmA 1100 f ∧ FmG true f ∧ f.least 536870912 = true := by
 obtain ⟨gG, zf, _⟩ := h.all hg (by omega)
 have lf := (h.ty hg (by omega)).least (by omega)
 exact ⟨⟨wf, gG.N lf, by omega, fun _ => gG⟩, gG, lf⟩
theorem MkTm.A2 {g : List Ty} {t : Tm} (h : MkTm 2 g tNat t) (hg : ∀ y ∈ g, MkTy 1 y) (hl : g.length ≤ 10) (wt : TmW t) : TmA 300 t := by
 have gG := h.G (fun y hy => (hg y hy).G (by omega)) .nat
 have l1 := tySz_nat
 have zt := (h.sz (M := 3) (by omega) (fun y hy => (hg y hy).sz1) (by omega)).1
 have b2 : bndT 3 2 = 241 := rfl
 have lt := h.least (M := 3) (m := 10000) (by omega) (by omega) (fun y hy => (hg y hy).sz1) (by omega) (by omega)
 exact ⟨wt, gG.N (by refine least_mono ?_ _ lt; omega), by omega, fun _ => gG⟩
theorem quant_A {N : Nat} {s : Ty} {y : Fm} (hs : MkTy 1 s) (hy : FmA N y) (gy : FmG true y) : FmA (N + 2) (fmQ 4 tNat (fmQ 5 s y)) := by
 have gG : FmG true (fmQ 4 tNat (fmQ 5 s y)) := .q (.inl rfl) .nat (.q (.inr (.inl rfl)) (hs.G (by omega)) gy)
 refine ⟨fmQ_W tNat_W (fmQ_W hs.F.W hy.w), ?_, by rw [fmSz_q, fmSz_q]; have := hy.z; omega, fun _ => gG⟩
 exact .mk (I64_of (by omega) (by omega)) TyF.nat.N (by simp) (by simp; exact .mk (I64_of (by omega) (by omega)) hs.F.N (by simp) (by simp; exact hy.n))
end GoAbs
