/-
  Walks: the types of terms without bounds on types (references): a type, or the error of a size.
-/
import Derived.Test.YtnhjlnkogoihhaaGreatDoorGq
import Derived.Test.YtnhjlnkogoihhaaGreatDoorAbsD
set_option linter.unusedSimpArgs false
set_option linter.unusedVariables false
set_option maxRecDepth 20000
set_option maxHeartbeats 4000000
namespace Go.Proofs.YtnhjlnkogoihhaaGreatDoor
open Go GoAbs Go.Proofs

theorem c_okBig (t : Ty) (ht : TyW t) (he : tyErr t = 4) : Pure Tryz.prog env 233 [.agg t.cells] (.tup [.agg [.int .i64 0, .sl .any []], .int .i64 4]) := by
  intro h
  have h1 := c_refTyCheck t ht
  rw [he] at h1
  have n4 : ((4 : Int) != 0) = true := rfl
  clear ht he
  refine enter Tryz.func233 [.cell 2 25, .tmp 3] rfl (by kernel_rfl) follows (by kernel_rfl) rfl fun g0 w0 gen hrel hfr hfr' hres => ?_
  repeat' (first
    | exact hin _ | exact agf (by assumption)
    | (first | refine wp rfl ?_ | refine spt rfl ?_ | refine spf rfl ?_ | (refine spl (fun hc => ?_) fun hc => ?_) <;> (try rw [beq_iff_eq] at hc) <;> try simp only [hc] | refine Call1_pure (h1) ?_ | refine finF hrel ?_ ?_ ?_) <;> try simp only [go_sem, *])

theorem c_inferErr (g : List Ty) (k : Int) (ty : Ty) (l : List Tm) (ts : List Ty) (j : Nat) (hk1 : (k == 1) = false) (hk2 : (k == 2) = false) (hl3 : l.length ≤ 3) (hj : j < l.length) (hlen : l.length = ts.length)
    (ih : ∀ (i : Nat) (x : Tm) (a : Ty), i < j → l[i]? = some x → ts[i]? = some a → Pure Tryz.prog env 190 [.sl .any (g.map Ty.cells), .agg x.cells] (.tup [.agg a.cells, .int .i64 0]))
    (he : ∀ (x : Tm), l[j]? = some x → Pure Tryz.prog env 190 [.sl .any (g.map Ty.cells), .agg x.cells] (.tup [.agg [.int .i64 0, .sl .any []], .int .i64 4])) :
    Pure Tryz.prog env 190 [.sl .any (g.map Ty.cells), .agg (tmT k ty l).cells] (.tup [.agg [.int .i64 0, .sl .any []], .int .i64 4]) := by
  intro h
  have e1 : (tmT k ty l).kind = k := rfl
  have e3 : (tmT k ty l).args = l := rfl
  generalize tmT k ty l = t at *
  have n0 : ((0 : Int) != 0) = false := rfl
  have n4 : ((4 : Int) != 0) = true := rfl
  have z0 : 0 ≤ j := Nat.zero_le _
  have hget : ∀ (i : Nat) (x : Tm), l[i]? = some x → ∃ a, ts[i]? = some a := fun i x hx => ⟨_, List.getElem?_eq_getElem (by have := (List.getElem?_eq_some_iff.1 hx).1; omega)⟩
  clear hlen
  refine enter Tryz.func190 [.cell 4 25, .tmp 5] rfl (by kernel_rfl) follows (by kernel_rfl) rfl fun g0 w0 gen hrel hfr hfr' hres => ?_
  repeat' (first
    | (refine ⟨?_, ?_⟩; focus ((repeat' (first | refine And.intro ?_ ?_ | refine Or.inr ?_)); all_goals kernel_rfl))
    | exact hin _ | exact agf (by assumption)
    | (first | refine wp rfl ?_ | refine spt rfl ?_ | refine spf rfl ?_ | (refine spl (fun hc => ?_) fun hc => ?_) <;> (try rw [beq_iff_eq] at hc) <;> try simp only [hc] | (refine guarded_split (fun hb => ?_) fun hb => ?_) <;> try simp only [Bool.not_true, Bool.not_false] at hb | refine finF hrel ?_ ?_ ?_) <;> try simp only [go_sem, *])
  refine AR_range [0, 3, 4, 67] [⟨gen, 0, 0⟩, ⟨gen, 0, 1⟩] (fun i σ => Agree h σ.h ∧ i ≤ j ∧ OwnS h σ.h (σ.tm 8) 2 ((ts.take i).map Ty.cells)) (l).length (by first | omega | (simp only [go_sem, *] <;> omega)) ⟨rfl, rfl, rfl⟩ rfl (by simp only [go_sem, *]) (by simp only [go_sem, *]) ?_ (by intro i σ t v ht hK; simp only [List.mem_cons, List.not_mem_nil, or_false] at ht; rcases ht with rfl | rfl | rfl <;> exact hK) ?_ ?_
  · simp only [go_sem, *]
    exact ⟨(by repeat (first | exact Agree.refl _ | assumption | refine Agree.new ?_ (hgf0 _ _) | refine Agree.new ?_ (hfr' _ _))), .inl rfl⟩
  · clear z0
    intro i σ gr0 hgl_gr0 hgn hlt jI jN jS ⟨jA, ⟨hij, jO0⟩⟩
    obtain ⟨jT, jB⟩ := jS
    simp only [go_sem] at jT jB
    have hgf := fresh_of hgn
    have hgf0 : ∀ r i, h ⟨gr0, r, i⟩ = none := fun r i => agree_fresh jA (hgf r i)
    have eg_gen_gr0 := gen_lt (show gen < gr0 by omega)
    have eh_gen_gr0 := gen_lt' (show gen < gr0 by omega)
    obtain ⟨x, hx⟩ : ∃ x, (l)[i]? = some x := ⟨_, List.getElem?_eq_getElem hlt⟩
    have hxm := List.mem_of_getElem? hx
    have hm := min_lt hlt
    clear hgn
    rcases Nat.lt_or_ge i j with hlt | hge
    · obtain ⟨a, ha⟩ := hget i x hx
      have hc := ih i x a hlt hx ha
      have hij' : i + 1 ≤ j := hlt
      have hts : (ts.take (i + 1)).map Ty.cells = (ts.take i).map Ty.cells ++ [a.cells] := by rw [map_take_succ ha]
      have htl : (ts.take i).length = i := by rw [List.length_take]; have := (List.getElem?_eq_some_iff.1 ha).1; omega
      clear ih he hget hlt hij
      repeat' (first
        | (refine ⟨?_, ?_⟩; focus ((repeat' (first | refine And.intro ?_ ?_ | refine Or.inr ?_)); all_goals kernel_rfl))
        | (refine okE_app_own jO0 (by repeat (first | exact Keeps.refl _ | refine Keeps.new ?_ (hgf _ _) | refine Keeps.new ?_ (hfr' _ _) | refine Keeps.box ?_ rfl | refine Keeps.box ?_ (by simp only [go_sem, *]))) rfl (by simp only [go_sem, *] <;> omega) (by first | exact hgf0 _ _ | exact hfr' _ _) (by simp only [go_sem, *]) (by intro hd; cases hd) ?_; intro v' h' log' jO jK jAg jAb jF; simp only [go_sem, *])
        | (first | refine wp rfl ?_ | refine spt rfl ?_ | refine spf rfl ?_ | (refine spl (fun hc => ?_) fun hc => ?_) <;> (try rw [beq_iff_eq] at hc) <;> try simp only [hc] | (refine guarded_split (fun hb => ?_) fun hb => ?_) <;> try simp only [Bool.not_true, Bool.not_false] at hb | refine Call1_pure (hc) ?_ | refine AR_inv ?_) <;> try simp only [go_sem, *])
      exact jAg (by repeat (first | exact jA | refine Agree.new ?_ (hgf0 _ _)))
    · have hij' : i = j := by omega
      have hc := he x (by rw [← hij']; exact hx)
      clear ih he hget hge hij hij'
      repeat' (first
        | (refine ⟨?_, ?_⟩; focus ((repeat' (first | refine And.intro ?_ ?_ | refine Or.inr ?_)); all_goals kernel_rfl))
        | exact hin _ | exact agf (by assumption)
        | (first | refine wp rfl ?_ | refine spt rfl ?_ | refine spf rfl ?_ | (refine spl (fun hc => ?_) fun hc => ?_) <;> (try rw [beq_iff_eq] at hc) <;> try simp only [hc] | (refine guarded_split (fun hb => ?_) fun hb => ?_) <;> try simp only [Bool.not_true, Bool.not_false] at hb | refine Call1_pure (hc) ?_ | refine finF hrel ?_ ?_ ?_) <;> try simp only [go_sem, *])
  ·
    intro σ ga0 hgl_ga0 hgn jS ⟨jA, ⟨hij, jO0⟩⟩
    obtain ⟨jT, jB⟩ := jS
    simp only [go_sem] at jT jB
    have hgf := fresh_of hgn
    have hgf0 : ∀ r i, h ⟨ga0, r, i⟩ = none := fun r i => agree_fresh jA (hgf r i)
    have eg_gen_ga0 := gen_lt (show gen < ga0 by omega)
    have eh_gen_ga0 := gen_lt' (show gen < ga0 by omega)
    clear hgn
    omega

/-- What the reference answers on a typed term: its type, or the error of a size. -/
def InfR (v : V) (s : Ty) : Prop := (tySz s ≤ 64 ∧ v = .tup [.agg s.cells, .int .i64 0]) ∨ v = .tup [.agg [.int .i64 0, .sl .any []], .int .i64 4]

theorem NodeTy.toG {k : Int} {ty : Ty} {ts : List Ty} {s : Ty} (h : NodeTy TyF k ty ts s) (hs : tySz s ≤ 64) : NodeTy TyG k ty ts s := by
  cases h with
  | app => exact .app
  | zero => exact .zero
  | succ => exact .succ
  | recr => exact .recr
  | nil => exact .nil
  | cons => exact .cons
  | fold => exact .fold
  | pair hp => exact .pair ⟨hp, hs⟩
  | fst => exact .fst
  | snd => exact .snd
  | unit => exact .unit

/-- The node is small, or it is a pair that is too big. -/
theorem NodeTy.small {k : Int} {ty : Ty} {ts : List Ty} {s : Ty} (h : NodeTy TyF k ty ts s) (hts : ∀ y ∈ ts, tySz y ≤ 64) :
    tySz s ≤ 64 ∨ (k = 10 ∧ ∃ a b, ts = [a, b] ∧ s = tPair a b ∧ TyF s ∧ tySz s ≤ 1000) := by
  cases h with
  | app => have := hts _ (List.mem_cons_self ..); rw [tySz_fun] at this; exact .inl (by omega)
  | zero => rw [tySz_nat]; exact .inl (by omega)
  | succ => rw [tySz_nat]; exact .inl (by omega)
  | recr => exact .inl (hts _ (List.mem_cons_self ..))
  | nil => rw [tySz_list]; exact .inl (by omega)
  | cons => rw [tySz_list]; exact .inl (by omega)
  | fold => exact .inl (hts _ (List.mem_cons_self ..))
  | @pair _ a b hp =>
    have h1 := hts a (by simp)
    have h2 := hts b (by simp)
    exact .inr ⟨rfl, a, b, rfl, rfl, hp, by rw [tySz_pair]; omega⟩
  | fst => have := hts _ (List.mem_cons_self ..); rw [tySz_pair] at this; exact .inl (by omega)
  | snd => have := hts _ (List.mem_cons_self ..); rw [tySz_pair] at this; exact .inl (by omega)
  | unit => rw [tySz_unit]; exact .inl (by omega)

theorem TyF_err4 {t : Ty} (h : TyF t) (hs : tySz t ≤ 1000) (hb : ¬ tySz t ≤ 64) : tyErr t = 4 := by
  rw [h.err (by omega), if_neg hb]

theorem c_inferBig (g : List Ty) (ty : Ty) (p q : Tm) (a b : Ty) (wa : TyW a) (wb : TyW b) (hp : TyF (tPair a b)) (hs : tySz (tPair a b) ≤ 1000) (hb : ¬ tySz (tPair a b) ≤ 64)
    (h1 : Pure Tryz.prog env 190 [.sl .any (g.map Ty.cells), .agg p.cells] (.tup [.agg a.cells, .int .i64 0]))
    (h2 : Pure Tryz.prog env 190 [.sl .any (g.map Ty.cells), .agg q.cells] (.tup [.agg b.cells, .int .i64 0])) :
    Pure Tryz.prog env 190 [.sl .any (g.map Ty.cells), .agg (tmT 10 ty [p, q]).cells] (.tup [.agg [.int .i64 0, .sl .any []], .int .i64 4]) := by
  have ih : ∀ (j : Nat) (u : Tm) (c : Ty), [p, q][j]? = some u → [a, b][j]? = some c → Pure Tryz.prog env 190 [.sl .any (g.map Ty.cells), .agg u.cells] (.tup [.agg c.cells, .int .i64 0]) := by
    intro j u c hu hc
    match j with
    | 0 => simp at hu hc; subst hu; subst hc; exact h1
    | 1 => simp at hu hc; subst hu; subst hc; exact h2
    | j + 2 => simp at hu
  intro h
  have r1 := c_refTwo a b wa wb
  have r2 := c_okBig _ hp.W (TyF_err4 hp hs hb)
  have e1 : (tmT 10 ty [p, q]).kind = 10 := rfl
  have e3 : (tmT 10 ty [p, q]).args = [p, q] := rfl
  have hmap : (tmT 10 ty [p, q]).args.map Tm.cells = [p.cells, q.cells] := rfl
  generalize tmT 10 ty [p, q] = t at *
  have n0 : ((0 : Int) != 0) = false := rfl
  have hget : ∀ (i : Nat) (u : Tm), [p, q][i]? = some u → ∃ c, [a, b][i]? = some c := fun i u hx => ⟨_, List.getElem?_eq_getElem (by have := (List.getElem?_eq_some_iff.1 hx).1; simpa using this)⟩
  have hl3 : [p, q].length = 2 := rfl
  clear h1 h2 hs hb hp wa wb hmap
  generalize hl : [p, q] = l at *
  generalize hts : [a, b] = ts at *
  have hl3' : l.length ≤ 3 := by omega
  refine enter Tryz.func190 [.cell 4 25, .tmp 5] rfl (by kernel_rfl) follows (by kernel_rfl) rfl fun g0 w0 gen hrel hfr hfr' hres => ?_
  repeat' (first
    | (refine ⟨?_, ?_⟩; focus ((repeat' (first | refine And.intro ?_ ?_ | refine Or.inr ?_)); all_goals kernel_rfl))
    | exact hin _ | exact agf (by assumption)
    | (first | refine wp rfl ?_ | refine spt rfl ?_ | refine spf rfl ?_ | (refine spl (fun hc => ?_) fun hc => ?_) <;> (try rw [beq_iff_eq] at hc) <;> try simp only [hc] | (refine guarded_split (fun hb => ?_) fun hb => ?_) <;> try simp only [Bool.not_true, Bool.not_false] at hb | refine finF hrel ?_ ?_ ?_) <;> try simp only [go_sem, *])
  refine AR_range [0, 3, 4, 67] [⟨gen, 0, 0⟩, ⟨gen, 0, 1⟩] (fun i σ => Agree h σ.h ∧ OwnS h σ.h (σ.tm 8) 2 ((ts.take i).map Ty.cells)) (l).length (by first | omega | (simp only [go_sem, *] <;> omega)) ⟨rfl, rfl, rfl⟩ rfl (by simp only [go_sem, *]) (by simp only [go_sem, *]) ?_ (by intro i σ t v ht hK; simp only [List.mem_cons, List.not_mem_nil, or_false] at ht; rcases ht with rfl | rfl | rfl <;> exact hK) ?_ ?_
  · simp only [go_sem, *]
    exact ⟨(by repeat (first | exact Agree.refl _ | assumption | refine Agree.new ?_ (hgf0 _ _) | refine Agree.new ?_ (hfr' _ _))), .inl rfl⟩
  · clear r1 r2 hl hts
    intro i σ gr0 hgl_gr0 hgn hlt jI jN jS ⟨jA, jO0⟩
    obtain ⟨jT, jB⟩ := jS
    simp only [go_sem] at jT jB
    have hgf := fresh_of hgn
    have hgf0 : ∀ r i, h ⟨gr0, r, i⟩ = none := fun r i => agree_fresh jA (hgf r i)
    have eg_gen_gr0 := gen_lt (show gen < gr0 by omega)
    have eh_gen_gr0 := gen_lt' (show gen < gr0 by omega)
    obtain ⟨x, hx⟩ : ∃ x, (l)[i]? = some x := ⟨_, List.getElem?_eq_getElem hlt⟩
    have hxm := List.mem_of_getElem? hx
    have hm := min_lt hlt
    clear hgn
    obtain ⟨c, ha⟩ := hget i x hx
    have hc := ih i x c hx ha
    have hts : (ts.take (i + 1)).map Ty.cells = (ts.take i).map Ty.cells ++ [c.cells] := by rw [map_take_succ ha]
    have htl : (ts.take i).length = i := by rw [List.length_take]; have := (List.getElem?_eq_some_iff.1 ha).1; omega
    clear ih hget
    repeat' (first
      | (refine ⟨?_, ?_⟩; focus ((repeat' (first | refine And.intro ?_ ?_ | refine Or.inr ?_)); all_goals kernel_rfl))
      | (refine okE_app_own jO0 (by repeat (first | exact Keeps.refl _ | refine Keeps.new ?_ (hgf _ _) | refine Keeps.new ?_ (hfr' _ _) | refine Keeps.box ?_ rfl | refine Keeps.box ?_ (by simp only [go_sem, *]))) rfl (by simp only [go_sem, *] <;> omega) (by first | exact hgf0 _ _ | exact hfr' _ _) (by simp only [go_sem, *]) (by intro hd; cases hd) ?_; intro v' h' log' jO jK jAg jAb jF; simp only [go_sem, *])
      | (first | refine wp rfl ?_ | refine spt rfl ?_ | refine spf rfl ?_ | (refine spl (fun hc => ?_) fun hc => ?_) <;> (try rw [beq_iff_eq] at hc) <;> try simp only [hc] | (refine guarded_split (fun hb => ?_) fun hb => ?_) <;> try simp only [Bool.not_true, Bool.not_false] at hb | refine Call1_pure (hc) ?_ | refine AR_inv ?_) <;> try simp only [go_sem, *])
    exact jAg (by repeat (first | exact jA | refine Agree.new ?_ (hgf0 _ _)))
  ·
    intro σ ga0 hgl_ga0 hgn jS ⟨jA, jO0⟩
    obtain ⟨jT, jB⟩ := jS
    simp only [go_sem] at jT jB
    have hgf := fresh_of hgn
    have hgf0 : ∀ r i, h ⟨ga0, r, i⟩ = none := fun r i => agree_fresh jA (hgf r i)
    have eg_gen_ga0 := gen_lt (show gen < ga0 by omega)
    have eh_gen_ga0 := gen_lt' (show gen < ga0 by omega)
    clear hgn
    have htk : ts.take l.length = [a, b] := by rw [hl3, ← hts]; rfl
    rw [htk] at jO0
    obtain ⟨c, jO0⟩ := jO0.val
    clear ih hget htk hts hl
    repeat' (first
      | (refine ⟨?_, ?_⟩; focus ((repeat' (first | refine And.intro ?_ ?_ | refine Or.inr ?_)); all_goals kernel_rfl))
      | exact hin _ | exact agf (by assumption)
      | (first | refine wp rfl ?_ | refine spt rfl ?_ | refine spf rfl ?_ | (refine spl (fun hc => ?_) fun hc => ?_) <;> (try rw [beq_iff_eq] at hc) <;> try simp only [hc] | (refine guarded_split (fun hb => ?_) fun hb => ?_) <;> try simp only [Bool.not_true, Bool.not_false] at hb | refine Call1_pure (r1) ?_ | refine Call1_pure (r2) ?_ | refine Call1_pure (c_refNat) ?_ | refine Call1_pure (c_refList) ?_ | refine finF hrel ?_ ?_ ?_) <;> try simp only [go_sem, *])
end Go.Proofs.YtnhjlnkogoihhaaGreatDoor
