/-
 Walks: several parts in one text.
-/
import Derived.Test.YtmbpmbofehmdaaaGreatDoorMa
import Derived.Test.YtmbpmbofehmdaaaGreatDoorAbsDe
set_option linter.unusedSimpArgs false
set_option linter.unusedVariables false
set_option maxRecDepth 20000
set_option maxHeartbeats 4000000
namespace Go.Proofs.YtmbpmbofehmdaaaGreatDoor
open Go GoAbs Go.Proofs
theorem c_copyLeaf (f : Fm) (hf : FmW f) (ha : f.args = []) (ht2 : f.terms ≠ []) :
  NewRow Tryz.prog env 44 [.agg f.cells] (fun id => .agg (Fm.hole [] (.slb id f.terms.length) f)) (f.terms.map Tm.cells).flatten := by
 intro h id hid
 have hlen := hf.len
 have htlen := hf.tlen
 have hc0 := c_refCopy f.type hf.ty
 refine en_ Tryz.func44 [.cell 2 29] fun g0 w0 gen hrel hfr hfr' hres => ?_
 refine wq_ ?_
 clear hc0
 refine AR_loop_nat (fun i σ => σ.tm 17 = .int .i64 i ∧ σ.tm 16 = .int .i64 f.terms.length ∧ σ.tm 15 = .sl .any (f.terms.map Tm.cells) ∧ σ.tm 1 = .ptr ⟨gen, 0, 0⟩ 0 ∧ σ.tm 2 = .ptr ⟨gen, 0, 1⟩ 0 ∧
  σ.tm 3 = .ptr ⟨gen, 1, 6⟩ 0 ∧ σ.h ⟨gen, 0, 0⟩ = some (.box f.cells) ∧ σ.h ⟨gen, 0, 1⟩ = some (.box [.int .i64 0, .int .i64 0, .sl .full [], .sl .full [], .sl .full []]) ∧ Agree h σ.h ∧
  ∃ v, σ.h ⟨gen, 1, 6⟩ = some (.box [.int .i64 f.kind, .int .i64 f.type.kind, .sl .any (f.type.args.map Ty.cells), v, .sl .full []]) ∧ RoomS h σ.h v 5 ((f.terms.take i).map Tm.cells) ∧ ∀ j n cap, v = .slr j n cap → j.gen ≠ gen) f.terms.length ?_ ?_
 ·simp only [go_sem, *]
  exact ⟨rfl, by repeat (first|exact Agree.refl _|refine Agree.new ?_ (hfr' _ _)), _, rfl, .inl ⟨by simp, rfl⟩, by intro j n cap e; cases e⟩
 intro i σ hi ⟨j1, j2, j3, j4, j5, j5', j6, j7, j8, v, jv, j9, jg⟩
 refine AR_gen (fun gn hgn => ?_)
 have hgf := fresh_of hgn
 have hgf0 : ∀ r i, h ⟨gn, r, i⟩ = none := fun r i => agree_fresh j8 (hgf r i)
 have e1 := gen_ne hgn j6
 have e2 := gen_ne' hgn j6
 have hw := wrap_succ (i := i) (by omega)
 rcases Nat.lt_or_ge i f.terms.length with hlt | hge
 ·have hd := lt_true hlt
  obtain ⟨x, hx⟩ : ∃ x, f.terms[i]? = some x := ⟨_, List.getElem?_eq_getElem hlt⟩
  have hm := min_lt hlt
  have hc := c_tmCopy x (hf.term (List.mem_of_getElem? hx))
  have hT := ty26
  clear hgn
  repeat' (first
   |refine AR_seq ?_|refine AR_skip ?_|refine AR_block ?_|refine AR_block_end ?_|refine AR_exit ?_|refine AR_code_exit ?_|refine AR_inv_exit ?_|refine AR_block_hit ?_
   |refine AR_block_pass (by decide) ?_|refine AR_ret ?_|refine AR_fall ?_
   |(refine ⟨?_,?_⟩; focus ((repeat' (first|refine ⟨?_,?_⟩|refine .inr ?_)); all_goals kernel_rfl))
   |refine AR_cond_t rfl ?_|refine AR_cond_f rfl ?_|(refine AR_cond rfl (fun hc => ?_) (fun hc => ?_) <;> (try rw [beq_iff_eq] at hc) <;> (try simp only [hc]))
   |(refine AR_growRoom (id := 5) 5 (by kernel_rfl) rfl ⟨by kernel_rfl, by kernel_rfl, by kernel_rfl, by kernel_rfl⟩ ⟨rfl, rfl, by intro c hc; cases hc⟩ ⟨rfl, rfl, by intro c hc; cases hc⟩ ⟨rfl, rfl, by intro c hc; cases hc⟩ ⟨_, _, _, rfl⟩ ⟨_, _, _, rfl⟩ rfl rfl rfl hT rfl (by decide) rfl (h0 := h) (K := fun σ1 => (σ1.tm 22 = v ∧ (∃ cc, σ1.tm 25 = .sl cc [x.cells]) ∧ σ1.tm 17 = .int .i64 i ∧ σ1.tm 16 = .int .i64 f.terms.length ∧ σ1.tm 15 = .sl .any (f.terms.map Tm.cells) ∧ σ1.tm 1 = .ptr ⟨gen, 0, 0⟩ 0 ∧ σ1.tm 2 = .ptr ⟨gen, 0, 1⟩ 0 ∧ σ1.tm 3 = .ptr ⟨gen, 1, 6⟩ 0) ∧ σ1.h ⟨gn, 5, 5⟩ = none ∧ σ1.h = hset σ.h ⟨gn, 4, 2⟩ (.box x.cells)) ?_ ?_)
   | ((first|refine AR_region ?_|(refine guarded_split (fun hb => ?_) (fun hb => ?_) <;> (try simp only [Bool.not_true, Bool.not_false] at hb))|refine Call1_pure (hc) ?_) <;> simp only [go_sem, *]))
  rotate_left
  ·simp only [go_sem, *]
   refine cp hc ?_
   simp only [go_sem, *]
   repeat' (first
    |(refine ⟨?_,?_⟩; focus ((repeat' (first|refine ⟨?_,?_⟩|refine .inr ?_)); all_goals kernel_rfl))
    | (first|refine cp hc ?_)<;>try simp only [go_sem, *])
   exact ⟨_, rfl⟩
  ·rintro σ1 ⟨⟨k1, ⟨cc, k2⟩, k3, k4, k5, k6, k7, k8⟩, kn, kh⟩
   have hl : ((f.terms.take i).map Tm.cells).length = i := by rw [List.length_map, List.length_take]; omega
   refine ⟨cc, x.cells, (f.terms.take i).map Tm.cells, ⟨gn, 5, 5⟩, k2, ?_, Tm.cells_len x, (by first|exact Tm.cells_one|exact Tm.cells_one x), ?_, ?_, kn, hgf0 5 5, ?_⟩
   ·rw [k1, kh]
    rcases j9 with ⟨h1, h2⟩ | ⟨oid, cap, bs, h1, h2, h3⟩
    ·exact .inl ⟨h1, h2⟩
    ·refine .inr ⟨oid, cap, bs, h1, ?_, h3⟩
     rw [hset_other]
     ·exact h2
     ·intro e; rw [e, hgf] at h2; cases h2
   ·rw [hl]
    show (i + 1) * 72 ≤ _
    omega
   ·rw [hl]; omega
   intro i' cap' bs hi' h0' _ hbl hbt
   have hts := map_take_succ (f := Tm.cells) hx
   rw [hl] at hbt ⊢
   have hne : i'.gen ≠ gen := by
    rcases hi' with rfl | ⟨n, cap, hv⟩
    ·intro e; simp only at e; rw [e] at e1; exact e1 ▸ rfl
    ·rw [k1] at hv; exact jg _ _ _ hv
   have n1 : ∀ r q, (i' = ⟨gen, r, q⟩) = False := fun r q => by simp only [eq_iff_iff, iff_false]; intro e; exact hne (by rw [e])
   have n2 : ∀ r q, ((⟨gen, r, q⟩ : GoAbs.Id) = i') = False := fun r q => by simp only [eq_iff_iff, iff_false]; intro e; exact hne (by rw [← e])
   have hbt' : bs.take ((i + 1) * 5) = ((f.terms.take (i + 1)).map Tm.cells).flatten := by rw [hts]; exact hbt
   have hl' : ((f.terms.take (i + 1)).map Tm.cells).length = i + 1 := by rw [List.length_map, List.length_take]; omega
   clear hi' jg j9 hc hx hts hbt
   simp only [go_sem, *]
   repeat' (first
    |(refine ⟨?_,?_⟩; focus ((repeat' (first|refine ⟨?_,?_⟩|refine .inr ?_)); all_goals kernel_rfl))
    | (first|refine wp rfl ?_|refine spt rfl ?_|refine spf rfl ?_|(refine spl (fun hc => ?_) fun hc => ?_) <;> (try rw [beq_iff_eq] at hc) <;> try simp only [hc])<;>try simp only [go_sem, *])
   refine AR_inv ?_
   simp only [go_sem, *]
   exact ⟨by repeat (first|assumption|refine Agree.new ?_ (hgf0 _ _)|refine Agree.new ?_ (hfr' _ _)|refine Agree.new ?_ h0'), _, rfl, .inr ⟨i', cap', bs, by rw [hl'], by simp only [go_sem, *], hbl, by rw [hl']; exact hbt', h0'⟩, by intro j n cap e; cases e; exact hne⟩
 ·have hd := lt_false hge
  clear hgn
  obtain rfl : i = f.terms.length := by omega
  rw [List.take_length] at j9
  obtain ⟨oid, cap, bs, rfl, hb, hbl, hbt, h00⟩ : ∃ (oid : GoAbs.Id) (cap : Nat) (bs : List V), v = .slr oid f.terms.length cap ∧ σ.h oid = some (.box bs) ∧ bs.length = cap * 5 ∧ bs.take (f.terms.length * 5) = (f.terms.map Tm.cells).flatten ∧ h oid = none := by
   rcases j9 with ⟨h1, _⟩ | ⟨oid, cap, bs, h1, h2, h3, h4, h5⟩
   ·exact absurd (List.map_eq_nil_iff.1 h1) ht2
   ·rw [List.length_map] at h1 h4; exact ⟨oid, cap, bs, h1, h2, h3, h4, h5⟩
  have hog := jg _ _ _ rfl
  have n1 : ∀ r q, (oid = ⟨gen, r, q⟩) = False := fun r q => by simp only [eq_iff_iff, iff_false]; intro e; exact hog (by rw [e])
  have n2 : ∀ r q, ((⟨gen, r, q⟩ : GoAbs.Id) = oid) = False := fun r q => by simp only [eq_iff_iff, iff_false]; intro e; exact hog (by rw [← e])
  clear jg j9 hog
  have la : f.args.length = 0 := by rw [ha]; rfl
  have d0 : decide ((0 : Int) < 0) = false := rfl
  refine AR_weakBox ⟨gen, 1, 6⟩ jv ?_
  refine AR_cutBox oid (f.terms.length * 5) (cs := bs) (by simp only [go_sem, *]) ?_
  rw [hbt]
  simp only [weakL, weak, weakLL_Ty, weakLL]
  refine wq_ ?_
  refine AR_loop_nat (fun i σ => σ.tm 32 = .int .i64 i ∧ σ.tm 31 = .int .i64 0 ∧ σ.tm 30 = .sl .any [] ∧ σ.tm 2 = .ptr ⟨gen, 0, 1⟩ 0 ∧
   σ.tm 3 = .ptr ⟨gen, 1, 6⟩ 0 ∧ σ.h ⟨gen, 0, 1⟩ = some (.box [.int .i64 0, .int .i64 0, .sl .full [], .sl .full [], .sl .full []]) ∧ Agree h σ.h ∧
   σ.h ⟨gen, 1, 6⟩ = some (.box [.int .i64 f.kind, .int .i64 f.type.kind, .sl .any (f.type.args.map Ty.cells), .slb oid f.terms.length, .sl .any []]) ∧ σ.h oid = some (.box (f.terms.map Tm.cells).flatten)) 0 ?_ ?_
  ·simp only [go_sem, *]
   exact ⟨by first | rfl | simp [ha], by first | rfl | simp [ha], by repeat (first|assumption|refine Agree.new ?_ (hfr' _ _)|refine Agree.new ?_ h00)⟩
  clear jv j1 j2 j3 j4 j5 j5' j6 j7 j8 hd hge hw hi hgf hgf0 e1 e2 hb hbl hbt
  clear σ
  intro i σ hi ⟨j1, j2, j3, j5, j5', j7, j8, jv, hb⟩
  obtain rfl : i = 0 := by omega
  have ev : V.agg (Fm.hole [] (.slb id f.terms.length) f) = fz oid f.terms.length (.slb id f.terms.length) (.agg [.int .i64 f.kind, .int .i64 f.type.kind, .sl .any (f.type.args.map Ty.cells), .slb oid f.terms.length, .sl .any []]) := by
   rw [hole_nil, ha]
   simp only [fz, fzL, fzLL_Ty, fzLL, and_self, if_true, List.map_nil]
  refine AR_gen (fun gn' hgn => ?_)
  have hgf := fresh_of hgn
  have e1 := gen_ne hgn j7
  have e2 := gen_ne' hgn j7
  clear hgn
  have n0 : ((0 : Nat) : Int) = 0 := rfl
  rw [n0] at j1
  refine wq_ ?_
  refine AR_newRow hrel hid (i0 := oid) (cs := (f.terms.map Tm.cells).flatten) (by rw [hres]; simp only [go_sem, *]) ?_ h00 ?_ ?_ ?_
  ·simp only [go_sem, *]
  ·exact InLL_flat.1 (InLL_Tm _)
  ·repeat (first|assumption|refine Agree.new ?_ (hfr' _ _)|refine Agree.new ?_ h00)
  ·simp only [fz, fzL, fzLL_Ty, fzLL, and_self, if_true, InV, InL, InLL, InLL_Ty, capIn]
theorem c_copyStep (f x0 : Fm) (hf : FmW f) (q : Nat) (p : List Nat) (n : Nat) (cs : List V) (hq : f.args[q]? = some x0) (hP : Fm.Path p x0) (hcs : ∀ S : GoAbs.Id → Prop, InL S cs)
  (hN : NewRow Tryz.prog env 44 [.agg x0.cells] (fun id => .agg (Fm.hole p (.slb id n) x0)) cs) :
  NewRow Tryz.prog env 44 [.agg f.cells] (fun id => .agg (Fm.hole (q :: p) (.slb id n) f)) cs := by
 intro h id hid
 have hlen := hf.len
 have htlen := hf.tlen
 have hql : q < f.args.length := (List.getElem?_eq_some_iff.1 hq).1
 have hc0 := c_refCopy f.type hf.ty
 refine en_ Tryz.func44 [.cell 2 29] fun g0 w0 gen hrel hfr hfr' hres => ?_
 refine wq_ ?_
 clear hc0
 refine AR_loop_nat (fun i σ => σ.tm 17 = .int .i64 i ∧ σ.tm 16 = .int .i64 f.terms.length ∧ σ.tm 15 = .sl .any (f.terms.map Tm.cells) ∧ σ.tm 1 = .ptr ⟨gen, 0, 0⟩ 0 ∧ σ.tm 2 = .ptr ⟨gen, 0, 1⟩ 0 ∧
  σ.tm 3 = .ptr ⟨gen, 1, 6⟩ 0 ∧ σ.h ⟨gen, 0, 0⟩ = some (.box f.cells) ∧ σ.h ⟨gen, 0, 1⟩ = some (.box [.int .i64 0, .int .i64 0, .sl .full [], .sl .full [], .sl .full []]) ∧ Agree h σ.h ∧
  ∃ v, σ.h ⟨gen, 1, 6⟩ = some (.box [.int .i64 f.kind, .int .i64 f.type.kind, .sl .any (f.type.args.map Ty.cells), v, .sl .full []]) ∧ OwnS h σ.h v 5 ((f.terms.take i).map Tm.cells)) f.terms.length ?_ ?_
 ·simp only [go_sem, *]
  exact ⟨rfl, by repeat (first|exact Agree.refl _|refine Agree.new ?_ (hfr' _ _)), _, rfl, .inl (by simp)⟩
 intro i σ hi ⟨j1, j2, j3, j4, j5, j5', j6, j7, j8, v, jv, j9⟩
 refine AR_gen (fun gn hgn => ?_)
 have hgf := fresh_of hgn
 have hgf0 : ∀ r i, h ⟨gn, r, i⟩ = none := fun r i => agree_fresh j8 (hgf r i)
 have e1 := gen_ne hgn j6
 have e2 := gen_ne' hgn j6
 have hw := wrap_succ (i := i) (by omega)
 rcases Nat.lt_or_ge i f.terms.length with hlt | hge
 ·have hd := lt_true hlt
  obtain ⟨x, hx⟩ : ∃ x, f.terms[i]? = some x := ⟨_, List.getElem?_eq_getElem hlt⟩
  have hm := min_lt hlt
  have b1 : (i + 1) * 72 ≤ 140737488355328 := by omega
  have b2 : i + 1 ≤ 140737488355328 := by omega
  have hts := map_take_succ (f := Tm.cells) hx
  have hc := c_tmCopy x (hf.term (List.mem_of_getElem? hx))
  clear hN hq hP hcs hql
  rcases j9 with rfl | ⟨id, rfl, j10, j11⟩
  ·
   clear hgn
   repeat' (first
    |(refine ⟨?_,?_⟩; focus ((repeat' (first|refine ⟨?_,?_⟩|refine .inr ?_)); all_goals kernel_rfl))
    | (first|refine wp rfl ?_|refine spt rfl ?_|refine spf rfl ?_|(refine spl (fun hc => ?_) fun hc => ?_) <;> (try rw [beq_iff_eq] at hc) <;> try simp only [hc]|refine cp hc ?_)<;>try simp only [go_sem, *])
   refine AR_inv ?_
   simp only [go_sem, *]
   exact ⟨by repeat (first|assumption|refine Agree.new ?_ (hgf0 _ _)|refine Agree.new ?_ (hfr' _ _)), _, rfl, .inr ⟨_, rfl, by simp only [go_sem, *], by first|exact hgf0 _ _|assumption⟩⟩
  ·
   have e3 := fresh_ne hgn j10
   have e4 := fresh_ne' hgn j10
   have e5 := obj_ne j6 j10
   have e6 := obj_ne j7 j10
   have e7 := obj_ne jv j10
   have e8 := obj_ne' jv j10
   clear hgn
   repeat' (first
    |(refine ⟨?_,?_⟩; focus ((repeat' (first|refine ⟨?_,?_⟩|refine .inr ?_)); all_goals kernel_rfl))
    | (first|refine wp rfl ?_|refine spt rfl ?_|refine spf rfl ?_|(refine spl (fun hc => ?_) fun hc => ?_) <;> (try rw [beq_iff_eq] at hc) <;> try simp only [hc]|refine cp hc ?_)<;>try simp only [go_sem, *])
   refine AR_inv ?_
   simp only [go_sem, *]
   exact ⟨by repeat (first|assumption|refine Agree.new ?_ (hgf0 _ _)|refine Agree.new ?_ (hfr' _ _)|refine Agree.new ?_ j11), _, rfl, .inr ⟨_, rfl, by simp only [go_sem, *], by first|exact hgf0 _ _|assumption⟩⟩
 have hd := lt_false hge
 clear hgn
 obtain rfl : i = f.terms.length := by omega
 rw [List.take_length] at j9
 obtain ⟨c, rfl⟩ := j9.val
 clear j9
 refine wq_ ?_
 refine AR_loop_nat (fun i σ => σ.tm 32 = .int .i64 i ∧ σ.tm 31 = .int .i64 f.args.length ∧ σ.tm 30 = .sl .any (f.args.map Fm.cells) ∧ σ.tm 1 = .ptr ⟨gen, 0, 0⟩ 0 ∧ σ.tm 2 = .ptr ⟨gen, 0, 1⟩ 0 ∧
  σ.tm 3 = .ptr ⟨gen, 1, 6⟩ 0 ∧ σ.h ⟨gen, 0, 0⟩ = some (.box f.cells) ∧ σ.h ⟨gen, 0, 1⟩ = some (.box [.int .i64 0, .int .i64 0, .sl .full [], .sl .full [], .sl .full []]) ∧ Agree h σ.h ∧
  ∃ v oid, σ.h ⟨gen, 1, 6⟩ = some (.box [.int .i64 f.kind, .int .i64 f.type.kind, .sl .any (f.type.args.map Ty.cells), .sl c (f.terms.map Tm.cells), v]) ∧ OwnS h σ.h v 5 ((holeRow f q (Fm.hole p (.slb oid n) x0)).take i) ∧
   (q < i → σ.h oid = some (.box cs) ∧ h oid = none ∧ oid.gen ≠ gen)) f.args.length ?_ ?_
 ·simp only [go_sem, *]
  exact ⟨rfl, _, ⟨0, 0, 0⟩, rfl, .inl (by simp), by intro h; omega⟩
 clear jv j1 j2 j3 j4 j5 j5' j6 j7 j8 hd hge hw hi hgf hgf0 e1 e2
 clear σ
 intro i σ hi ⟨j1, j2, j3, j4, j5, j5', j6, j7, j8, v, oid, jv, j9, jo⟩
 refine AR_gen (fun gn' hgn => ?_)
 have hgf := fresh_of hgn
 have hgf0 : ∀ r i, h ⟨gn', r, i⟩ = none := fun r i => agree_fresh j8 (hgf r i)
 have e1 := gen_ne hgn j6
 have e2 := gen_ne' hgn j6
 have hw := wrap_succ (i := i) (by omega)
 rcases Nat.lt_or_ge i f.args.length with hlt | hge
 ·have hd := lt_true hlt
  obtain ⟨x, hx⟩ : ∃ x, f.args[i]? = some x := ⟨_, List.getElem?_eq_getElem hlt⟩
  have hm := min_lt hlt
  have hrl : ((holeRow f q (Fm.hole p (.slb oid n) x0)).take i).length = i := by rw [List.length_take, holeRow_len]; omega
  have b1 : (i + 1) * 88 ≤ 140737488355328 := by omega
  have b2 : i + 1 ≤ 140737488355328 := by omega
  have hne : (gn' = gen) = False := e2
  rcases Nat.lt_trichotomy i q with hiq | rfl | hiq
  ·have hq2 : ¬ q < i + 1 := by omega
   have hrow : (holeRow f q (Fm.hole p (.slb oid n) x0)).take (i + 1) = (holeRow f q (Fm.hole p (.slb oid n) x0)).take i ++ [x.cells] := by
    rw [holeRow_take hx, if_neg (by omega)]
   have hc := c_fmCopy x (hf.arg (List.mem_of_getElem? hx))
   clear jo hN hcs
   have hral : ((holeRow f q (Fm.hole p (.slb oid n) x0)).take i).all (fun e => e.length == 5) = true := by
    rw [List.all_eq_true]; intro e he; simpa using holeRow_all hole_len e (List.mem_of_mem_take he)
   generalize hR0 : (holeRow f q (Fm.hole p (.slb oid n) x0)).take i = R0 at *
   clear hR0
   have hrl2 : ((holeRow f q (Fm.hole p (.slb oid n) x0)).take (i + 1)).length = i + 1 := by rw [hrow]; simp [hrl]
   rcases j9 with rfl | ⟨id, rfl, j10, j11⟩
   ·
    clear hgn
    repeat' (first
     |(refine ⟨?_,?_⟩; focus ((repeat' (first|refine ⟨?_,?_⟩|refine .inr ?_)); all_goals kernel_rfl))
     | (first|refine wp rfl ?_|refine spt rfl ?_|refine spf rfl ?_|(refine spl (fun hc => ?_) fun hc => ?_) <;> (try rw [beq_iff_eq] at hc) <;> try simp only [hc]|refine cp hc ?_)<;>try simp only [go_sem, *])
    refine AR_inv ?_
    simp only [go_sem, *]
    exact ⟨by repeat (first|assumption|refine Agree.new ?_ (hgf0 _ _)|refine Agree.new ?_ (hfr' _ _)), _, oid, rfl, .inr ⟨_, by first | rw [hrow] | rw [hE, hrow], by simp only [go_sem, *, hrl2], by first|exact hgf0 _ _|assumption⟩⟩
   ·
    have e3 := fresh_ne hgn j10
    have e4 := fresh_ne' hgn j10
    have e5 := obj_ne j6 j10
    have e6 := obj_ne j7 j10
    have e7 := obj_ne jv j10
    have e8 := obj_ne' jv j10
    clear hgn
    repeat' (first
     |(refine ⟨?_,?_⟩; focus ((repeat' (first|refine ⟨?_,?_⟩|refine .inr ?_)); all_goals kernel_rfl))
     | (first|refine wp rfl ?_|refine spt rfl ?_|refine spf rfl ?_|(refine spl (fun hc => ?_) fun hc => ?_) <;> (try rw [beq_iff_eq] at hc) <;> try simp only [hc]|refine cp hc ?_)<;>try simp only [go_sem, *])
    refine AR_inv ?_
    simp only [go_sem, *]
    exact ⟨by repeat (first|assumption|refine Agree.new ?_ (hgf0 _ _)|refine Agree.new ?_ (hfr' _ _)|refine Agree.new ?_ j11), _, oid, rfl, .inr ⟨_, by first | rw [hrow] | rw [hE, hrow], by simp only [go_sem, *, hrl2], by first|exact hgf0 _ _|assumption⟩⟩
  ·obtain rfl : x = x0 := by rw [hx] at hq; cases hq; rfl
   have hA := hN.at ⟨gn', 1000, 0⟩
   have hA5 : (Fm.hole p (.slb ⟨gn', 1000, 0⟩ n) x).length = 5 := hole_len
   have hA1 : (Fm.hole p (.slb ⟨gn', 1000, 0⟩ n) x).all oneV = true := hole_one rfl
   have hAw : weakL (Fm.hole p (.slb ⟨gn', 1000, 0⟩ n) x) = Fm.hole p (.slb ⟨gn', 1000, 0⟩ n) x := weakL_hole hP
   have hql2 : i < i + 1 := by omega
   have hrow : (holeRow f i (Fm.hole p (.slb ⟨gn', 1000, 0⟩ n) x)).take (i + 1) = (holeRow f i (Fm.hole p (.slb oid n) x)).take i ++ [Fm.hole p (.slb ⟨gn', 1000, 0⟩ n) x] := by
    rw [holeRow_take hx, if_pos rfl, holeRow_lo (Nat.le_refl _)]
   clear jo hN hcs
   have hral : ((holeRow f i (Fm.hole p (.slb oid n) x)).take i).all (fun e => e.length == 5) = true := by
    rw [List.all_eq_true]; intro e he; simpa using holeRow_all hole_len e (List.mem_of_mem_take he)
   generalize hR0 : (holeRow f i (Fm.hole p (.slb oid n) x)).take i = R0 at *
   clear hR0
   have hrl2 : ((holeRow f i (Fm.hole p (.slb ⟨gn', 1000, 0⟩ n) x)).take (i + 1)).length = i + 1 := by rw [hrow]; simp [hrl]
   generalize hE : Fm.hole p (.slb ⟨gn', 1000, 0⟩ n) x = E at *
   rcases j9 with rfl | ⟨id, rfl, j10, j11⟩
   ·
    clear hgn
    repeat' (first
     |refine AR_seq ?_|refine AR_skip ?_|refine AR_block ?_|refine AR_block_end ?_|refine AR_exit ?_|refine AR_code_exit ?_|refine AR_inv_exit ?_|refine AR_block_hit ?_
     |refine AR_block_pass (by decide) ?_|refine AR_ret ?_|refine AR_fall ?_
     |(refine ⟨?_,?_⟩; focus ((repeat' (first|refine ⟨?_,?_⟩|refine .inr ?_)); all_goals kernel_rfl))
     |refine AR_cond_t rfl ?_|refine AR_cond_f rfl ?_|(refine AR_cond rfl (fun hc => ?_) (fun hc => ?_) <;> (try rw [beq_iff_eq] at hc) <;> (try simp only [hc]))
     |(refine Call1_newAt hA (by first|exact hgf _ _ | simp only [go_sem, *]) ?_ <;> simp only [go_sem, *])
     | ((first|refine AR_region ?_|(refine guarded_split (fun hb => ?_) (fun hb => ?_) <;> (try simp only [Bool.not_true, Bool.not_false] at hb))) <;> simp only [go_sem, *]))
    refine AR_inv ?_
    simp only [go_sem, *]
    exact ⟨by repeat (first|assumption|refine Agree.new ?_ (hgf0 _ _)|refine Agree.new ?_ (hfr' _ _)), _, ⟨gn', 1000, 0⟩, rfl, .inr ⟨_, by first | rw [hrow] | rw [hE, hrow], by simp only [go_sem, *, hrl2], by first|exact hgf0 _ _|assumption⟩, by simp only [go_sem, *], hgf0 1000 0, fun e => by simp only at e; rw [hne] at e; exact e⟩
   ·
    have e3 := fresh_ne hgn j10
    have e4 := fresh_ne' hgn j10
    have e5 := obj_ne j6 j10
    have e6 := obj_ne j7 j10
    have e7 := obj_ne jv j10
    have e8 := obj_ne' jv j10
    clear hgn
    repeat' (first
     |refine AR_seq ?_|refine AR_skip ?_|refine AR_block ?_|refine AR_block_end ?_|refine AR_exit ?_|refine AR_code_exit ?_|refine AR_inv_exit ?_|refine AR_block_hit ?_
     |refine AR_block_pass (by decide) ?_|refine AR_ret ?_|refine AR_fall ?_
     |(refine ⟨?_,?_⟩; focus ((repeat' (first|refine ⟨?_,?_⟩|refine .inr ?_)); all_goals kernel_rfl))
     |refine AR_cond_t rfl ?_|refine AR_cond_f rfl ?_|(refine AR_cond rfl (fun hc => ?_) (fun hc => ?_) <;> (try rw [beq_iff_eq] at hc) <;> (try simp only [hc]))
     |(refine Call1_newAt hA (by first|exact hgf _ _ | simp only [go_sem, *]) ?_ <;> simp only [go_sem, *])
     | ((first|refine AR_region ?_|(refine guarded_split (fun hb => ?_) (fun hb => ?_) <;> (try simp only [Bool.not_true, Bool.not_false] at hb))) <;> simp only [go_sem, *]))
    refine AR_inv ?_
    simp only [go_sem, *]
    exact ⟨by repeat (first|assumption|refine Agree.new ?_ (hgf0 _ _)|refine Agree.new ?_ (hfr' _ _)|refine Agree.new ?_ j11), _, ⟨gn', 1000, 0⟩, rfl, .inr ⟨_, by first | rw [hrow] | rw [hE, hrow], by simp only [go_sem, *, hrl2], by first|exact hgf0 _ _|assumption⟩, by simp only [go_sem, *], hgf0 1000 0, fun e => by simp only at e; rw [hne] at e; exact e⟩
  ·have hrow : (holeRow f q (Fm.hole p (.slb oid n) x0)).take (i + 1) = (holeRow f q (Fm.hole p (.slb oid n) x0)).take i ++ [x.cells] := by
    rw [holeRow_take hx, if_neg (by omega)]
   obtain ⟨jb, jo0, jog⟩ := jo hiq
   have n1 : ∀ r q, (oid = ⟨gen, r, q⟩) = False := fun r q => by simp only [eq_iff_iff, iff_false]; intro e; exact jog (by rw [e])
   have n2 : ∀ r q, ((⟨gen, r, q⟩ : GoAbs.Id) = oid) = False := fun r q => by simp only [eq_iff_iff, iff_false]; intro e; exact jog (by rw [← e])
   have n3 := fresh_ne hgn jb
   have n4 := fresh_ne' hgn jb
   have hc := c_fmCopy x (hf.arg (List.mem_of_getElem? hx))
   clear jo hN hcs
   have hral : ((holeRow f q (Fm.hole p (.slb oid n) x0)).take i).all (fun e => e.length == 5) = true := by
    rw [List.all_eq_true]; intro e he; simpa using holeRow_all hole_len e (List.mem_of_mem_take he)
   generalize hR0 : (holeRow f q (Fm.hole p (.slb oid n) x0)).take i = R0 at *
   clear hR0
   have hrl2 : ((holeRow f q (Fm.hole p (.slb oid n) x0)).take (i + 1)).length = i + 1 := by rw [hrow]; simp [hrl]
   rcases j9 with rfl | ⟨id, rfl, j10, j11⟩
   ·
    clear hgn
    repeat' (first
     |(refine ⟨?_,?_⟩; focus ((repeat' (first|refine ⟨?_,?_⟩|refine .inr ?_)); all_goals kernel_rfl))
     | (first|refine wp rfl ?_|refine spt rfl ?_|refine spf rfl ?_|(refine spl (fun hc => ?_) fun hc => ?_) <;> (try rw [beq_iff_eq] at hc) <;> try simp only [hc]|refine cp hc ?_)<;>try simp only [go_sem, *])
    refine AR_inv ?_
    simp only [go_sem, *]
    exact ⟨by repeat (first|assumption|refine Agree.new ?_ (hgf0 _ _)|refine Agree.new ?_ (hfr' _ _)), _, oid, rfl, .inr ⟨_, by first | rw [hrow] | rw [hE, hrow], by simp only [go_sem, *, hrl2], by first|exact hgf0 _ _|assumption⟩, by simp only [go_sem, *], jo0, jog⟩
   ·
    have e3 := fresh_ne hgn j10
    have e4 := fresh_ne' hgn j10
    have e5 := obj_ne j6 j10
    have e6 := obj_ne j7 j10
    have e7 := obj_ne jv j10
    have e8 := obj_ne' jv j10
    have n5 := obj_ne jb j10
    have n6 := obj_ne' jb j10
    clear hgn
    repeat' (first
     |(refine ⟨?_,?_⟩; focus ((repeat' (first|refine ⟨?_,?_⟩|refine .inr ?_)); all_goals kernel_rfl))
     | (first|refine wp rfl ?_|refine spt rfl ?_|refine spf rfl ?_|(refine spl (fun hc => ?_) fun hc => ?_) <;> (try rw [beq_iff_eq] at hc) <;> try simp only [hc]|refine cp hc ?_)<;>try simp only [go_sem, *])
    refine AR_inv ?_
    simp only [go_sem, *]
    exact ⟨by repeat (first|assumption|refine Agree.new ?_ (hgf0 _ _)|refine Agree.new ?_ (hfr' _ _)|refine Agree.new ?_ j11), _, oid, rfl, .inr ⟨_, by first | rw [hrow] | rw [hE, hrow], by simp only [go_sem, *, hrl2], by first|exact hgf0 _ _|assumption⟩, by simp only [go_sem, *], jo0, jog⟩
 ·have hd := lt_false hge
  clear hgn
  obtain rfl : i = f.args.length := by omega
  rw [List.take_of_length_le (by rw [holeRow_len]; exact Nat.le_refl _)] at j9
  obtain ⟨jb, jo0, jog⟩ := jo hql
  obtain ⟨c', rfl⟩ := j9.val
  clear j9 jo hN
  have n1 : ∀ r q, (oid = ⟨gen, r, q⟩) = False := fun r q => by simp only [eq_iff_iff, iff_false]; intro e; exact jog (by rw [e])
  have n2 : ∀ r q, ((⟨gen, r, q⟩ : GoAbs.Id) = oid) = False := fun r q => by simp only [eq_iff_iff, iff_false]; intro e; exact jog (by rw [← e])
  have ev : V.agg (Fm.hole (q :: p) (.slb id n) f) = fz oid n (.slb id n) (.agg [.int .i64 f.kind, .int .i64 f.type.kind, .sl .any (f.type.args.map Ty.cells), .sl .any (f.terms.map Tm.cells), .sl .any (holeRow f q (Fm.hole p (.slb oid n) x0))]) :=
   (hole_fz (id := id) hq hP).symm
  have eu := hole_fz (id := id) (oid := oid) (n := n) (X := .undef) hq hP
  have iu : InL (fun j => h j ≠ none) (Fm.hole (q :: p) .undef f) := InL_hole (by simp only [InV]) (.step hq hP)
  refine AR_weakBox ⟨gen, 1, 6⟩ jv ?_
  simp only [weakL, weak, weakLL_Ty, weakLL_Tm, weakLL_holeRow hP]
  have ci := hcs (fun j => h j ≠ none)
  clear hcs hP hq
  rw [ev]
  generalize holeRow f q (Fm.hole p (.slb oid n) x0) = R at *
  generalize Fm.hole (q :: p) .undef f = U at *
  generalize Fm.hole (q :: p) (.slb id n) f = U' at *
  clear ev
  refine wq_ ?_
  refine AR_newRow hrel hid (i0 := oid) (cs := cs) (by rw [hres]; simp only [go_sem, *]) ?_ jo0 ci ?_ ?_
  ·simp only [go_sem, *]
  ·repeat (first|assumption|refine Agree.new ?_ (hfr' _ _)|refine Agree.new ?_ jo0)
  ·rw [eu]; simp only [InV]; exact iu
theorem c_copyPath (n : Nat) : ∀ (p : List Nat) (f : Fm), FmW f → Fm.Path p f → (f.atP p).terms.length = n → (f.atP p).terms ≠ [] →
  NewRow Tryz.prog env 44 [.agg f.cells] (fun id => .agg (Fm.hole p (.slb id n) f)) ((f.atP p).terms.map Tm.cells).flatten
 | [], f, hf, hP, hn, hne => by
  cases hP with
  | leaf ha => 
   subst hn
   exact c_copyLeaf f hf ha hne
 | q :: p, f, hf, hP, hn, hne => by
  cases hP with
  | @step _ x _ _ hq hx =>
   rw [Fm.atP, fa_at hq] at hn hne ⊢
   exact c_copyStep f x hf q p n _ hq hx (fun S => InLL_flat.1 (InLL_Tm _)) (c_copyPath n p x (hf.arg (List.mem_of_getElem? hq)) hx hn hne)
end Go.Proofs.YtmbpmbofehmdaaaGreatDoor
