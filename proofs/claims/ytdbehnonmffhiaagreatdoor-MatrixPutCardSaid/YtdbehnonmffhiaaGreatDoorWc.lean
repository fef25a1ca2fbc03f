/-
  Walks: copies of terms and formulas.
-/
import Derived.Test.YtdbehnonmffhiaaGreatDoorWb
set_option linter.unusedSimpArgs false
set_option linter.unusedVariables false
set_option maxRecDepth 20000
namespace Go.Proofs.YtdbehnonmffhiaaGreatDoor
open Go GoAbs Go.Proofs

theorem c_tmCopy : ∀ t : Tm, TmW t → Pure Tryz.prog env 50 [.agg t.cells] (.agg t.cells) := by
  intro t
  induction t using Tm.ind with | h t ih => ?_
  intro ht h
  have hlen := ht.len
  have ih' : ∀ x ∈ t.args, Pure Tryz.prog env 50 [.agg x.cells] (.agg x.cells) := fun x hx => ih x hx (ht.arg hx)
  clear ih
  refine enter Tryz.func50 [.cell 2 37] rfl (by kernel_rfl) follows (by kernel_rfl) rfl fun g0 w0 gen hrel hfr hfr' hres => ?_
  repeat' (first
    | (refine ⟨?_, ?_⟩; focus ((repeat' (first | refine And.intro ?_ ?_ | refine Or.inr ?_)); all_goals kernel_rfl))
    | exact hin _ | exact agf (by assumption)
    | (first | refine wp rfl ?_ | refine spt rfl ?_ | refine spf rfl ?_ | (refine spl (fun hc => ?_) fun hc => ?_) <;> (try rw [beq_iff_eq] at hc) <;> try simp only [hc] | refine finF hrel ?_ ?_ ?_) <;> try simp only [go_sem, *])
  refine AR_loop_nat (fun i σ => σ.tm 9 = .int .i64 i ∧ σ.tm 8 = .int .i64 t.args.length ∧ σ.tm 7 = .sl .any (t.args.map Tm.cells) ∧ σ.tm 1 = .ptr ⟨gen, 0, 0⟩ 0 ∧ σ.tm 2 = .ptr ⟨gen, 0, 1⟩ 0 ∧
    σ.h ⟨gen, 0, 0⟩ = some (.box t.cells) ∧ σ.h ⟨gen, 0, 1⟩ = some (.box [.int .i64 0, .int .i64 0, .int .i64 0, .sl .full [], .sl .full []]) ∧ Agree h σ.h ∧ OwnS h σ.h (σ.tm 3) 5 ((t.args.take i).map Tm.cells)) t.args.length ?_ ?_
  · simp only [go_sem, *]
    exact ⟨rfl, .new (.new (.refl _) (hfr' _ _)) (hfr' _ _), .inl (by simp)⟩
  intro i σ hi ⟨j1, j2, j3, j4, j5, j6, j7, j8, j9⟩
  refine AR_gen (fun gn hgn => ?_)
  have hgf := fresh_of hgn
  have hgf0 : ∀ r i, h ⟨gn, r, i⟩ = none := fun r i => agree_fresh j8 (hgf r i)
  have e1 := gen_ne hgn j6
  have e2 := gen_ne' hgn j6
  have hw := wrap_succ (i := i) (by omega)
  rcases Nat.lt_or_ge i t.args.length with hlt | hge
  · have hd := lt_true hlt
    obtain ⟨x, hx⟩ : ∃ x, t.args[i]? = some x := ⟨_, List.getElem?_eq_getElem hlt⟩
    have hm := min_lt hlt
    have b1 : (i + 1) * 72 ≤ 140737488355328 := by omega
    have b2 : i + 1 ≤ 140737488355328 := by omega
    have hts := map_take_succ (f := Tm.cells) hx
    have hc := ih' x (List.mem_of_getElem? hx)
    rcases j9 with j9 | ⟨id, j9, j10, j11⟩
    ·
      clear hgn
      repeat' (first
        | (refine ⟨?_, ?_⟩; focus ((repeat' (first | refine And.intro ?_ ?_ | refine Or.inr ?_)); all_goals kernel_rfl))
        | (first | refine wp rfl ?_ | refine spt rfl ?_ | refine spf rfl ?_ | (refine spl (fun hc => ?_) fun hc => ?_) <;> (try rw [beq_iff_eq] at hc) <;> try simp only [hc] | refine Call1_pure (hc) ?_) <;> try simp only [go_sem, *])
      refine AR_inv ?_
      simp only [go_sem, *]
      exact ⟨by repeat (first | assumption | refine Agree.new ?_ (hgf0 _ _) | refine Agree.new ?_ j11), .inr ⟨_, rfl, by simp only [go_sem, *], by first | exact hgf0 _ _ | assumption⟩⟩
    ·
      have e3 := fresh_ne hgn j10
      have e4 := fresh_ne' hgn j10
      have e5 := obj_ne j6 j10
      have e6 := obj_ne j7 j10
      clear hgn
      repeat' (first
        | (refine ⟨?_, ?_⟩; focus ((repeat' (first | refine And.intro ?_ ?_ | refine Or.inr ?_)); all_goals kernel_rfl))
        | (first | refine wp rfl ?_ | refine spt rfl ?_ | refine spf rfl ?_ | (refine spl (fun hc => ?_) fun hc => ?_) <;> (try rw [beq_iff_eq] at hc) <;> try simp only [hc] | refine Call1_pure (hc) ?_) <;> try simp only [go_sem, *])
      refine AR_inv ?_
      simp only [go_sem, *]
      exact ⟨by repeat (first | assumption | refine Agree.new ?_ (hgf0 _ _) | refine Agree.new ?_ j11), .inr ⟨_, rfl, by simp only [go_sem, *], by first | exact hgf0 _ _ | assumption⟩⟩
  · have hd := lt_false hge
    clear hgn
    obtain rfl : i = t.args.length := by omega
    rw [List.take_length] at j9
    obtain ⟨c, j9⟩ := j9.val
    have hc := c_refCopy t.type ht.ty
    repeat' (first
      | (refine ⟨?_, ?_⟩; focus ((repeat' (first | refine And.intro ?_ ?_ | refine Or.inr ?_)); all_goals kernel_rfl))
      | exact hin _ | exact agf (by assumption)
      | (first | refine wp rfl ?_ | refine spt rfl ?_ | refine spf rfl ?_ | (refine spl (fun hc => ?_) fun hc => ?_) <;> (try rw [beq_iff_eq] at hc) <;> try simp only [hc] | refine Call1_pure (hc) ?_ | refine finF hrel ?_ ?_ ?_) <;> try simp only [go_sem, *])
    rw [Tm.cells_eq]

theorem c_fmCopy : ∀ f : Fm, FmW f → Pure Tryz.prog env 47 [.agg f.cells] (.agg f.cells) := by
  intro f
  induction f using Fm.ind with | h f ih => ?_
  intro ht h
  have hlen := ht.len
  have htlen := ht.tlen
  have ih' : ∀ x ∈ f.args, Pure Tryz.prog env 47 [.agg x.cells] (.agg x.cells) := fun x hx => ih x hx (ht.arg hx)
  clear ih
  have hc0 := c_refCopy f.type ht.ty
  refine enter Tryz.func47 [.cell 2 35] rfl (by kernel_rfl) follows (by kernel_rfl) rfl fun g0 w0 gen hrel hfr hfr' hres => ?_
  repeat' (first
    | (refine ⟨?_, ?_⟩; focus ((repeat' (first | refine And.intro ?_ ?_ | refine Or.inr ?_)); all_goals kernel_rfl))
    | exact hin _ | exact agf (by assumption)
    | (first | refine wp rfl ?_ | refine spt rfl ?_ | refine spf rfl ?_ | (refine spl (fun hc => ?_) fun hc => ?_) <;> (try rw [beq_iff_eq] at hc) <;> try simp only [hc] | refine Call1_pure (hc0) ?_ | refine finF hrel ?_ ?_ ?_) <;> try simp only [go_sem, *])
  clear hc0
  refine AR_loop_nat (fun i σ => σ.tm 17 = .int .i64 i ∧ σ.tm 16 = .int .i64 f.terms.length ∧ σ.tm 15 = .sl .any (f.terms.map Tm.cells) ∧ σ.tm 1 = .ptr ⟨gen, 0, 0⟩ 0 ∧ σ.tm 2 = .ptr ⟨gen, 0, 1⟩ 0 ∧
    σ.tm 3 = .ptr ⟨gen, 1, 6⟩ 0 ∧ σ.h ⟨gen, 0, 0⟩ = some (.box f.cells) ∧ σ.h ⟨gen, 0, 1⟩ = some (.box [.int .i64 0, .int .i64 0, .sl .full [], .sl .full [], .sl .full []]) ∧ Agree h σ.h ∧
    ∃ v, σ.h ⟨gen, 1, 6⟩ = some (.box [.int .i64 f.kind, .int .i64 f.type.kind, .sl .any (f.type.args.map Ty.cells), v, .sl .full []]) ∧ OwnS h σ.h v 5 ((f.terms.take i).map Tm.cells)) f.terms.length ?_ ?_
  · simp only [go_sem, *]
    exact ⟨rfl, by repeat (first | exact Agree.refl _ | refine Agree.new ?_ (hfr' _ _)), _, rfl, .inl (by simp)⟩
  intro i σ hi ⟨j1, j2, j3, j4, j5, j5', j6, j7, j8, v, jv, j9⟩
  refine AR_gen (fun gn hgn => ?_)
  have hgf := fresh_of hgn
  have hgf0 : ∀ r i, h ⟨gn, r, i⟩ = none := fun r i => agree_fresh j8 (hgf r i)
  have e1 := gen_ne hgn j6
  have e2 := gen_ne' hgn j6
  have hw := wrap_succ (i := i) (by omega)
  rcases Nat.lt_or_ge i f.terms.length with hlt | hge
  · have hd := lt_true hlt
    obtain ⟨x, hx⟩ : ∃ x, f.terms[i]? = some x := ⟨_, List.getElem?_eq_getElem hlt⟩
    have hm := min_lt hlt
    have b1 : (i + 1) * 72 ≤ 140737488355328 := by omega
    have b2 : i + 1 ≤ 140737488355328 := by omega
    have hts := map_take_succ (f := Tm.cells) hx
    have hc := c_tmCopy x (ht.term (List.mem_of_getElem? hx))
    clear ih'
    rcases j9 with rfl | ⟨id, rfl, j10, j11⟩
    ·
      clear hgn
      repeat' (first
        | (refine ⟨?_, ?_⟩; focus ((repeat' (first | refine And.intro ?_ ?_ | refine Or.inr ?_)); all_goals kernel_rfl))
        | (first | refine wp rfl ?_ | refine spt rfl ?_ | refine spf rfl ?_ | (refine spl (fun hc => ?_) fun hc => ?_) <;> (try rw [beq_iff_eq] at hc) <;> try simp only [hc] | refine Call1_pure (hc) ?_) <;> try simp only [go_sem, *])
      refine AR_inv ?_
      simp only [go_sem, *]
      exact ⟨by repeat (first | assumption | refine Agree.new ?_ (hgf0 _ _) | refine Agree.new ?_ (hfr' _ _)), _, rfl, .inr ⟨_, rfl, by simp only [go_sem, *], by first | exact hgf0 _ _ | assumption⟩⟩
    ·
      have e3 := fresh_ne hgn j10
      have e4 := fresh_ne' hgn j10
      have e5 := obj_ne j6 j10
      have e6 := obj_ne j7 j10
      have e7 := obj_ne jv j10
      have e8 := obj_ne' jv j10
      clear hgn
      repeat' (first
        | (refine ⟨?_, ?_⟩; focus ((repeat' (first | refine And.intro ?_ ?_ | refine Or.inr ?_)); all_goals kernel_rfl))
        | (first | refine wp rfl ?_ | refine spt rfl ?_ | refine spf rfl ?_ | (refine spl (fun hc => ?_) fun hc => ?_) <;> (try rw [beq_iff_eq] at hc) <;> try simp only [hc] | refine Call1_pure (hc) ?_) <;> try simp only [go_sem, *])
      refine AR_inv ?_
      simp only [go_sem, *]
      exact ⟨by repeat (first | assumption | refine Agree.new ?_ (hgf0 _ _) | refine Agree.new ?_ (hfr' _ _) | refine Agree.new ?_ j11), _, rfl, .inr ⟨_, rfl, by simp only [go_sem, *], by first | exact hgf0 _ _ | assumption⟩⟩
  have hd := lt_false hge
  clear hgn
  obtain rfl : i = f.terms.length := by omega
  rw [List.take_length] at j9
  obtain ⟨c, rfl⟩ := j9.val
  clear j9
  repeat' (first
    | (refine ⟨?_, ?_⟩; focus ((repeat' (first | refine And.intro ?_ ?_ | refine Or.inr ?_)); all_goals kernel_rfl))
    | (first | refine wp rfl ?_ | refine spt rfl ?_ | refine spf rfl ?_ | (refine spl (fun hc => ?_) fun hc => ?_) <;> (try rw [beq_iff_eq] at hc) <;> try simp only [hc]) <;> try simp only [go_sem, *])
  refine AR_loop_nat (fun i σ => σ.tm 32 = .int .i64 i ∧ σ.tm 31 = .int .i64 f.args.length ∧ σ.tm 30 = .sl .any (f.args.map Fm.cells) ∧ σ.tm 1 = .ptr ⟨gen, 0, 0⟩ 0 ∧ σ.tm 2 = .ptr ⟨gen, 0, 1⟩ 0 ∧
    σ.tm 3 = .ptr ⟨gen, 1, 6⟩ 0 ∧ σ.h ⟨gen, 0, 0⟩ = some (.box f.cells) ∧ σ.h ⟨gen, 0, 1⟩ = some (.box [.int .i64 0, .int .i64 0, .sl .full [], .sl .full [], .sl .full []]) ∧ Agree h σ.h ∧
    ∃ v, σ.h ⟨gen, 1, 6⟩ = some (.box [.int .i64 f.kind, .int .i64 f.type.kind, .sl .any (f.type.args.map Ty.cells), .sl c (f.terms.map Tm.cells), v]) ∧ OwnS h σ.h v 5 ((f.args.take i).map Fm.cells)) f.args.length ?_ ?_
  · simp only [go_sem, *]
    exact ⟨rfl, _, rfl, .inl (by simp)⟩
  clear jv j1 j2 j3 j4 j5 j5' j6 j7 j8 hd hge hw hi hgf hgf0 e1 e2
  clear σ
  intro i σ hi ⟨j1, j2, j3, j4, j5, j5', j6, j7, j8, v, jv, j9⟩
  refine AR_gen (fun gn' hgn => ?_)
  have hgf := fresh_of hgn
  have hgf0 : ∀ r i, h ⟨gn', r, i⟩ = none := fun r i => agree_fresh j8 (hgf r i)
  have e1 := gen_ne hgn j6
  have e2 := gen_ne' hgn j6
  have hw := wrap_succ (i := i) (by omega)
  rcases Nat.lt_or_ge i f.args.length with hlt | hge
  · have hd := lt_true hlt
    obtain ⟨x, hx⟩ : ∃ x, f.args[i]? = some x := ⟨_, List.getElem?_eq_getElem hlt⟩
    have hm := min_lt hlt
    have b1 : (i + 1) * 88 ≤ 140737488355328 := by omega
    have b2 : i + 1 ≤ 140737488355328 := by omega
    have hts := map_take_succ (f := Fm.cells) hx
    have hc := ih' x (List.mem_of_getElem? hx)
    clear ih'
    rcases j9 with rfl | ⟨id, rfl, j10, j11⟩
    ·
      clear hgn
      repeat' (first
        | (refine ⟨?_, ?_⟩; focus ((repeat' (first | refine And.intro ?_ ?_ | refine Or.inr ?_)); all_goals kernel_rfl))
        | (first | refine wp rfl ?_ | refine spt rfl ?_ | refine spf rfl ?_ | (refine spl (fun hc => ?_) fun hc => ?_) <;> (try rw [beq_iff_eq] at hc) <;> try simp only [hc] | refine Call1_pure (hc) ?_) <;> try simp only [go_sem, *])
      refine AR_inv ?_
      simp only [go_sem, *]
      exact ⟨by repeat (first | assumption | refine Agree.new ?_ (hgf0 _ _) | refine Agree.new ?_ (hfr' _ _)), _, rfl, .inr ⟨_, rfl, by simp only [go_sem, *], by first | exact hgf0 _ _ | assumption⟩⟩
    ·
      have e3 := fresh_ne hgn j10
      have e4 := fresh_ne' hgn j10
      have e5 := obj_ne j6 j10
      have e6 := obj_ne j7 j10
      have e7 := obj_ne jv j10
      have e8 := obj_ne' jv j10
      clear hgn
      repeat' (first
        | (refine ⟨?_, ?_⟩; focus ((repeat' (first | refine And.intro ?_ ?_ | refine Or.inr ?_)); all_goals kernel_rfl))
        | (first | refine wp rfl ?_ | refine spt rfl ?_ | refine spf rfl ?_ | (refine spl (fun hc => ?_) fun hc => ?_) <;> (try rw [beq_iff_eq] at hc) <;> try simp only [hc] | refine Call1_pure (hc) ?_) <;> try simp only [go_sem, *])
      refine AR_inv ?_
      simp only [go_sem, *]
      exact ⟨by repeat (first | assumption | refine Agree.new ?_ (hgf0 _ _) | refine Agree.new ?_ (hfr' _ _) | refine Agree.new ?_ j11), _, rfl, .inr ⟨_, rfl, by simp only [go_sem, *], by first | exact hgf0 _ _ | assumption⟩⟩
  have hd := lt_false hge
  clear hgn
  obtain rfl : i = f.args.length := by omega
  rw [List.take_length] at j9
  obtain ⟨c', rfl⟩ := j9.val
  clear j9
  repeat' (first
    | (refine ⟨?_, ?_⟩; focus ((repeat' (first | refine And.intro ?_ ?_ | refine Or.inr ?_)); all_goals kernel_rfl))
    | exact hin _ | exact agf (by assumption)
    | (first | refine wp rfl ?_ | refine spt rfl ?_ | refine spf rfl ?_ | (refine spl (fun hc => ?_) fun hc => ?_) <;> (try rw [beq_iff_eq] at hc) <;> try simp only [hc] | refine finF hrel ?_ ?_ ?_) <;> try simp only [go_sem, *])
  rw [Fm.cells_eq]
end Go.Proofs.YtdbehnonmffhiaaGreatDoor
