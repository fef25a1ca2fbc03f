/-
  Walks: makers with loops.
-/
import Derived.Test.YtdbehnonmffhiaaGreatDoorWe
set_option linter.unusedSimpArgs false
set_option linter.unusedVariables false
set_option maxRecDepth 20000
namespace Go.Proofs.YtdbehnonmffhiaaGreatDoor
open Go GoAbs Go.Proofs

theorem c_N (k : Int) (l : List Tm) (hl : l.length ≤ 1000) (hw0 : ∀ x ∈ l, TmW x) : Pure Tryz.prog env 24 [.int .i64 k, .sl .any (l.map Tm.cells)] (.agg (tm0 k l).cells) := by
  intro h
  have ih' : ∀ x ∈ l, Pure Tryz.prog env 50 [.agg x.cells] (.agg x.cells) := fun x hx => c_tmCopy x (hw0 x hx)
  clear hw0
  refine enter Tryz.func24 [.cell 4 37] rfl (by kernel_rfl) follows (by kernel_rfl) rfl fun g0 w0 gen hrel hfr hfr' hres => ?_
  repeat' (first
    | exact hin _ | exact agf (by assumption)
    | (first | refine wp rfl ?_ | refine spt rfl ?_ | refine spf rfl ?_ | (refine spl (fun hc => ?_) fun hc => ?_) <;> (try rw [beq_iff_eq] at hc) <;> try simp only [hc] | refine finF hrel ?_ ?_ ?_) <;> try simp only [go_sem, *])
  refine AR_loop_nat (fun i σ => σ.tm 10 = .int .i64 i ∧ σ.tm 9 = .int .i64 l.length ∧ σ.tm 8 = .sl .any (l.map Tm.cells) ∧ σ.tm 0 = .int .i64 k ∧ σ.tm 4 = .ptr ⟨gen, 0, 0⟩ 0 ∧
    σ.h ⟨gen, 0, 0⟩ = some (.box [.int .i64 0, .int .i64 0, .int .i64 0, .sl .full [], .sl .full []]) ∧ Agree h σ.h ∧ OwnS h σ.h (σ.tm 5) 5 ((l.take i).map Tm.cells)) l.length ?_ ?_
  · simp only [go_sem, *]
    exact ⟨rfl, .new (.refl _) (hfr' _ _), .inl (by simp)⟩
  intro i σ hi ⟨j1, j2, j3, j4, j5, j6, j8, j9⟩
  refine AR_gen (fun gn hgn => ?_)
  have hgf := fresh_of hgn
  have hgf0 : ∀ r i, h ⟨gn, r, i⟩ = none := fun r i => agree_fresh j8 (hgf r i)
  have e1 := gen_ne hgn j6
  have e2 := gen_ne' hgn j6
  have hw := wrap_succ (i := i) (by omega)
  rcases Nat.lt_or_ge i l.length with hlt | hge
  · have hd := lt_true hlt
    obtain ⟨x, hx⟩ : ∃ x, l[i]? = some x := ⟨_, List.getElem?_eq_getElem hlt⟩
    have hm := min_lt hlt
    have b1 : (i + 1) * 72 ≤ 140737488355328 := by omega
    have b2 : i + 1 ≤ 140737488355328 := by omega
    have hts := map_take_succ (f := Tm.cells) hx
    have hc := ih' x (List.mem_of_getElem? hx)
    rcases j9 with j9 | ⟨id, j9, j10, j11⟩
    ·
      clear hgn
      repeat' (first
        | (first | refine wp rfl ?_ | refine spt rfl ?_ | refine spf rfl ?_ | (refine spl (fun hc => ?_) fun hc => ?_) <;> (try rw [beq_iff_eq] at hc) <;> try simp only [hc] | refine Call1_pure (hc) ?_) <;> try simp only [go_sem, *])
      refine AR_inv ?_
      simp only [go_sem, *]
      exact ⟨by repeat (first | assumption | refine Agree.new ?_ (hgf0 _ _) | refine Agree.new ?_ j11), .inr ⟨_, rfl, by simp only [go_sem, *], by first | exact hgf0 _ _ | assumption⟩⟩
    ·
      have e3 := fresh_ne hgn j10
      have e4 := fresh_ne' hgn j10
      have e5 := obj_ne j6 j10
      clear hgn
      repeat' (first
        | (first | refine wp rfl ?_ | refine spt rfl ?_ | refine spf rfl ?_ | (refine spl (fun hc => ?_) fun hc => ?_) <;> (try rw [beq_iff_eq] at hc) <;> try simp only [hc] | refine Call1_pure (hc) ?_) <;> try simp only [go_sem, *])
      refine AR_inv ?_
      simp only [go_sem, *]
      exact ⟨by repeat (first | assumption | refine Agree.new ?_ (hgf0 _ _) | refine Agree.new ?_ j11), .inr ⟨_, rfl, by simp only [go_sem, *], by first | exact hgf0 _ _ | assumption⟩⟩
  · have hd := lt_false hge
    clear hgn
    obtain rfl : i = l.length := by omega
    rw [List.take_length] at j9
    obtain ⟨c, j9⟩ := j9.val
    repeat' (first
      | exact hin _ | exact agf (by assumption)
      | (first | refine wp rfl ?_ | refine spt rfl ?_ | refine spf rfl ?_ | (refine spl (fun hc => ?_) fun hc => ?_) <;> (try rw [beq_iff_eq] at hc) <;> try simp only [hc] | refine finF hrel ?_ ?_ ?_) <;> try simp only [go_sem, *])
    simp [tm0, Tm.mk_cells, Ty.mk_kind, Ty.mk_args]

theorem c_T (k : Int) (t : Ty) (l : List Tm) (ht : TyW t) (hl : l.length ≤ 1000) (hw0 : ∀ x ∈ l, TmW x) :
    Pure Tryz.prog env 25 [.int .i64 k, .agg t.cells, .sl .any (l.map Tm.cells)] (.agg (tmT k t l).cells) := by
  intro h
  have h1 := c_N k l hl hw0
  have h2 := c_refCopy t ht
  clear hw0
  rw [tm0, Tm.mk_cells] at h1
  simp only [Ty.mk_kind, Ty.mk_args, List.map_nil] at h1
  refine enter Tryz.func25 [.cell 6 37] rfl (by kernel_rfl) follows (by kernel_rfl) rfl fun g0 w0 gen hrel hfr hfr' hres => ?_
  repeat' (first
    | exact hin _ | exact agf (by assumption)
    | (first | refine wp rfl ?_ | refine Call1_pure (h1) ?_ | refine Call1_pure (h2) ?_ | refine finF hrel ?_ ?_ ?_) <;> try simp only [go_sem, *])
  all_goals simp [tmT, Tm.mk_cells, tm0, Tm.cells_eq, Tm.kind, Tm.index, Tm.type, Tm.args]

end Go.Proofs.YtdbehnonmffhiaaGreatDoor
