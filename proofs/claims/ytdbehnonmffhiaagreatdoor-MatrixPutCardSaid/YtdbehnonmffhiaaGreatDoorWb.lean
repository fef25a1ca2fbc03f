/-
  Walks: copies.
-/
import Derived.Test.YtdbehnonmffhiaaGreatDoorWa
import Derived.Test.YtdbehnonmffhiaaGreatDoorAbsC
set_option linter.unusedSimpArgs false
set_option linter.unusedVariables false
set_option maxRecDepth 20000
namespace Go.Proofs.YtdbehnonmffhiaaGreatDoor
open Go GoAbs Go.Proofs

theorem c_refCopy : ∀ t : Ty, TyW t → Pure Tryz.prog env 61 [.agg t.cells] (.agg t.cells) := by
  intro t
  induction t using Ty.ind with | h t ih => ?_
  intro ht h
  have hlen := ht.len
  have ih' : ∀ x ∈ t.args, Pure Tryz.prog env 61 [.agg x.cells] (.agg x.cells) := fun x hx => ih x hx (ht.arg hx)
  clear ih
  refine enter Tryz.func61 [.cell 2 30] rfl (by kernel_rfl) follows (by kernel_rfl) rfl fun g0 w0 gen hrel hfr hfr' hres => ?_
  repeat' (first
    | exact hin _ | exact agf (by assumption)
    | (first | refine wp rfl ?_ | refine spt rfl ?_ | refine spf rfl ?_ | (refine spl (fun hc => ?_) fun hc => ?_) <;> (try rw [beq_iff_eq] at hc) <;> try simp only [hc] | refine finF hrel ?_ ?_ ?_) <;> try simp only [go_sem, *])
  refine AR_loop_nat (fun i σ => σ.tm 9 = .int .i64 i ∧ σ.tm 8 = .int .i64 t.args.length ∧ σ.tm 7 = .sl .any (t.args.map Ty.cells) ∧ σ.tm 1 = .ptr ⟨gen, 0, 0⟩ 0 ∧ σ.tm 2 = .ptr ⟨gen, 0, 1⟩ 0 ∧
    σ.h ⟨gen, 0, 0⟩ = some (.box t.cells) ∧ σ.h ⟨gen, 0, 1⟩ = some (.box [.int .i64 0, .sl .full []]) ∧ Agree h σ.h ∧ OwnS h σ.h (σ.tm 3) 2 ((t.args.take i).map Ty.cells)) t.args.length ?_ ?_
  · simp only [go_sem, *]
    exact ⟨rfl, .new (.new (.refl _) (hfr' _ _)) (hfr' _ _), .inl (by simp)⟩
  intro i σ hi ⟨j1, j2, j3, j4, j5, j6, j7, j8, j9⟩
  refine AR_gen (fun gn hgn => ?_)
  have hgf := fresh_of hgn
  have hgf0 : ∀ r i, h ⟨gn, r, i⟩ = none := fun r i => agree_fresh j8 (hgf r i)
  have e1 := gen_ne hgn j6
  have e2 := gen_ne' hgn j6
  have hw := wrap_succ (i := i) (by omega)
  rcases Nat.lt_or_ge i t.args.length with hlt | hge
  · have hd := lt_true hlt
    obtain ⟨x, hx⟩ : ∃ x, t.args[i]? = some x := ⟨_, List.getElem?_eq_getElem hlt⟩
    have hm := min_lt hlt
    have b1 : (i + 1) * 32 ≤ 140737488355328 := by omega
    have b2 : i + 1 ≤ 140737488355328 := by omega
    have hts := map_take_succ (f := Ty.cells) hx
    have hc := ih' x (List.mem_of_getElem? hx)
    rcases j9 with j9 | ⟨id, j9, j10, j11⟩
    ·
      clear hgn
      repeat' (first
        | (first | refine wp rfl ?_ | refine spt rfl ?_ | refine spf rfl ?_ | (refine spl (fun hc => ?_) fun hc => ?_) <;> (try rw [beq_iff_eq] at hc) <;> try simp only [hc] | refine Call1_pure (hc) ?_) <;> try simp only [go_sem, *])
      refine AR_inv ?_
      simp only [go_sem, *]
      exact ⟨by repeat (first | assumption | refine Agree.new ?_ (hgf0 _ _) | refine Agree.new ?_ j11), .inr ⟨_, rfl, by simp only [go_sem, *], by first | exact hgf0 _ _ | assumption⟩⟩
    ·
      have e3 := fresh_ne hgn j10
      have e4 := fresh_ne' hgn j10
      have e5 := obj_ne j6 j10
      have e6 := obj_ne j7 j10
      clear hgn
      repeat' (first
        | (first | refine wp rfl ?_ | refine spt rfl ?_ | refine spf rfl ?_ | (refine spl (fun hc => ?_) fun hc => ?_) <;> (try rw [beq_iff_eq] at hc) <;> try simp only [hc] | refine Call1_pure (hc) ?_) <;> try simp only [go_sem, *])
      refine AR_inv ?_
      simp only [go_sem, *]
      exact ⟨by repeat (first | assumption | refine Agree.new ?_ (hgf0 _ _) | refine Agree.new ?_ j11), .inr ⟨_, rfl, by simp only [go_sem, *], by first | exact hgf0 _ _ | assumption⟩⟩
  · have hd := lt_false hge
    clear hgn
    obtain rfl : i = t.args.length := by omega
    rw [List.take_length] at j9
    obtain ⟨c, j9⟩ := j9.val
    repeat' (first
      | exact hin _ | exact agf (by assumption)
      | (first | refine wp rfl ?_ | refine spt rfl ?_ | refine spf rfl ?_ | (refine spl (fun hc => ?_) fun hc => ?_) <;> (try rw [beq_iff_eq] at hc) <;> try simp only [hc] | refine finF hrel ?_ ?_ ?_) <;> try simp only [go_sem, *])
    rw [Ty.cells_eq]
end Go.Proofs.YtdbehnonmffhiaaGreatDoor
