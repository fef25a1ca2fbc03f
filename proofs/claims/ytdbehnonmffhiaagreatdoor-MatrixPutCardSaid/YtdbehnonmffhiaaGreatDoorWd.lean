/-
  Walks: sameness of types; makers of terms and formulas.
-/
import Derived.Test.YtdbehnonmffhiaaGreatDoorWc
set_option linter.unusedSimpArgs false
set_option linter.unusedVariables false
set_option maxRecDepth 20000
namespace Go.Proofs.YtdbehnonmffhiaaGreatDoor
open Go GoAbs Go.Proofs

theorem Ty.sameL_len : ∀ {l l' : List Ty}, Ty.sameL l l' = true → l.length = l'.length
  | [], [], _ => rfl
  | a :: l, b :: l', h => by
    simp only [Ty.sameL, Bool.and_eq_true] at h
    simp [Ty.sameL_len h.2]
  | [], _ :: _, h => by simp [Ty.sameL] at h
  | _ :: _, [], h => by simp [Ty.sameL] at h
theorem Ty.sameL_all : ∀ {l l' : List Ty}, l.length = l'.length → (∀ (j : Nat) x y, l[j]? = some x → l'[j]? = some y → Ty.same x y = true) → Ty.sameL l l' = true
  | [], [], _, _ => by simp [Ty.sameL]
  | a :: l, b :: l', h, q => by
    simp only [Ty.sameL, Bool.and_eq_true]
    exact ⟨q 0 a b rfl rfl, Ty.sameL_all (by simpa using h) fun j x y h1 h2 => q (j + 1) x y (by simpa using h1) (by simpa using h2)⟩
  | [], _ :: _, h, _ => by simp at h
  | _ :: _, [], h, _ => by simp at h
theorem Ty.sameL_get : ∀ {l l' : List Ty}, Ty.sameL l l' = true → ∀ (j : Nat) x y, l[j]? = some x → l'[j]? = some y → Ty.same x y = true
  | [], _, _, j, x, y, h1, h2 => by simp at h1
  | a :: l, b :: l', h, 0, x, y, h1, h2 => by
    simp only [Ty.sameL, Bool.and_eq_true] at h
    simp at h1 h2; subst h1; subst h2; exact h.1
  | a :: l, b :: l', h, j + 1, x, y, h1, h2 => by
    simp only [Ty.sameL, Bool.and_eq_true] at h
    exact Ty.sameL_get h.2 j x y (by simpa using h1) (by simpa using h2)
  | _ :: _, [], h, j, x, y, h1, h2 => by simp at h2

theorem c_refSame : ∀ a : Ty, TyW a → ∀ b : Ty, TyW b → Pure Tryz.prog env 30 [.agg a.cells, .agg b.cells] (.bool (Ty.same a b)) := by
  intro a
  induction a using Ty.ind with | h a ih => ?_
  intro ha b hb h
  have hlen := ha.len
  have hlen2 := hb.len
  have ih' : ∀ x ∈ a.args, ∀ y ∈ b.args, Pure Tryz.prog env 30 [.agg x.cells, .agg y.cells] (.bool (Ty.same x y)) := fun x hx y hy => ih x hx (ha.arg hx) y (hb.arg hy)
  clear ih
  refine enter Tryz.func30 [.tmp 4] rfl (by kernel_rfl) follows (by kernel_rfl) rfl fun g0 w0 gen hrel hfr hfr' hres => ?_
  by_cases hk : a.kind = b.kind
  case neg =>
    have hk1 : (a.kind != b.kind) = true := by simp [hk]
    have hk2 : (a.kind == b.kind) = false := by simp [hk]
    have hs : Ty.same a b = false := by rw [Ty.same_eq, hk2]; rfl
    clear ih'
    repeat' (first
      | (refine ⟨?_, ?_⟩; focus ((repeat' (first | refine And.intro ?_ ?_ | refine Or.inr ?_)); all_goals kernel_rfl))
      | exact hin _ | exact agf (by assumption)
      | (first | refine wp rfl ?_ | refine spt rfl ?_ | refine spf rfl ?_ | (refine spl (fun hc => ?_) fun hc => ?_) <;> (try rw [beq_iff_eq] at hc) <;> try simp only [hc] | (refine guarded_split (fun hb => ?_) fun hb => ?_) <;> try simp only [Bool.not_true, Bool.not_false] at hb | refine finF hrel ?_ ?_ ?_) <;> try simp only [go_sem, *])
  by_cases hl : a.args.length = b.args.length
  case neg =>
    have hk0 : (a.kind != b.kind) = false := by simp [hk]
    have hk1 : ((a.args.length : Int) != (b.args.length : Int)) = true := by simp; omega
    have hs : Ty.same a b = false := by
      rw [Ty.same_eq]
      cases e : Ty.sameL a.args b.args with
      | true => exact absurd (Ty.sameL_len e) hl
      | false => simp
    clear ih'
    repeat' (first
      | (refine ⟨?_, ?_⟩; focus ((repeat' (first | refine And.intro ?_ ?_ | refine Or.inr ?_)); all_goals kernel_rfl))
      | exact hin _ | exact agf (by assumption)
      | (first | refine wp rfl ?_ | refine spt rfl ?_ | refine spf rfl ?_ | (refine spl (fun hc => ?_) fun hc => ?_) <;> (try rw [beq_iff_eq] at hc) <;> try simp only [hc] | (refine guarded_split (fun hb => ?_) fun hb => ?_) <;> try simp only [Bool.not_true, Bool.not_false] at hb | refine finF hrel ?_ ?_ ?_) <;> try simp only [go_sem, *])
  have hk0 : (b.kind != b.kind) = false := by simp
  have hk1 : ((b.args.length : Int) != (b.args.length : Int)) = false := by simp
  clear hlen2
  repeat' (first
    | (refine ⟨?_, ?_⟩; focus ((repeat' (first | refine And.intro ?_ ?_ | refine Or.inr ?_)); all_goals kernel_rfl))
    | exact hin _ | exact agf (by assumption)
    | (first | refine wp rfl ?_ | refine spt rfl ?_ | refine spf rfl ?_ | (refine spl (fun hc => ?_) fun hc => ?_) <;> (try rw [beq_iff_eq] at hc) <;> try simp only [hc] | (refine guarded_split (fun hb => ?_) fun hb => ?_) <;> try simp only [Bool.not_true, Bool.not_false] at hb | refine finF hrel ?_ ?_ ?_) <;> try simp only [go_sem, *])
  refine AR_loop_nat (fun i σ => σ.tm 23 = .int .i64 i ∧ σ.tm 22 = .int .i64 b.args.length ∧ σ.tm 2 = .ptr ⟨gen, 0, 0⟩ 0 ∧ σ.tm 3 = .ptr ⟨gen, 0, 1⟩ 0 ∧
    σ.h ⟨gen, 0, 0⟩ = some (.box a.cells) ∧ σ.h ⟨gen, 0, 1⟩ = some (.box b.cells) ∧ Agree h σ.h ∧ ∀ j x y, j < i → a.args[j]? = some x → b.args[j]? = some y → Ty.same x y = true) b.args.length ?_ ?_
  · simp only [go_sem, *]
    exact ⟨rfl, .new (.new (.refl _) (hfr' _ _)) (hfr' _ _), fun j x y hj => absurd hj (by omega)⟩
  intro i σ hi ⟨j1, j2, j3, j4, j5, j6, j7, j8⟩
  refine AR_gen (fun gn hgn => ?_)
  have hw := wrap_succ (i := i) (by omega)
  clear hgn
  have hs0 : Ty.same a b = Ty.sameL a.args b.args := by rw [Ty.same_eq, hk]; simp
  rcases Nat.lt_or_ge i b.args.length with hlt | hge
  · have hd := lt_true hlt
    obtain ⟨x, hx⟩ : ∃ x, a.args[i]? = some x := ⟨_, List.getElem?_eq_getElem (by omega)⟩
    obtain ⟨y, hy⟩ : ∃ y, b.args[i]? = some y := ⟨_, List.getElem?_eq_getElem hlt⟩
    have hc := ih' x (List.mem_of_getElem? hx) y (List.mem_of_getElem? hy)
    clear ih'
    cases hxy : Ty.same x y with
    | false =>
      have hs : Ty.same a b = false := by
        rw [hs0]
        cases e : Ty.sameL a.args b.args with
        | true => rw [Ty.sameL_get e i x y hx hy] at hxy; cases hxy
        | false => rfl
      clear j8 hs0
      rw [hxy] at hc
      repeat' (first
        | (refine ⟨?_, ?_⟩; focus ((repeat' (first | refine And.intro ?_ ?_ | refine Or.inr ?_)); all_goals kernel_rfl))
        | exact hin _ | exact agf (by assumption)
        | (first | refine wp rfl ?_ | refine spt rfl ?_ | refine spf rfl ?_ | (refine spl (fun hc => ?_) fun hc => ?_) <;> (try rw [beq_iff_eq] at hc) <;> try simp only [hc] | (refine guarded_split (fun hb => ?_) fun hb => ?_) <;> try simp only [Bool.not_true, Bool.not_false] at hb | refine Call1_pure (hc) ?_ | refine finF hrel ?_ ?_ ?_) <;> try simp only [go_sem, *])
    | true =>
      rw [hxy] at hc
      have j8' : ∀ j x y, j < i + 1 → a.args[j]? = some x → b.args[j]? = some y → Ty.same x y = true := by
        intro j x' y' hj h1 h2
        rcases Nat.lt_or_ge j i with h | h
        · exact j8 j x' y' h h1 h2
        · obtain rfl : j = i := by omega
          rw [hx] at h1; rw [hy] at h2; cases h1; cases h2; exact hxy
      clear j8 hs0
      repeat' (first
        | (refine ⟨?_, ?_⟩; focus ((repeat' (first | refine And.intro ?_ ?_ | refine Or.inr ?_)); all_goals kernel_rfl))
        | (first | refine wp rfl ?_ | refine spt rfl ?_ | refine spf rfl ?_ | (refine spl (fun hc => ?_) fun hc => ?_) <;> (try rw [beq_iff_eq] at hc) <;> try simp only [hc] | (refine guarded_split (fun hb => ?_) fun hb => ?_) <;> try simp only [Bool.not_true, Bool.not_false] at hb | refine Call1_pure (hc) ?_) <;> try simp only [go_sem, *])
      refine AR_inv ?_
      simp only [go_sem, *]
      exact j8'
  · have hd := lt_false hge
    obtain rfl : i = b.args.length := by omega
    have hs : Ty.same a b = true := by
      rw [hs0]
      refine Ty.sameL_all hl fun j x y h1 h2 => j8 j x y ?_ h1 h2
      have := (List.getElem?_eq_some_iff.1 h1).1
      omega
    clear ih' j8 hs0
    repeat' (first
      | (refine ⟨?_, ?_⟩; focus ((repeat' (first | refine And.intro ?_ ?_ | refine Or.inr ?_)); all_goals kernel_rfl))
      | exact hin _ | exact agf (by assumption)
      | (first | refine wp rfl ?_ | refine spt rfl ?_ | refine spf rfl ?_ | (refine spl (fun hc => ?_) fun hc => ?_) <;> (try rw [beq_iff_eq] at hc) <;> try simp only [hc] | (refine guarded_split (fun hb => ?_) fun hb => ?_) <;> try simp only [Bool.not_true, Bool.not_false] at hb | refine finF hrel ?_ ?_ ?_) <;> try simp only [go_sem, *])
end Go.Proofs.YtdbehnonmffhiaaGreatDoor
