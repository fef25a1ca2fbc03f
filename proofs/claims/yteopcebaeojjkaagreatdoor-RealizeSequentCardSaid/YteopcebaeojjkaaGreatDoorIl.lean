/-
  Walks: sequents out of the deck; the law of RealizeSequent.
-/
import Derived.Test.YteopcebaeojjkaaGreatDoorIi
set_option linter.unusedSimpArgs false
set_option linter.unusedVariables false
set_option maxRecDepth 20000
set_option maxHeartbeats 4000000
namespace Go.Proofs.YteopcebaeojjkaaGreatDoor
open Go GoAbs Go.Proofs

def mkHyps (F : Nat → Fm × Nat) : Nat → Nat → List Fm × Nat
  | 0, a => ([], a)
  | n + 1, a => ((mkHyps F n a).1 ++ [(F (mkHyps F n a).2).1], (F (mkHyps F n a).2).2)
theorem mkHyps_all {F : Nat → Fm × Nat} {Q : Fm → Prop} (hQ : ∀ a, Q (F a).1) : ∀ (n a : Nat), (∀ y ∈ (mkHyps F n a).1, Q y) ∧ (mkHyps F n a).1.length = n
  | 0, a => by simp [mkHyps]
  | n + 1, a => by
    obtain ⟨h1, h2⟩ := mkHyps_all hQ n a
    refine ⟨?_, by simp [mkHyps, h2]⟩
    intro y hy
    rw [mkHyps] at hy
    rcases List.mem_append.1 hy with hy | hy
    · exact h1 y hy
    · simp at hy; subst hy; exact hQ _

theorem c_mkSequent (l : List Int) (hl : l.length ≤ 1000) (a : Nat) : ∃ (g : List Ty) (fs : List Fm) (a' : Nat), (∀ y ∈ g, MkTy 1 y) ∧ g.length ≤ 3 ∧ (∀ f ∈ fs, MkFm true 2 g f ∧ FmW f) ∧ fs.length ≤ 2 ∧
    ∀ d, Turns Tryz.prog env 49 [.ptr d 0] d (.box (deckC l a)) (.agg [.sl .any (g.map Ty.cells), .sl .any (fs.map Fm.cells)]) (.box (deckC l a')) := by
  obtain ⟨g, a1, hg, hgl, hC⟩ := c_Context l hl a
  have hgF := hgF40 hg
  have hr := nextD_range (l := l) (a := a1) (n := 3) (by omega) (by omega)
  generalize hq : nextD l a1 3 = q at hr
  obtain ⟨c, a2⟩ := q
  have hc1 : (nextD l a1 3).1 = c := by rw [hq]
  have hc2 : (nextD l a1 3).2 = a2 := by rw [hq]
  simp only at hr
  obtain ⟨n, rfl⟩ : ∃ n : Nat, c = (n : Int) := ⟨c.toNat, by omega⟩
  have hn : n ≤ 2 := by omega
  have hex : ∀ a : Nat, ∃ p : Fm × Nat, (MkFm true 2 g p.1 ∧ FmW p.1) ∧ ∀ d, Turns Tryz.prog env 15 [.ptr d 0, .sl .any (g.map Ty.cells), .int .i64 2] d (.box (deckC l a)) (.agg p.1.cells) (.box (deckC l p.2)) := by
    intro a
    obtain ⟨f, a', h1, h2, h3⟩ := c_Formula l hl 2 (by omega) g a hgF (by omega)
    exact ⟨(f, a'), ⟨h1, h2⟩, h3⟩
  obtain ⟨F, hF⟩ := Classical.axiomOfChoice hex
  obtain ⟨hm, hlen⟩ := mkHyps_all (F := F) (Q := fun f => MkFm true 2 g f ∧ FmW f) (fun a => (hF a).1) n a2
  refine ⟨g, (mkHyps F n a2).1, (mkHyps F n a2).2, hg, hgl, hm, by omega, ?_⟩
  have hFT := fun a => (hF a).2
  clear hm hlen hr hq hex hF hgF hg
  intro d h hd
  refine enter Tryz.func49 [.cell 2 70] rfl (by kernel_rfl) follows (by kernel_rfl) rfl fun g0 w0 gen hrel hfr hfr' hres => ?_
  have f1 := fresh_ne hfr hd
  have f2 := fresh_ne' hfr hd
  repeat' (first
    | (refine ⟨?_, ?_⟩; focus ((repeat' (first | refine And.intro ?_ ?_ | refine Or.inr ?_)); all_goals kernel_rfl))
    | (first | refine wp rfl ?_ | refine spt rfl ?_ | refine spf rfl ?_ | (refine spl (fun hc => ?_) fun hc => ?_) <;> (try rw [beq_iff_eq] at hc) <;> try simp only [hc] | (refine Call1_turn (hC d) ?_ ?_; focus ((simp only [go_sem, *] <;> rfl); done)) | refine Call1_turn (c_Next l hl d a1 3) (by simp only [go_sem, *] <;> rfl) ?_) <;> try simp only [go_sem, *])
  refine AR_loop_nat (fun i σ => σ.tm 4 = .int .i64 ((n : Int) - i) ∧ σ.tm 0 = .ptr d 0 ∧ σ.tm 2 = .ptr ⟨gen, 0, 0⟩ 0 ∧ σ.tm 3 = .ptr ⟨gen, 1, 3⟩ 0 ∧ σ.h d = some (.box (deckC l (mkHyps F i a2).2)) ∧ AgreeBut d h σ.h ∧
    σ.h ⟨gen, 0, 0⟩ = some (.box [.sl .full [], .sl .full []]) ∧ ∃ v, σ.h ⟨gen, 1, 3⟩ = some (.box [.sl .any (g.map Ty.cells), v]) ∧ OwnS h σ.h v 5 ((mkHyps F i a2).1.map Fm.cells)) n ?_ ?_
  · simp only [go_sem, *]
    exact ⟨by simp, rfl, by repeat (first | exact AgreeBut.refl _ _ | refine AgreeBut.new ?_ (hfr' _ _) | refine AgreeBut.set ?_), _, rfl, .inl rfl⟩
  clear hc1 hc2 hC
  intro i σ hi ⟨j1, j2, jt2, jt3, j3, jA, jz, v, j4, j5⟩
  refine AR_gen2 (fun gn hlt hgn => ?_)
  have hgf := fresh_of hgn
  have hgf0 := agreeBut_fresh' hd jA hgf (fun r i e => by have := hfr d (by rw [hd]; simp); rw [e] at this; simp at this; omega)
  have g1 := fresh_ne2 hfr hd hlt
  have g2 := fresh_ne2' hfr hd hlt
  have g3 := gen_lt hlt
  have g4 := gen_lt' hlt
  clear hgn
  have hln := (mkHyps_all (F := F) (Q := fun _ => True) (fun _ => trivial) i a2).2
  generalize hp : mkHyps F i a2 = p at j3 j5 hln
  obtain ⟨gi, ai⟩ := p
  simp only at j3 j5 hln
  rcases Nat.lt_or_ge i n with h1 | h1
  · have hd1 : decide ((n : Int) - (i : Int) > 0) = true := by simp; omega
    have hw1 : IntKind.i64.wrap ((n : Int) - (i : Int) - 1) = (n : Int) - ((i + 1 : Nat) : Int) := wrap_eq (by omega) (by omega) (by omega)
    have hT := hFT ai d
    have hs1 : (mkHyps F (i + 1) a2).1 = gi ++ [(F ai).1] := by rw [mkHyps, hp]
    have hs2 : (mkHyps F (i + 1) a2).2 = (F ai).2 := by rw [mkHyps, hp]
    clear hp hFT
    generalize F ai = q at *
    have hmm : List.map Fm.cells (gi ++ [q.1]) = List.map Fm.cells gi ++ [q.1.cells] := by simp
    repeat' (first
      | (refine ⟨?_, ?_⟩; focus ((repeat' (first | refine And.intro ?_ ?_ | refine Or.inr ?_)); all_goals kernel_rfl))
      | (refine okE_app_ownd j5 (by repeat (first | exact Keeps.refl _ | refine Keeps.new ?_ (hgf _ _) | refine Keeps.new ?_ (hfr' _ _) | refine Keeps.box ?_ rfl | refine Keeps.box ?_ (by simp only [go_sem, *]))) rfl (by simp only [go_sem, *] <;> omega) (by first | exact hgf0 _ _ | exact hfr' _ _) (by simp only [go_sem, *]) (by intro hd e; simp only [logOk_cons, logOk_nil, and_true]; repeat (first | exact trivial | refine ⟨.inr (by kernel_rfl), ?_⟩ | exact .inr (by kernel_rfl))) ?_; intro v' h' id' jO jK jAg jAb jF; obtain ⟨cO, rfl⟩ := jO.val; simp only [go_sem, *])
      | (first | refine wp rfl ?_ | refine spt rfl ?_ | refine spf rfl ?_ | (refine spl (fun hc => ?_) fun hc => ?_) <;> (try rw [beq_iff_eq] at hc) <;> try simp only [hc] | (refine Call1_turn (hT) ?_ ?_; focus ((simp only [go_sem, *] <;> rfl); done)) | refine AR_inv ?_) <;> try simp only [go_sem, *])
    refine ⟨?_, _, rfl, jO.keep (Keeps.box (Keeps.refl _) (by simp only [go_sem, *]))⟩
    exact AgreeBut.new (jAb d (AgreeBut.set jA)) (hfr' _ _)
  · have hd1 : decide ((n : Int) - (i : Int) > 0) = false := by simp; omega
    obtain rfl : i = n := by omega
    obtain ⟨c, rfl⟩ := j5.val
    have e1 : (mkHyps F i a2).1 = gi := by rw [hp]
    have e2 : (mkHyps F i a2).2 = ai := by rw [hp]
    clear hp hFT j5
    rw [e1, e2]
    clear e1 e2
    repeat' (first
      | (refine ⟨?_, ?_⟩; focus ((repeat' (first | refine And.intro ?_ ?_ | refine Or.inr ?_)); all_goals kernel_rfl))
      | exact agb (by assumption)
      | (first | refine wp rfl ?_ | refine spt rfl ?_ | refine spf rfl ?_ | (refine spl (fun hc => ?_) fun hc => ?_) <;> (try rw [beq_iff_eq] at hc) <;> try simp only [hc] | refine finT hrel hd ?_ ?_ ?_ ?_ ?_) <;> try simp only [go_sem, *])

theorem c_RealizeSequent (l : List Int) : Pure Tryz.prog env 6 [.sl .any (ints l)] (.bool true) := by
  intro h
  have hF := c_Few l
  cases hf : decide ((l.length : Int) ≤ 500) with
  | false =>
    rw [hf] at hF
    clear hf
    refine enter Tryz.func6 [.tmp 2] rfl (by kernel_rfl) follows (by kernel_rfl) rfl fun g0 w0 gen hrel hfr hfr' hres => ?_
    repeat' (first
      | exact hin _ | exact agf (by assumption)
      | (first | refine wp rfl ?_ | refine spt rfl ?_ | refine spf rfl ?_ | (refine spl (fun hc => ?_) fun hc => ?_) <;> (try rw [beq_iff_eq] at hc) <;> try simp only [hc] | (refine guarded_split (fun hb => ?_) fun hb => ?_) <;> try simp only [Bool.not_true, Bool.not_false] at hb | refine Call1_pure (hF) ?_ | refine Call1_pure (c_awake24) ?_ | refine finF hrel ?_ ?_ ?_) <;> try simp only [go_sem, *])
  | true =>
  rw [hf] at hF
  have hl : l.length ≤ 1000 := by simp at hf; omega
  have hN := c_New l
  obtain ⟨g, fs, a1, hg, hgl, hm, hfl, hT⟩ := c_mkSequent l hl 0
  have hS := c_rSequent g fs hm hg (by omega) (by omega)
  clear hf
  have n4 : ((4 : Int) != 0) = true := rfl
  have n0 : ((0 : Int) != 0) = false := rfl
  have k4 : ((4 : Int) == 4) = true := rfl
  have k0 : ((0 : Int) == 0) = true := rfl
  have law := fun A hs => law_rseq (A := A) (hs := hs) (fun f hf => (hm f hf).1) hg (by omega) (by omega)
  have hsW : ∀ A hs, rseq g fs = some (A, hs) → ∀ y ∈ hs, FmW y := fun A hs => rseq_W hm hg (by omega) (by omega)
  cases hR : rseq g fs with
  | none =>
    rw [hR] at hS
    simp only [rseqV] at hS
    clear law hg hm hsW
    refine enter Tryz.func6 [.tmp 2] rfl (by kernel_rfl) follows (by kernel_rfl) rfl fun g0 w0 gen hrel hfr hfr' hres => ?_
    repeat' (first
      | exact hin _ | exact agf (by assumption)
      | (first | refine wp rfl ?_ | refine spt rfl ?_ | refine spf rfl ?_ | (refine spl (fun hc => ?_) fun hc => ?_) <;> (try rw [beq_iff_eq] at hc) <;> try simp only [hc] | (refine guarded_split (fun hb => ?_) fun hb => ?_) <;> try simp only [Bool.not_true, Bool.not_false] at hb | refine Call1_pure (hF) ?_ | refine Call1_pure (c_awake24) ?_ | refine Call1_new ⟨gen, 1000, 0⟩ (hN) (by first | exact hfr' _ _ | simp only [go_sem, *]) ?_ | (refine Call1_turn (hT _) ?_ ?_; focus ((simp only [go_sem, *] <;> rfl); done)) | refine Call1_pure (hS) ?_ | refine finF hrel ?_ ?_ ?_) <;> try simp only [go_sem, *])
  | some AH =>
    obtain ⟨A, hs⟩ := AH
    rw [hR] at hS
    simp only [rseqV] at hS
    obtain ⟨r1, r2, r3, r4, r5⟩ := law A hs hR
    have hW := hsW A hs hR
    have hone : ∀ y ∈ hs, Pure Tryz.prog env 22 [.agg y.cells] (.tup [.bool false, .int .i64 0]) ∧
        Pure Tryz.prog env 45 [.sl .any (A.map Ty.cells), .agg y.cells] (.int .i64 0) := by
      intro y hy
      have gd := r5 y hy
      have h2 := c_r08Content y gd.gd.C (hW y hy) (gd.gd.err0 gd.sz)
      rw [gd.nc] at h2
      exact ⟨h2, c_fmTyped A r4 r3 y gd.ty gd.gd gd.sz (hW y hy)⟩
    have d1 : ((hs.length : Int) != (fs.length : Int)) = false := by rw [r1]; simp
    have d2 : decide ((A.length : Int) < (g.length : Int)) = false := by simp; omega
    have hsl : hs.length ≤ 2 := by omega
    clear law hg hm hsW hR r4 r5 hW r1 r2
    refine enter Tryz.func6 [.tmp 2] rfl (by kernel_rfl) follows (by kernel_rfl) rfl fun g0 w0 gen hrel hfr hfr' hres => ?_
    repeat' (first
      | exact hin _ | exact agf (by assumption)
      | (first | refine wp rfl ?_ | refine spt rfl ?_ | refine spf rfl ?_ | (refine spl (fun hc => ?_) fun hc => ?_) <;> (try rw [beq_iff_eq] at hc) <;> try simp only [hc] | (refine guarded_split (fun hb => ?_) fun hb => ?_) <;> try simp only [Bool.not_true, Bool.not_false] at hb | refine Call1_pure (hF) ?_ | refine Call1_pure (c_awake24) ?_ | refine Call1_new ⟨gen, 1000, 0⟩ (hN) (by first | exact hfr' _ _ | simp only [go_sem, *]) ?_ | (refine Call1_turn (hT _) ?_ ?_; focus ((simp only [go_sem, *] <;> rfl); done)) | refine Call1_pure (hS) ?_ | refine finF hrel ?_ ?_ ?_) <;> try simp only [go_sem, *])
    refine AR_range [5, 53] [⟨gen, 5, 5⟩] (fun i σ => Agree h σ.h ∧ True) (hs).length (by first | omega | (simp only [go_sem, *] <;> omega)) ⟨rfl, rfl, rfl⟩ rfl (by simp only [go_sem, *]) (by simp only [go_sem, *]) ?_ (by intro i σ t v ht hK; simp only [List.mem_cons, List.not_mem_nil, or_false] at ht; rcases ht with rfl | rfl | rfl <;> exact hK) ?_ ?_
    · simp only [go_sem, *]
      exact (by repeat (first | exact Agree.refl _ | assumption | refine Agree.new ?_ (hgf0 _ _) | refine Agree.new ?_ (hfr' _ _)))
    ·
      intro i σ gr0 hgl_gr0 hgn hlt jI jN jS ⟨jA, _⟩
      obtain ⟨jT, jB⟩ := jS
      simp only [go_sem] at jT jB
      have hgf := fresh_of hgn
      have hgf0 : ∀ r i, h ⟨gr0, r, i⟩ = none := fun r i => agree_fresh jA (hgf r i)
      have eg_gen_gr0 := gen_lt (show gen < gr0 by omega)
      have eh_gen_gr0 := gen_lt' (show gen < gr0 by omega)
      obtain ⟨x, hx⟩ : ∃ x, (hs)[i]? = some x := ⟨_, List.getElem?_eq_getElem hlt⟩
      have hxm := List.mem_of_getElem? hx
      have hm := min_lt hlt
      clear hgn
      obtain ⟨h1, h2⟩ := hone x hxm
      clear hone
      repeat' (first
        | (first | refine wp rfl ?_ | refine spt rfl ?_ | refine spf rfl ?_ | (refine spl (fun hc => ?_) fun hc => ?_) <;> (try rw [beq_iff_eq] at hc) <;> try simp only [hc] | (refine guarded_split (fun hb => ?_) fun hb => ?_) <;> try simp only [Bool.not_true, Bool.not_false] at hb | refine Call1_pure (h1) ?_ | refine Call1_pure (h2) ?_ | refine AR_inv ?_) <;> try simp only [go_sem, *])
      all_goals (repeat (first | exact jA | refine Agree.new ?_ (hgf0 _ _)))
    · clear hone
      intro σ ga0 hgl_ga0 hgn jS ⟨jA, _⟩
      obtain ⟨jT, jB⟩ := jS
      simp only [go_sem] at jT jB
      have hgf := fresh_of hgn
      have hgf0 : ∀ r i, h ⟨ga0, r, i⟩ = none := fun r i => agree_fresh jA (hgf r i)
      have eg_gen_ga0 := gen_lt (show gen < ga0 by omega)
      have eh_gen_ga0 := gen_lt' (show gen < ga0 by omega)
      clear hgn
      repeat' (first
        | exact hin _ | exact agf (by assumption)
        | (first | refine wp rfl ?_ | refine spt rfl ?_ | refine spf rfl ?_ | (refine spl (fun hc => ?_) fun hc => ?_) <;> (try rw [beq_iff_eq] at hc) <;> try simp only [hc] | (refine guarded_split (fun hb => ?_) fun hb => ?_) <;> try simp only [Bool.not_true, Bool.not_false] at hb | refine finF hrel ?_ ?_ ?_) <;> try simp only [go_sem, *])
end Go.Proofs.YteopcebaeojjkaaGreatDoor
