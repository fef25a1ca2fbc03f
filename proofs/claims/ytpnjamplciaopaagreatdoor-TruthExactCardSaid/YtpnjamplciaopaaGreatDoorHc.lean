/-
 Walks: what uses scope.Each; small functions of the package matrix.
-/
import Derived.Test.YtpnjamplciaopaaGreatDoorHb
import Derived.Test.YtpnjamplciaopaaGreatDoorMb
import Derived.Test.YtpnjamplciaopaaGreatDoorMa
import Derived.Test.YtpnjamplciaopaaGreatDoorAbsC
import Derived.Test.YtpnjamplciaopaaGreatDoorGy
set_option linter.unusedSimpArgs false
set_option linter.unusedVariables false
set_option maxRecDepth 20000
set_option maxHeartbeats 4000000
namespace Go.Proofs.YtpnjamplciaopaaGreatDoor
open Go GoAbs Go.Proofs
theorem hset_id {h : H} {d : GoAbs.Id} {o : GoAbs.Obj} (hd : h d = some o) : hset h d o = h := by
 funext j
 by_cases e : j = d
 ·subst e; rw [hset_same, hd]
 ·rw [hset_other e]
theorem c_FarFormula1 (A d : GoAbs.Id) (oA : GoAbs.Obj) (nA : A ≠ d) (t : Tm) (ht : TmW t) (b : Int) (s : Bool) :
  TurnsE Tryz.prog env 101 (.agg t.cells :: .int .i64 b :: [.ptr d 0]) [(A, oA)] d (.box [.bool s]) (.agg t.cells) (.box [.bool (farG t b s)]) := by
 intro h he hd
 clear he nA
 have hc := c_Far t ht
 unfold farG
 generalize (!t.least 268435456) = u at *
 cases s
 all_goals
  simp only [Bool.false_or, Bool.true_or]
  refine en Tryz.func101 [.cell 5 31] rfl rfl fun g0 w0 gen hrel hfr hfr' hres => ?_
  have f1 := fresh_ne hfr hd
  have f2 := fresh_ne' hfr hd
  repeat' (first
   | exact agb (by assumption)
   | (first | refine wp rfl ?_ | (refine gs (fun hb => ?_) fun hb => ?_) <;> try simp only [Bool.not_true, Bool.not_false] at hb | refine cp (hc) ?_ | refine finT hrel hd ?_ ?_ ?_ ?_ ?_) <;> try simp only [go_sem, *])
theorem c_FarFormula (f : Fm) (hf : FmW f) : Pure Tryz.prog env 50 [.agg f.cells] (.bool f.far) := by
 intro h
 unfold Fm.far
 refine en Tryz.func50 [.tmp 2] rfl rfl fun g0 w0 gen hrel hfr hfr' hres => ?_
 have nA : (⟨gen, 0, 0⟩ : GoAbs.Id) ≠ ⟨gen, 1, 0⟩ := by simp
 have hc := c_sEach (fun n : Bool => [V.bool n]) (fun t _ => t) farG 101 [.ptr ⟨gen, 1, 0⟩ 0] rfl (fun _ _ => by simp [InL, InV]) ⟨gen, 0, 0⟩ ⟨gen, 1, 0⟩ (.box f.cells) nA
  (fun t ht b n => c_FarFormula1 _ _ _ nA t ht b n) f hf 0 false
 clear nA
 generalize f.ev (fun t _ => t) 0 = g at hc ⊢
 generalize f.es farG 0 false = r at hc ⊢
 repeat' (first
  | exact hin _ | exact agf (by assumption)
  | (first | refine wp rfl ?_ | (refine Call1_turnE (hc) ?_ ?_ ?_; (focus ((simp only [go_sem, *] <;> (repeat (first | assumption | rfl | refine And.intro ?_ ?_))); done)); (focus ((simp only [go_sem, *] <;> first | rfl | assumption); done))) | refine finF hrel ?_ ?_ ?_) <;> try simp only [go_sem, *])
theorem c_mFree : ∀ t : Fm, FmW t → Pure Tryz.prog env 49 [.agg t.cells] (.bool t.mfree) := by
 intro t
 induction t using Fm.ind with | h t ih => ?_
 intro ht h
 have hlen := ht.len
 have ih' : ∀ x ∈ t.args, Pure Tryz.prog env 49 [.agg x.cells] (.bool x.mfree) := fun x hx => ih x hx (ht.arg hx)
 clear ih
 have hv0 := t.mfree_eq.symm
 generalize hvv : t.mfree = v at hv0 ⊢
 clear hvv
 have hkk : (t.kind == 1) = true ∨ ((t.kind == 1) = false ∧ (t.kind == 2) = true) ∨ ((t.kind == 1) = false ∧ (t.kind == 2) = false ∧ (t.kind == 3) = true) ∨ ((t.kind == 1) = false ∧ (t.kind == 2) = false ∧ (t.kind == 3) = false) := by
  cases h1 : (t.kind == 1) <;> cases h2 : (t.kind == 2) <;> cases h3 : (t.kind == 3) <;> simp_all
 rcases hkk with k1 | ⟨k1, k2⟩ | ⟨k1, k2, k3⟩ | ⟨k1, k2, k3⟩
 case inr.inr.inr =>
  rw [k1, k2, k3] at hv0
  simp only [Bool.false_or, Bool.false_and] at hv0
  subst hv0
  clear ih'
  refine en Tryz.func49 [.tmp 2] rfl rfl fun g0 w0 gen hrel hfr hfr' hres => ?_
  repeat' (first
   | exact hin _ | exact agf (by assumption)
   | (first | refine wp rfl ?_ | refine spt rfl ?_ | refine spf rfl ?_ | (refine spl (fun hc => ?_) fun hc => ?_) <;> (try rw [beq_iff_eq] at hc) <;> try simp only [hc] | refine finF hrel ?_ ?_ ?_) <;> try simp only [go_sem, *])
 all_goals
  simp only [*, Bool.true_or, Bool.false_or, Bool.true_and, Bool.or_true] at hv0
  refine en Tryz.func49 [.tmp 2] rfl rfl fun g0 w0 gen hrel hfr hfr' hres => ?_
  repeat' (first
   | exact hin _ | exact agf (by assumption)
   | (first | refine wp rfl ?_ | refine spt rfl ?_ | refine spf rfl ?_ | (refine spl (fun hc => ?_) fun hc => ?_) <;> (try rw [beq_iff_eq] at hc) <;> try simp only [hc] | refine finF hrel ?_ ?_ ?_) <;> try simp only [go_sem, *])
  refine AR_range [12] [] (fun i σ => Agree h σ.h ∧ Fm.mfreeL (t.args.drop i) = v) (t.args).length (by first | omega | (simp only [go_sem, *] <;> omega)) ⟨rfl, rfl, rfl⟩ rfl (by simp only [go_sem, *]) (by simp only [go_sem, *]) ?_ (by intro i σ t v ht hK; simp only [List.mem_cons, List.not_mem_nil, or_false] at ht; rcases ht with rfl | rfl | rfl <;> exact hK) ?_ ?_
  ·simp only [go_sem, *]
   first | exact (by repeat (first | exact Agree.refl _ | assumption | refine Agree.new ?_ (hgf0 _ _) | refine Agree.new ?_ (hfr' _ _))) | exact ⟨(by repeat (first | exact Agree.refl _ | assumption | refine Agree.new ?_ (hgf0 _ _) | refine Agree.new ?_ (hfr' _ _))), hv0⟩
  ·clear hv0
   intro i σ gr0 hgl_gr0 hgn hlt jI jN jS ⟨jA, jv⟩
   obtain ⟨jT, jB⟩ := jS
   simp only [go_sem] at jT jB
   have hgf := fresh_of hgn
   have hgf0 : ∀ r i, h ⟨gr0, r, i⟩ = none := fun r i => agree_fresh jA (hgf r i)
   have eg_gen_gr0 := gen_lt (show gen < gr0 by omega)
   have eh_gen_gr0 := gen_lt' (show gen < gr0 by omega)
   obtain ⟨x, hx⟩ : ∃ x, (t.args)[i]? = some x := ⟨_, List.getElem?_eq_getElem hlt⟩
   have hxm := List.mem_of_getElem? hx
   have hm := min_lt hlt
   clear hgn
   rw [drop_get hx, Fm.mfreeL_cons] at jv
   have hc := ih' x hxm
   clear ih'
   cases hn : x.mfree with
   | false =>
    rw [hn] at hc
    rw [hn, Bool.false_and] at jv
    subst jv
    repeat' (first
     | exact hin _ | exact agf (by assumption)
     | (first | refine wp rfl ?_ | refine spt rfl ?_ | refine spf rfl ?_ | (refine spl (fun hc => ?_) fun hc => ?_) <;> (try rw [beq_iff_eq] at hc) <;> try simp only [hc] | refine cp (hc) ?_ | refine finF hrel ?_ ?_ ?_) <;> try simp only [go_sem, *])
   | true =>
    rw [hn] at hc
    rw [hn, Bool.true_and] at jv
    repeat' (first
     | exact hin _ | exact agf (by assumption)
     | (first | refine wp rfl ?_ | refine spt rfl ?_ | refine spf rfl ?_ | (refine spl (fun hc => ?_) fun hc => ?_) <;> (try rw [beq_iff_eq] at hc) <;> try simp only [hc] | refine AR_inv ?_ | refine cp (hc) ?_ | refine finF hrel ?_ ?_ ?_) <;> try simp only [go_sem, *])
    first | exact (by repeat (first | exact Agree.refl _ | assumption | refine Agree.new ?_ (hgf0 _ _) | refine Agree.new ?_ (hfr' _ _))) | exact ⟨(by repeat (first | exact Agree.refl _ | assumption | refine Agree.new ?_ (hgf0 _ _) | refine Agree.new ?_ (hfr' _ _))), jv⟩
  ·clear hv0
   intro σ ga0 hgl_ga0 hgn jS ⟨jA, jv⟩
   obtain ⟨jT, jB⟩ := jS
   simp only [go_sem] at jT jB
   have hgf := fresh_of hgn
   have hgf0 : ∀ r i, h ⟨ga0, r, i⟩ = none := fun r i => agree_fresh jA (hgf r i)
   have eg_gen_ga0 := gen_lt (show gen < ga0 by omega)
   have eh_gen_ga0 := gen_lt' (show gen < ga0 by omega)
   clear hgn
   rw [List.drop_length, Fm.mfreeL_nil] at jv
   subst jv
   clear ih'
   repeat' (first
    | exact hin _ | exact agf (by assumption)
    | (first | refine wp rfl ?_ | refine spt rfl ?_ | refine spf rfl ?_ | (refine spl (fun hc => ?_) fun hc => ?_) <;> (try rw [beq_iff_eq] at hc) <;> try simp only [hc] | refine finF hrel ?_ ?_ ?_) <;> try simp only [go_sem, *])
end Go.Proofs.YtpnjamplciaopaaGreatDoor
