/-
 Walks: the machine of the reference.
-/
import Derived.Test.YtpnjamplciaopaaGreatDoorMa
import Derived.Test.YtpnjamplciaopaaGreatDoorAbsDc
import Derived.Test.YtpnjamplciaopaaGreatDoorAbsC
set_option linter.unusedSimpArgs false
set_option linter.unusedVariables false
set_option maxRecDepth 20000
set_option maxHeartbeats 4000000
namespace Go.Proofs.YtpnjamplciaopaaGreatDoor
open Go GoAbs Go.Proofs
attribute [go_sem] weakLL_app weakLL_cons' weakLL_nil' Option.map_none List.drop_zero Nat.zero_le Nat.le_refl take_map_len decide_true decide_false
/-- The contract of an evaluation. -/
def EvT (d : GoAbs.Id) (most u u' : Nat) (o : Bool) (t : Tm) (e : List Res) (r : Res) : Prop :=
 Turns Tryz.prog env 129 [.ptr d 0, .agg t.cells, .sl .any (e.map Res.cells)] d (.box (mc u most false)) (.agg r.cells) (.box (mc u' most o))
def EvC (d : GoAbs.Id) (most : Nat) (E : Evl) : Prop := ∀ (c u : Nat) (t : Tm) (e : List Res) (r : Res) (u' : Nat) (o : Bool), E u t e = some (r, u', o) → c ≤ u → u ≤ most → TmW t → e.length ≤ u - c → (∀ x ∈ e, ResW (u - c) x) →
 EvT d most u u' o t e r
theorem c_mcall {d : GoAbs.Id} {most u u' : Nat} {o : Bool} {f a r : Res} (hl : f.env.length ≤ 100000) (hE : EvT d most u u' o f.body (f.env ++ [a]) r) :
  Turns Tryz.prog env 130 [.ptr d 0, .agg f.cells, .agg a.cells] d (.box (mc u most false)) (.agg r.cells) (.box (mc u' most o)) := by
 intro h hd
 unfold EvT at hE
 rw [List.map_append] at hE
 simp only [List.map_cons, List.map_nil] at hE
 have b1 : (f.env.length + 1) * 152 ≤ 140737488355328 := by omega
 have b2 : f.env.length + 1 ≤ 140737488355328 := by omega
 clear hl
 refine en Tryz.func130 [.cell 6 142] rfl rfl fun g0 w0 gen hrel hfr hfr' hres => ?_
 have f1 := fresh_ne hfr hd
 have f2 := fresh_ne' hfr hd
 repeat' (first
  | (refine ⟨?_, ?_⟩; focus ((repeat' (first | refine And.intro ?_ ?_ | refine Or.inr ?_)); all_goals kernel_rfl))
  | exact agb (by assumption)
  | (first | refine wp rfl ?_ | (refine ct (hE) ?_ ?_; focus ((simp only [go_sem, *] <;> rfl); done)) | refine finT hrel hd ?_ ?_ ?_ ?_ ?_) <;> try simp only [go_sem, *])
theorem c_mcallC {d : GoAbs.Id} {most : Nat} {E : Evl} (hC : EvC d most E) (hm : most ≤ 65536) {c u u' : Nat} {o : Bool} {f a r : Res} (h : evCall E u f a = some (r, u', o)) (hc : c + 1 ≤ u) (hu : u ≤ most)
  (hf : ResW (u - c - 1) f) (ha : ResW (u - c - 1) a) :
  Turns Tryz.prog env 130 [.ptr d 0, .agg f.cells, .agg a.cells] d (.box (mc u most false)) (.agg r.cells) (.box (mc u' most o)) := by
 refine c_mcall (by have := hf.el; omega) (hC c u _ _ _ _ _ h (by omega) hu hf.bd (by have := hf.el; simp; omega) fun x hx => ?_)
 rcases List.mem_append.1 hx with hx | hx
 ·exact (hf.es x hx).up (by omega)
 ·simp at hx; subst hx; exact ha.up (by omega)
theorem c_mLim {d : GoAbs.Id} {most : Nat} {t : Tm} {e : List Res} : EvT d most most most true t e zeroR := by
 intro h hd
 rw [zeroR_cells]
 have k0 : ((most : Int) == (most : Int)) = true := by simp
 refine en Tryz.func129 [.cell 6 142] rfl rfl fun g0 w0 gen hrel hfr hfr' hres => ?_
 have f1 := fresh_ne hfr hd
 have f2 := fresh_ne' hfr hd
 repeat' (first
  | (refine ⟨?_, ?_⟩; focus ((repeat' (first | refine And.intro ?_ ?_ | refine Or.inr ?_)); all_goals kernel_rfl))
  | exact agb (by assumption)
  | (first | refine wp rfl ?_ | refine spt rfl ?_ | refine spf rfl ?_ | (refine spl (fun hc => ?_) fun hc => ?_) <;> (try rw [beq_iff_eq] at hc) <;> try simp only [hc] | (refine gs (fun hb => ?_) fun hb => ?_) <;> try simp only [Bool.not_true, Bool.not_false] at hb | refine finT hrel hd ?_ ?_ ?_ ?_ ?_) <;> try simp only [go_sem, *])
theorem c_mVar {d : GoAbs.Id} {most u : Nat} {t : Tm} {e : List Res} {x : Res} (hne : u ≠ most) (hu : u ≤ 65536) (hel : e.length ≤ 65536) (hk : t.kind = 1) (h0 : 0 ≤ (e.length : Int) - 1 - t.index)
  (hx : e[((e.length : Int) - 1 - t.index).toNat]? = some x) : EvT d most u (u + 1) false t e x := by
 intro h hd
 have k0 : ((u : Int) == (most : Int)) = false := by simp; omega
 have w0 := wrap_succ (i := u) (by omega)
 have hlt := (List.getElem?_eq_some_iff.1 hx).1
 have w1 : IntKind.i64.wrap ((e.length : Int) - 1) = (e.length : Int) - 1 := wrap_eq rfl (by omega) (by omega)
 have w2 : IntKind.i64.wrap ((e.length : Int) - 1 - t.index) = (e.length : Int) - 1 - t.index := wrap_eq rfl (by omega) (by omega)
 clear hlt hel hu hne
 refine en Tryz.func129 [.cell 6 142] rfl rfl fun g0 w0 gen hrel hfr hfr' hres => ?_
 have f1 := fresh_ne hfr hd
 have f2 := fresh_ne' hfr hd
 repeat' (first
  | (refine ⟨?_, ?_⟩; focus ((repeat' (first | refine And.intro ?_ ?_ | refine Or.inr ?_)); all_goals kernel_rfl))
  | exact agb (by assumption)
  | (first | refine wp rfl ?_ | refine spt rfl ?_ | refine spf rfl ?_ | (refine spl (fun hc => ?_) fun hc => ?_) <;> (try rw [beq_iff_eq] at hc) <;> try simp only [hc] | (refine gs (fun hb => ?_) fun hb => ?_) <;> try simp only [Bool.not_true, Bool.not_false] at hb | refine finT hrel hd ?_ ?_ ?_ ?_ ?_) <;> try simp only [go_sem, *])
theorem c_mLam {d : GoAbs.Id} {most u : Nat} {t b : Tm} {e : List Res} (hne : u ≠ most) (hu : u ≤ 65536) (hk : t.kind = 2) (hb : t.args = [b]) : EvT d most u (u + 1) false t e (cloR b e) := by
 intro h hd
 have k0 : ((u : Int) == (most : Int)) = false := by simp; omega
 have w0 := wrap_succ (i := u) (by omega)
 have hc := cloR_cells b e
 have hbc := Tm.cells_eq b
 clear hu hne
 refine en Tryz.func129 [.cell 6 142] rfl rfl fun g0 w0 gen hrel hfr hfr' hres => ?_
 have f1 := fresh_ne hfr hd
 have f2 := fresh_ne' hfr hd
 repeat' (first
  | (refine ⟨?_, ?_⟩; focus ((repeat' (first | refine And.intro ?_ ?_ | refine Or.inr ?_)); all_goals kernel_rfl))
  | exact agb (by assumption)
  | (first | refine wp rfl ?_ | refine spt rfl ?_ | refine spf rfl ?_ | (refine spl (fun hc => ?_) fun hc => ?_) <;> (try rw [beq_iff_eq] at hc) <;> try simp only [hc] | (refine gs (fun hb => ?_) fun hb => ?_) <;> try simp only [Bool.not_true, Bool.not_false] at hb | refine finT hrel hd ?_ ?_ ?_ ?_ ?_) <;> try simp only [go_sem, *])
end Go.Proofs.YtpnjamplciaopaaGreatDoor
