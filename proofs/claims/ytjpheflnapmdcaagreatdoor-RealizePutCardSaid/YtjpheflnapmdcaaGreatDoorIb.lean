/-
  Walks: the parts of realize.
-/
import Derived.Test.YtjpheflnapmdcaaGreatDoorIa
import Derived.Test.YtjpheflnapmdcaaGreatDoorHc
set_option linter.unusedSimpArgs false
set_option linter.unusedVariables false
set_option maxRecDepth 20000
set_option maxHeartbeats 4000000
namespace Go.Proofs.YtjpheflnapmdcaaGreatDoor
open Go GoAbs Go.Proofs

theorem c_hc (f : Fm) (hf : FmW f) : Pure Tryz.prog env 146 [.agg f.cells] (.bool f.hc) := by
  intro h
  have h1 := c_Content f hf
  unfold Fm.hc
  generalize f.has 1 = p at *
  refine en Tryz.func146 [.tmp 2] rfl rfl fun g0 w0 gen hrel hfr hfr' hres => ?_
  repeat' (first
    | exact hin _ | exact agf (by assumption)
    | (first | refine wp rfl ?_ | refine cp (h1) ?_ | refine finF hrel ?_ ?_ ?_) <;> try simp only [go_sem, *])

theorem c_scVar (i : Int) : Pure Tryz.prog env 203 [.int .i64 i] (.agg (tmVar i).cells) := by
  intro h
  have hv : (tmVar i).cells = [.int .i64 1, .int .i64 i, .int .i64 0, .sl .any [], .sl .any []] := by simp [tmVar, Tm.mk_cells, Ty.mk_kind, Ty.mk_args]
  rw [hv]
  refine en Tryz.func203 [.cell 2 31] rfl rfl fun g0 w0 gen hrel hfr hfr' hres => ?_
  repeat' (first
    | exact hin _ | exact agf (by assumption)
    | (first | refine wp rfl ?_ | refine finF hrel ?_ ?_ ?_) <;> try simp only [go_sem, *])

theorem c_scUnit : Pure Tryz.prog env 147 [] (.agg (tm0 13 []).cells) := by
  intro h
  have hv : (tm0 13 []).cells = [.int .i64 13, .int .i64 0, .int .i64 0, .sl .any [], .sl .any []] := by simp [tm0, Tm.mk_cells, Ty.mk_kind, Ty.mk_args]
  rw [hv]
  refine en Tryz.func147 [.cell 0 31] rfl rfl fun g0 w0 gen hrel hfr hfr' hres => ?_
  repeat' (first
    | exact hin _ | exact agf (by assumption)
    | (first | refine wp rfl ?_ | refine finF hrel ?_ ?_ ?_) <;> try simp only [go_sem, *])

theorem c_rlCall (t : Tm) (ht : TmW t) : Pure Tryz.prog env 214 [.agg t.cells] (.agg (rlCall t).cells) := by
  intro h
  have h1 := c_sLift 1 t ht 0
  have h2 := c_scVar 0
  have hin : ∀ S, InV S (V.agg (rlCall t).cells) := fun S => by simp [InV, InL_Tm]
  have hv : (rlCall t).cells = [.int .i64 3, .int .i64 0, .int .i64 0, .sl .any [], .sl .any [(t.sl 1 0).cells, (tmVar 0).cells]] := by simp [rlCall, tm0, Tm.mk_cells, Ty.mk_kind, Ty.mk_args]
  rw [hv] at hin ⊢
  clear hv
  generalize t.sl 1 0 = x at *
  generalize tmVar 0 = y at *
  refine en Tryz.func214 [.cell 2 31] rfl rfl fun g0 w0 gen hrel hfr hfr' hres => ?_
  repeat' (first
    | exact hin _ | exact agf (by assumption)
    | (first | refine wp rfl ?_ | refine cp (h1) ?_ | refine cp (h2) ?_ | refine finF hrel ?_ ?_ ?_) <;> try simp only [go_sem, *])

theorem c_rlPart1 (k : Int) (t : Tm) : Pure Tryz.prog env 211 [.int .i64 k, .agg t.cells] (.agg (tm0 k [t]).cells) := by
  intro h
  have hin : ∀ S, InV S (V.agg (tm0 k [t]).cells) := fun S => by simp [InV, InL_Tm]
  have hv : (tm0 k [t]).cells = [.int .i64 k, .int .i64 0, .int .i64 0, .sl .any [], .sl .any [t.cells]] := by simp [tm0, Tm.mk_cells, Ty.mk_kind, Ty.mk_args]
  rw [hv] at hin ⊢
  clear hv
  refine en Tryz.func211 [.cell 4 31] rfl rfl fun g0 w0 gen hrel hfr hfr' hres => ?_
  repeat' (first
    | exact hin _ | exact agf (by assumption)
    | (first | refine wp rfl ?_ | refine finF hrel ?_ ?_ ?_) <;> try simp only [go_sem, *])

theorem c_rlBuild (k : Int) (s : Ty) (l : List Fm) (hs : TyW s) (hl : l.length ≤ 2) (hw : ∀ x ∈ l, FmW x) :
    Pure Tryz.prog env 215 [.int .i64 k, .agg s.cells, .sl .any (l.map Fm.cells)] (fmErrV (if decide ((Fm.mk k s [] l).szW > 4096) then (zeroF, 4) else (.mk k s [] l, 0))) := by
  intro h
  have h1 := c_Size (.mk k s [] l) (.mk _ _ _ _ hs (by simp) (by simp) (by omega) hw)
  rw [Fm.mk_cells] at h1
  have hin : ∀ S, InV S (fmErrV (Fm.mk k s [] l, 0)) := fun S => by simp [fmErrV, InV, InL, InL_Fm]
  simp only [List.map_nil] at h1
  generalize (Fm.mk k s [] l).szW = n at *
  cases q1 : decide (n > 4096) with
  | true =>
    simp only [if_true, fmErrV, zeroF, Fm.mk_cells, Ty.mk_kind, Ty.mk_args, List.map_nil]
    clear hin
    refine en Tryz.func215 [.cell 6 29, .tmp 7] rfl rfl fun g0 w0 gen hrel hfr hfr' hres => ?_
    repeat' (first
      | exact hin _ | exact agf (by assumption)
      | (first | refine wp rfl ?_ | refine spt rfl ?_ | refine spf rfl ?_ | (refine spl (fun hc => ?_) fun hc => ?_) <;> (try rw [beq_iff_eq] at hc) <;> try simp only [hc] | refine cp (h1) ?_ | refine finF hrel ?_ ?_ ?_) <;> try simp only [go_sem, *])
  | false =>
    simp only [Bool.false_eq_true, if_false, fmErrV, Fm.mk_cells, List.map_nil] at hin ⊢
    refine en Tryz.func215 [.cell 6 29, .tmp 7] rfl rfl fun g0 w0 gen hrel hfr hfr' hres => ?_
    repeat' (first
      | exact hin _ | exact agf (by assumption)
      | (first | refine wp rfl ?_ | refine spt rfl ?_ | refine spf rfl ?_ | (refine spl (fun hc => ?_) fun hc => ?_) <;> (try rw [beq_iff_eq] at hc) <;> try simp only [hc] | refine cp (h1) ?_ | refine finF hrel ?_ ?_ ?_) <;> try simp only [go_sem, *])

theorem c_rlTwo (k : Int) (x y : Fm × Int) (a b : Fm) (s t : Tm) (hx : FmW x.1) (hy : FmW y.1)
    (h1 : Pure Tryz.prog env 148 [.agg a.cells, .agg s.cells] (fmErrV x))
    (h2 : Pure Tryz.prog env 148 [.agg b.cells, .agg t.cells] (fmErrV y)) :
    Pure Tryz.prog env 212 [.int .i64 k, .agg a.cells, .agg s.cells, .agg b.cells, .agg t.cells] (fmErrV (mTwo k x y)) := by
  intro h
  obtain ⟨xf, xe⟩ := x
  obtain ⟨yf, ye⟩ := y
  simp only [fmErrV] at h1 h2 hx hy
  unfold mTwo
  have h3 := c_rlBuild k tZero [xf, yf] tZero_W (by simp) (by simp [hx, hy])
  have e1 : Fm.mk k tZero [] [xf, yf] = fmTwo k xf yf := rfl
  rw [e1] at h3
  have hin : ∀ S, InV S (fmErrV (if decide ((fmTwo k xf yf).szW > 4096) = true then (zeroF, 4) else (fmTwo k xf yf, 0))) := fun S => by simp [fmErrV, InV, InL, InL_Fm]
  rw [tZero_cells] at h3
  simp only [List.map_cons, List.map_nil] at h3
  simp only
  cases q1 : (xe != 0) with
  | true =>
    clear h3 hin
    simp only [if_true, fmErrV, zeroF, Fm.mk_cells, Ty.mk_kind, Ty.mk_args, List.map_nil]
    refine en Tryz.func212 [.cell 10 29, .tmp 11] rfl rfl fun g0 w0 gen hrel hfr hfr' hres => ?_
    repeat' (first
      | exact hin _ | exact agf (by assumption)
      | (first | refine wp rfl ?_ | refine spt rfl ?_ | refine spf rfl ?_ | (refine spl (fun hc => ?_) fun hc => ?_) <;> (try rw [beq_iff_eq] at hc) <;> try simp only [hc] | refine cp (h1) ?_ | refine cp (h2) ?_ | refine finF hrel ?_ ?_ ?_) <;> try simp only [go_sem, *])
  | false =>
  cases q2 : (ye != 0) with
  | true =>
    clear h3 hin
    simp only [if_true, Bool.false_eq_true, if_false, fmErrV, zeroF, Fm.mk_cells, Ty.mk_kind, Ty.mk_args, List.map_nil]
    refine en Tryz.func212 [.cell 10 29, .tmp 11] rfl rfl fun g0 w0 gen hrel hfr hfr' hres => ?_
    repeat' (first
      | exact hin _ | exact agf (by assumption)
      | (first | refine wp rfl ?_ | refine spt rfl ?_ | refine spf rfl ?_ | (refine spl (fun hc => ?_) fun hc => ?_) <;> (try rw [beq_iff_eq] at hc) <;> try simp only [hc] | refine cp (h1) ?_ | refine cp (h2) ?_ | refine finF hrel ?_ ?_ ?_) <;> try simp only [go_sem, *])
  | false =>
  simp only [Bool.false_eq_true, if_false]
  generalize (if decide ((fmTwo k xf yf).szW > 4096) = true then (zeroF, (4 : Int)) else (fmTwo k xf yf, 0)) = r at *
  obtain ⟨rf, re⟩ := r
  simp only [fmErrV] at h3 hin ⊢
  refine en Tryz.func212 [.cell 10 29, .tmp 11] rfl rfl fun g0 w0 gen hrel hfr hfr' hres => ?_
  repeat' (first
    | exact hin _ | exact agf (by assumption)
    | (first | refine wp rfl ?_ | refine spt rfl ?_ | refine spf rfl ?_ | (refine spl (fun hc => ?_) fun hc => ?_) <;> (try rw [beq_iff_eq] at hc) <;> try simp only [hc] | refine cp (h1) ?_ | refine cp (h2) ?_ | refine cp (h3) ?_ | refine finF hrel ?_ ?_ ?_) <;> try simp only [go_sem, *])

theorem c_exists : ∀ t : Fm, FmW t → Pure Tryz.prog env 253 [.agg t.cells] (.int .i64 t.exs) := by
  intro t
  induction t using Fm.ind with | h t ih => ?_
  intro ht h
  have hlen := ht.len
  have ih' : ∀ x ∈ t.args, Pure Tryz.prog env 253 [.agg x.cells] (.int .i64 x.exs) := fun x hx => ih x hx (ht.arg hx)
  clear ih
  have hv0 := t.exs_eq.symm
  generalize hvv : t.exs = v at hv0 ⊢
  clear hvv
  have hw1 : IntKind.i64.wrap (0 + 1) = 1 := rfl
  have hw3 : IntKind.i64.wrap 1 = 1 := rfl
  cases k5 : (t.kind == 5)
  all_goals
    simp only [k5, if_true, Bool.false_eq_true, if_false] at hv0
    refine en Tryz.func253 [.tmp 2] rfl rfl fun g0 w0 gen hrel hfr hfr' hres => ?_
    repeat' (first
      | exact hin _ | exact agf (by assumption)
      | (first | refine wp rfl ?_ | refine spt rfl ?_ | refine spf rfl ?_ | (refine spl (fun hc => ?_) fun hc => ?_) <;> (try rw [beq_iff_eq] at hc) <;> try simp only [hc] | refine finF hrel ?_ ?_ ?_) <;> try simp only [go_sem, *])
    refine AR_range [2, 12] [] (fun i σ => Agree h σ.h ∧ ∃ n, σ.tm 3 = .int .i64 n ∧ Fm.exsL n (t.args.drop i) = v) (t.args).length (by first | omega | (simp only [go_sem, *] <;> omega)) ⟨rfl, rfl, rfl⟩ rfl (by simp only [go_sem, *]) (by simp only [go_sem, *]) ?_ (by intro i σ t v ht hK; simp only [List.mem_cons, List.not_mem_nil, or_false] at ht; rcases ht with rfl | rfl | rfl <;> exact hK) ?_ ?_
    · simp only [go_sem, *]
      first | exact ⟨_, rfl, hv0⟩ | exact ⟨(by repeat (first | exact Agree.refl _ | assumption | refine Agree.new ?_ (hgf0 _ _) | refine Agree.new ?_ (hfr' _ _))), _, rfl, hv0⟩
    · clear hv0
      intro i σ gr0 hgl_gr0 hgn hlt jI jN jS ⟨jA, n, jn, jv⟩
      obtain ⟨jT, jB⟩ := jS
      simp only [go_sem] at jT jB
      have hgf := fresh_of hgn
      have hgf0 : ∀ r i, h ⟨gr0, r, i⟩ = none := fun r i => agree_fresh jA (hgf r i)
      have eg_gen_gr0 := gen_lt (show gen < gr0 by omega)
      have eh_gen_gr0 := gen_lt' (show gen < gr0 by omega)
      obtain ⟨x, hx⟩ : ∃ x, (t.args)[i]? = some x := ⟨_, List.getElem?_eq_getElem hlt⟩
      have hxm := List.mem_of_getElem? hx
      have hm := min_lt hlt
      clear hgn
      rw [drop_get hx, Fm.exsL_cons] at jv
      have hc := ih' x hxm
      have hw2 : IntKind.i64.wrap (n + x.exs) = addW n x.exs := rfl
      clear ih'
      repeat' (first
        | exact hin _ | exact agf (by assumption)
        | (first | refine wp rfl ?_ | refine spt rfl ?_ | refine spf rfl ?_ | (refine spl (fun hc => ?_) fun hc => ?_) <;> (try rw [beq_iff_eq] at hc) <;> try simp only [hc] | refine AR_inv ?_ | refine cp (hc) ?_ | refine finF hrel ?_ ?_ ?_) <;> try simp only [go_sem, *])
      first | exact ⟨_, rfl, jv⟩ | exact ⟨(by repeat (first | exact Agree.refl _ | assumption | refine Agree.new ?_ (hgf0 _ _) | refine Agree.new ?_ (hfr' _ _))), _, rfl, jv⟩
    · clear hv0
      intro σ ga0 hgl_ga0 hgn jS ⟨jA, n, jn, jv⟩
      obtain ⟨jT, jB⟩ := jS
      simp only [go_sem] at jT jB
      have hgf := fresh_of hgn
      have hgf0 : ∀ r i, h ⟨ga0, r, i⟩ = none := fun r i => agree_fresh jA (hgf r i)
      have eg_gen_ga0 := gen_lt (show gen < ga0 by omega)
      have eh_gen_ga0 := gen_lt' (show gen < ga0 by omega)
      clear hgn
      rw [List.drop_length, Fm.exsL_nil] at jv
      subst jv
      clear ih'
      repeat' (first
        | exact hin _ | exact agf (by assumption)
        | (first | refine wp rfl ?_ | refine spt rfl ?_ | refine spf rfl ?_ | (refine spl (fun hc => ?_) fun hc => ?_) <;> (try rw [beq_iff_eq] at hc) <;> try simp only [hc] | refine finF hrel ?_ ?_ ?_) <;> try simp only [go_sem, *])

theorem c_LiftFormula1 (by' : Int) (A d : GoAbs.Id) (cs : List V) (t : Tm) (ht : TmW t) (b : Int) (u : Unit) :
    TurnsE Tryz.prog env 269 (.agg t.cells :: .int .i64 b :: [.ptr A 0]) [(A, .box [.int .i64 by'])] d (.box cs) (.agg (t.sl by' b).cells) (.box cs) := by
  intro h he hd
  simp only [List.mem_cons, List.not_mem_nil, or_false, forall_eq] at he
  rw [hset_id hd]
  have hc := c_sLift by' t ht b
  have hin : ∀ S, InV S (V.agg (t.sl by' b).cells) := fun S => by simp [InV, InL_Tm]
  generalize t.sl by' b = x at *
  clear hd
  refine en Tryz.func269 [.cell 5 31] rfl rfl fun g0 w0 gen hrel hfr hfr' hres => ?_
  have f1 := fresh_ne hfr he
  have f2 := fresh_ne' hfr he
  repeat' (first
    | exact hin _ | exact agf (by assumption)
    | (first | refine wp rfl ?_ | refine cp (hc) ?_ | refine finF hrel ?_ ?_ ?_) <;> try simp only [go_sem, *])

theorem c_LiftFormula (f : Fm) (hf : FmW f) (b : Int) : Pure Tryz.prog env 250 [.agg f.cells, .int .i64 b] (.agg (f.slf b).cells) := by
  intro h
  unfold Fm.slf
  refine en Tryz.func250 [.cell 4 29] rfl rfl fun g0 w0 gen hrel hfr hfr' hres => ?_
  have nA : (⟨gen, 0, 1⟩ : GoAbs.Id) ≠ ⟨gen, 0, 0⟩ := by simp
  have hc := c_sEach (fun _ : Unit => f.cells) (fun t d => t.sl b d) (fun _ _ u => u) 269 [.ptr ⟨gen, 0, 1⟩ 0] rfl (fun _ _ => InL_Fm f) ⟨gen, 0, 1⟩ ⟨gen, 0, 0⟩ (.box [.int .i64 b]) nA
    (fun t ht b' u => c_LiftFormula1 b _ _ _ t ht b' u) f hf 0 ()
  clear nA
  generalize f.ev (fun t d => t.sl b d) 0 = g at hc ⊢
  repeat' (first
    | exact hin _ | exact agf (by assumption)
    | (first | refine wp rfl ?_ | (refine Call1_turnE (hc) ?_ ?_ ?_; (focus ((simp only [go_sem, *] <;> (repeat (first | assumption | rfl | refine And.intro ?_ ?_))); done)); (focus ((simp only [go_sem, *] <;> first | rfl | assumption); done))) | refine finF hrel ?_ ?_ ?_) <;> try simp only [go_sem, *])

theorem slf_W {b : Int} : ∀ (f : Fm) (d : Int), FmW f → FmW (f.ev (fun t e => t.sl b e) d) := by
  intro f
  induction f using Fm.ind with | h f ih => ?_
  intro d hf
  rw [Fm.ev_eq]
  refine .mk _ _ _ _ hf.ty (by rw [List.length_map]; exact hf.tlen) ?_ (by rw [List.length_map]; exact hf.len) ?_
  · intro x hx
    obtain ⟨y, hy, rfl⟩ := List.mem_map.1 hx
    exact sl_W _ _ (hf.term hy)
  · intro x hx
    obtain ⟨y, hy, rfl⟩ := List.mem_map.1 hx
    exact ih y hy _ (hf.arg hy)
end Go.Proofs.YtjpheflnapmdcaaGreatDoor
