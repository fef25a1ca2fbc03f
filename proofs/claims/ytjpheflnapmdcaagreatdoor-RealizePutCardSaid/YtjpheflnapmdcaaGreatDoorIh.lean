/-
  Walks: the sequent in which one proves that terms realize.
-/
import Derived.Test.YtjpheflnapmdcaaGreatDoorId
import Derived.Test.YtjpheflnapmdcaaGreatDoorIe
import Derived.Test.YtjpheflnapmdcaaGreatDoorIg
import Derived.Test.YtjpheflnapmdcaaGreatDoorAbsDc
set_option linter.unusedSimpArgs false
set_option linter.unusedVariables false
set_option maxRecDepth 20000
set_option maxHeartbeats 4000000
namespace Go.Proofs.YtjpheflnapmdcaaGreatDoor
open Go GoAbs Go.Proofs

theorem rlF_W {f : Fm} {t : Tm} (hC : FmC f) (hf : FmW f) (ht : TmW t) : FmW (rlF f t).1 := by
  unfold rlF
  repeat' split
  all_goals first | exact zeroF_W' | exact rlOf_W _ _ _ hC hf (by split; exact ht; exact tm0_W0) | exact rlOf_W _ _ _ hC hf ht | exact rlOf_W _ _ _ hC hf tm0_W0

theorem c_rSequent (g : List Ty) (l : List Fm) (hm : ∀ f ∈ l, MkFm true 2 g f ∧ FmW f) (hg : ∀ y ∈ g, MkTy 1 y) (hgl : g.length ≤ 10) (hl : l.length ≤ 6) :
    Pure Tryz.prog env 144 [.agg [.sl .any (g.map Ty.cells), .sl .any (l.map Fm.cells)]] (rseqV (rseq g l)) := by
  intro h
  have hgG : ∀ y ∈ g, TyG y := fun y hy => (hg y hy).G (by omega)
  have hgd : ∀ f ∈ l, FmC f ∧ FmW f ∧ f.far = false := fun f hf => by
    obtain ⟨m1, m2⟩ := hm f hf
    have hG := m1.G hgG
    refine ⟨hG.C, m2, ?_⟩
    rw [far_least, (mk_base (by omega) m1 hg hgl).1]; rfl
  have herr : (∀ f ∈ l, fmErr f = 0) := fun f hf => by
    obtain ⟨m1, m2⟩ := hm f hf
    exact (m1.G hgG).err0 (mk_sz2 m1 hg)
  have hk := c_look g hgG hgl l (fun f hf => (hgd f hf).1) (fun f hf => (hm f hf).2) herr hl
  have hX := c_ctContext hk
  have hP := c_ctPlaces hk
  have law := fun A P => law_rlSeq (g := g) (l := l) (A := A) (P := P) (fun f hf => (hm f hf).1) hg hgl hl
  unfold rseq
  clear hk herr
  have n0 : ((0 : Int) != 0) = false := rfl
  have n4 : ((4 : Int) != 0) = true := rfl
  cases hR : sqR g [] l with
  | none =>
    rw [hR] at hX hP
    simp only [ctxV, plcV, rseqV, Option.bind_none] at hX hP ⊢
    clear law hgd hm hg hgG
    refine en Tryz.func144 [.cell 2 142, .tmp 3] rfl rfl fun g0 w0 gen hrel hfr hfr' hres => ?_
    repeat' (first
      | exact hin _ | exact agf (by assumption)
      | (first | refine wp rfl ?_ | refine spt rfl ?_ | refine spf rfl ?_ | (refine spl (fun hc => ?_) fun hc => ?_) <;> (try rw [beq_iff_eq] at hc) <;> try simp only [hc] | refine cp (hX) ?_ | refine finF hrel ?_ ?_ ?_) <;> try simp only [go_sem, *])
  | some AP =>
    obtain ⟨A, P⟩ := AP
    rw [hR] at hX hP
    simp only [ctxV, plcV, Option.bind_some] at hX hP ⊢
    obtain ⟨m, h1, h2, h3, h4, h5⟩ := law A P hR
    clear law
    have hAl : A.length ≤ 16 := by rw [h1]; simp; omega
    have hm0 : ((A.length - g.length : Nat) : Int) = (m.length : Int) := by rw [h1]; simp
    have hw0 : IntKind.i64.wrap ((A.length : Int) - (g.length : Int)) = (m.length : Int) := by rw [wrap_eq rfl (by omega) (by omega)]; rw [h1]; simp; omega
    rw [hm0]
    have hw1 : IntKind.i64.wrap ((A.length : Int) - 1) = subW (A.length : Int) 1 := rfl
    have dA : decide ((A.length : Int) > 16) = false := by simp; omega
    have hone : ∀ (i : Nat) (f : Fm) (p : Int), l[i]? = some f → P[i]? = some p →
        Pure Tryz.prog env 204 [.agg f.cells, .int .i64 0, .int .i64 (m.length : Int)] (.tup [.agg (f.up (m.length : Int) 0).cells, .int .i64 0]) ∧
        Pure Tryz.prog env 76 [.agg f.cells] (.bool false) ∧
        Pure Tryz.prog env 67 [.agg (f.up (m.length : Int) 0).cells, .agg (sqT A.length p).cells] (fmErrV (rlF (f.up (m.length : Int) 0) (sqT A.length p))) ∧
        ((rlF (f.up (m.length : Int) 0) (sqT A.length p)).2 = 4 ∨ (rlF (f.up (m.length : Int) 0) (sqT A.length p)).2 = 0) := by
      intro i f p hf hp
      have hfm := List.mem_of_getElem? hf
      obtain ⟨m1, m2⟩ := hm f hfm
      have hG := m1.G hgG
      obtain ⟨a1, a2, a3, a4, a5⟩ := h5 i f p hf hp
      refine ⟨c_formulaLift f m2 hG (mk_sz2 m1 hg) (mk_base (by omega) m1 hg hgl).2 _ (by omega) (by omega), ?_, c_rlF _ a3.C (fmUp_W f 0 m2) _ sqT_W, ?_⟩
      · have := c_FarFormula f m2
        rw [(hgd f hfm).2.2] at this; exact this
      · rcases a5 with a | ⟨a, _⟩
        · exact .inl a
        · exact .inr a
    clear hm hg hgG hgd h5 hR h1 h2 h3 hm0
    have hUn := c_scUnit
    have hVr := fun i => c_scVar i
    have hXl : (sqX A.length (m.length : Int) l P).length = l.length := sqX_len l P h4
    have hXg := fun i f p a b => sqX_get (n := A.length) (m := (m.length : Int)) l P i f p a b
    generalize hX0 : sqX A.length (m.length : Int) l P = X at *
    generalize hRR : (sqH [] X).map (fun hs => (A, hs)) = RR
    clear hX0
    refine en Tryz.func144 [.cell 2 142, .tmp 3] rfl rfl fun g0 w0 gen hrel hfr hfr' hres => ?_
    repeat' (first
      | exact hin _ | exact agf (by assumption)
      | (first | refine wp rfl ?_ | refine spt rfl ?_ | refine spf rfl ?_ | (refine spl (fun hc => ?_) fun hc => ?_) <;> (try rw [beq_iff_eq] at hc) <;> try simp only [hc] | refine cp (hX) ?_ | refine cp (hP) ?_ | refine finF hrel ?_ ?_ ?_) <;> try simp only [go_sem, *])
    clear hX hP
    refine AR_range [2, 4, 6, 8, 9, 39] [⟨gen, 0, 1⟩] (fun i σ => Agree h σ.h ∧ ∃ v hs, σ.h ⟨gen, 5, 2⟩ = some (.box [.sl .any (A.map Ty.cells), v]) ∧ OwnS h σ.h v 5 (hs.map Fm.cells) ∧ (sqH hs (X.drop i)).map (fun hs => (A, hs)) = RR ∧ hs.length ≤ i) (l).length (by first | omega | (simp only [go_sem, *] <;> omega)) ⟨rfl, rfl, rfl⟩ rfl (by simp only [go_sem, *]) (by simp only [go_sem, *]) ?_ (by intro i σ t v ht hK; simp only [List.mem_cons, List.not_mem_nil, or_false] at ht; rcases ht with rfl | rfl | rfl <;> exact hK) ?_ ?_
    · simp only [go_sem, *]
      refine ⟨by repeat (first | exact Agree.refl _ | assumption | refine Agree.new ?_ (hfr' _ _)), _, [], rfl, .inl rfl, hRR, by simp⟩
    · clear hRR
      intro i σ gr0 hgl_gr0 hgn hlt jI jN jS ⟨jA, v, hs, jb, jO, j1, j2⟩
      obtain ⟨jT, jB⟩ := jS
      simp only [go_sem] at jT jB
      have hgf := fresh_of hgn
      have hgf0 : ∀ r i, h ⟨gr0, r, i⟩ = none := fun r i => agree_fresh jA (hgf r i)
      have eg_gen_gr0 := gen_lt (show gen < gr0 by omega)
      have eh_gen_gr0 := gen_lt' (show gen < gr0 by omega)
      obtain ⟨x, hx⟩ : ∃ x, (l)[i]? = some x := ⟨_, List.getElem?_eq_getElem hlt⟩
      have hxm := List.mem_of_getElem? hx
      have hm := min_lt hlt
      clear hgn
      have hPl : i < P.length := by rw [h4]; exact hlt
      obtain ⟨p, hp⟩ : ∃ p, P[i]? = some p := ⟨_, List.getElem?_eq_getElem hPl⟩
      obtain ⟨q1, q2, q3, q4⟩ := hone i x p hx hp
      have q5 := hXg i x p hx hp
      rw [drop_get q5] at j1
      have hpi : (ints P)[i]? = some [.int .i64 p] := by rw [ints_get, hp]; rfl
      have w2 : IntKind.i64.wrap (subW (A.length : Int) 1 - p) = subW (subW (A.length : Int) 1) p := rfl
      clear hone hXg q5
      have hT : sqT A.length p = if decide (p ≥ 0) then tmVar (subW (subW (A.length : Int) 1) p) else tm0 13 [] := rfl
      rw [hT] at q3 q4 j1
      clear hT
      cases dp : decide (p ≥ 0) with
      | true =>
        rw [dp] at q3 q4 j1
        simp only [if_true, Bool.false_eq_true, if_false] at q3 q4 j1
        generalize x.up (m.length : Int) 0 = xu at *
        have hV := hVr (subW (subW (A.length : Int) 1) p)
        generalize tmVar (subW (subW (A.length : Int) 1) p) = tv at *
        generalize rlF xu tv = r at *
        obtain ⟨rf, re⟩ := r
        simp only [fmErrV] at q3 q4
        rcases q4 with rfl | rfl
        · rw [sqH_bad rfl, Option.map_none] at j1
          subst j1
          simp only [rseqV]
          clear jO
          repeat' (first
            | exact hin _ | exact agf (by assumption)
            | (first | refine wp rfl ?_ | refine spt rfl ?_ | refine spf rfl ?_ | (refine spl (fun hc => ?_) fun hc => ?_) <;> (try rw [beq_iff_eq] at hc) <;> try simp only [hc] | refine cp (q1) ?_ | refine cp (q2) ?_ | refine cp (q3) ?_ | refine cp (hUn) ?_ | refine cp (hV) ?_ | refine finF hrel ?_ ?_ ?_) <;> try simp only [go_sem, *])
        · rw [sqH_ok rfl] at j1
          simp only at j1
          have hts : (hs ++ [rf]).map Fm.cells = hs.map Fm.cells ++ [rf.cells] := by simp
          repeat' (first
            | (refine okE_app_own jO (by repeat (first | exact Keeps.refl _ | refine Keeps.new ?_ (hgf _ _) | refine Keeps.new ?_ (hfr' _ _) | refine Keeps.box ?_ rfl | refine Keeps.box ?_ (by simp only [go_sem, *]))) rfl (by simp only [go_sem, *] <;> omega) (by first | exact hgf0 _ _ | exact hfr' _ _) (by simp only [go_sem, *]) (by intro hd; cases hd) ?_; intro v' h' log' jO jK jAg jAb jF; obtain ⟨cO, rfl⟩ := jO.val; simp only [go_sem, *])
            | (first | refine wp rfl ?_ | refine spt rfl ?_ | refine spf rfl ?_ | (refine spl (fun hc => ?_) fun hc => ?_) <;> (try rw [beq_iff_eq] at hc) <;> try simp only [hc] | refine cp (q1) ?_ | refine cp (q2) ?_ | refine cp (q3) ?_ | refine cp (hUn) ?_ | refine cp (hV) ?_ | refine AR_inv ?_) <;> try simp only [go_sem, *])
          refine ⟨?_, _, hs ++ [rf], rfl, by rw [hts]; exact jO.keep (Keeps.box (Keeps.refl _) (by simp only [go_sem, *])), j1, by simp; omega⟩
          exact Agree.new (jAg (by repeat (first | exact jA | refine Agree.new ?_ (hgf0 _ _)))) (hfr' _ _)
      | false =>
        rw [dp] at q3 q4 j1
        simp only [if_true, Bool.false_eq_true, if_false] at q3 q4 j1
        generalize x.up (m.length : Int) 0 = xu at *
        clear hVr
        generalize tm0 13 [] = tv at *
        generalize rlF xu tv = r at *
        obtain ⟨rf, re⟩ := r
        simp only [fmErrV] at q3 q4
        rcases q4 with rfl | rfl
        · rw [sqH_bad rfl, Option.map_none] at j1
          subst j1
          simp only [rseqV]
          clear jO
          repeat' (first
            | exact hin _ | exact agf (by assumption)
            | (first | refine wp rfl ?_ | refine spt rfl ?_ | refine spf rfl ?_ | (refine spl (fun hc => ?_) fun hc => ?_) <;> (try rw [beq_iff_eq] at hc) <;> try simp only [hc] | refine cp (q1) ?_ | refine cp (q2) ?_ | refine cp (q3) ?_ | refine cp (hUn) ?_ | refine finF hrel ?_ ?_ ?_) <;> try simp only [go_sem, *])
        · rw [sqH_ok rfl] at j1
          simp only at j1
          have hts : (hs ++ [rf]).map Fm.cells = hs.map Fm.cells ++ [rf.cells] := by simp
          repeat' (first
            | (refine okE_app_own jO (by repeat (first | exact Keeps.refl _ | refine Keeps.new ?_ (hgf _ _) | refine Keeps.new ?_ (hfr' _ _) | refine Keeps.box ?_ rfl | refine Keeps.box ?_ (by simp only [go_sem, *]))) rfl (by simp only [go_sem, *] <;> omega) (by first | exact hgf0 _ _ | exact hfr' _ _) (by simp only [go_sem, *]) (by intro hd; cases hd) ?_; intro v' h' log' jO jK jAg jAb jF; obtain ⟨cO, rfl⟩ := jO.val; simp only [go_sem, *])
            | (first | refine wp rfl ?_ | refine spt rfl ?_ | refine spf rfl ?_ | (refine spl (fun hc => ?_) fun hc => ?_) <;> (try rw [beq_iff_eq] at hc) <;> try simp only [hc] | refine cp (q1) ?_ | refine cp (q2) ?_ | refine cp (q3) ?_ | refine cp (hUn) ?_ | refine AR_inv ?_) <;> try simp only [go_sem, *])
          refine ⟨?_, _, hs ++ [rf], rfl, by rw [hts]; exact jO.keep (Keeps.box (Keeps.refl _) (by simp only [go_sem, *])), j1, by simp; omega⟩
          exact Agree.new (jAg (by repeat (first | exact jA | refine Agree.new ?_ (hgf0 _ _)))) (hfr' _ _)
    · clear hRR hone hXg
      intro σ ga0 hgl_ga0 hgn jS ⟨jA, v, hs, jb, jO, j1, j2⟩
      obtain ⟨jT, jB⟩ := jS
      simp only [go_sem] at jT jB
      have hgf := fresh_of hgn
      have hgf0 : ∀ r i, h ⟨ga0, r, i⟩ = none := fun r i => agree_fresh jA (hgf r i)
      have eg_gen_ga0 := gen_lt (show gen < ga0 by omega)
      have eh_gen_ga0 := gen_lt' (show gen < ga0 by omega)
      clear hgn
      rw [show X.drop l.length = [] by rw [← hXl]; simp, sqH_nil, Option.map_some] at j1
      subst j1
      simp only [rseqV]
      obtain ⟨c, rfl⟩ := jO.val
      clear jO
      repeat' (first
        | exact hin _ | exact agf (by assumption)
        | (first | refine wp rfl ?_ | refine spt rfl ?_ | refine spf rfl ?_ | (refine spl (fun hc => ?_) fun hc => ?_) <;> (try rw [beq_iff_eq] at hc) <;> try simp only [hc] | refine finF hrel ?_ ?_ ?_) <;> try simp only [go_sem, *])
end Go.Proofs.YtjpheflnapmdcaaGreatDoor
