/-
 Walks: several parts in one text.
-/
import Derived.Test.YtkoeoklndhgejaaGreatDoorMv
import Derived.Test.YtkoeoklndhgejaaGreatDoorMp
import Derived.Test.YtkoeoklndhgejaaGreatDoorAbsDd
import Derived.Test.YtkoeoklndhgejaaGreatDoorVd
set_option linter.unusedSimpArgs false
set_option linter.unusedVariables false
set_option maxRecDepth 20000
set_option maxHeartbeats 4000000
namespace Go.Proofs.YtkoeoklndhgejaaGreatDoor
open Go GoAbs Go.Proofs
def evNV (p : Nat × Nat × Int) : V := .tup [.int .i64 p.1, .int .i64 p.2.1, .int .i64 p.2.2]
def t9V (p : Bool × Nat × Int) : V := .tup [.bool p.1, .int .i64 p.2.1, .int .i64 p.2.2]
theorem c_r09eval (t : Tm) (hT : HasTy TyG [] t tNat) (hG : TmG t) (hz : tmSz t ≤ 4096) (ht : TmW t) (w : Nat) (hw : w ≤ 65536) :
  Pure Tryz.prog env 172 [.agg t.cells, .int .i64 w] (evNV (evW t w)) := by
 obtain ⟨r, u, o, h0, _, hu⟩ := evN_at (m := w) hT
 have h1 := c_Eval0 hw hT hG hz ht h0
 cases o with
 | true =>
  have e : evW t w = (0, w, 5) := by simp [evW, h0]
  have w0 : IntKind.i64.wrap ((w : Int) - 0) = w := wrap_eq (by omega) (by omega) (by omega)
  rw [e]
  unfold evalV at h1
  simp only [if_true] at h1
  unfold evNV
  simp only
  clear e hT hG hz ht h0 hu hw
  intro h
  refine en_ Tryz.func172 [.tmp 4, .tmp 5, .tmp 6] fun g0 w0 gen hrel hfr hfr' hres => ?_
  first|refine wq_ ?_|exact wk_
  all_goals rfl
 | false =>
  have e : evW t w = (r.num, w - u, 0) := by simp [evW, h0]
  have w0 : IntKind.i64.wrap ((w : Int) - (u : Int)) = ((w - u : Nat) : Int) := wrap_eq (by omega) (by omega) (by omega)
  rw [e]
  unfold evalV valN at h1
  simp only [Bool.false_eq_true, if_false] at h1
  unfold evNV
  simp only
  clear e hT hG hz ht h0 hu hw
  intro h
  exact ek_ Tryz.func172 [.tmp 4, .tmp 5, .tmp 6]
theorem c_t9Eq (x y : Tm) (hx : ∀ w : Nat, w ≤ 65536 → Pure Tryz.prog env 172 [.agg x.cells, .int .i64 w] (evNV (evW x w)))
  (hy : ∀ w : Nat, w ≤ 65536 → Pure Tryz.prog env 172 [.agg y.cells, .int .i64 w] (evNV (evW y w))) (w : Nat) (hw : w ≤ 65536) :
  Pure Tryz.prog env 126 [.agg (fmEq x y).cells, .int .i64 w] (t9V (t9Eq x y w)) := by
 have h1 := hx w hw
 have hl := evW_left (t := x) (w := w)
 have e : (fmEq x y).cells = [.int .i64 1, .int .i64 0, .sl .any [], .sl .any [x.cells, y.cells], .sl .any []] := by rw [fmEq, Fm.mk_cells]; rfl
 rw [e]
 unfold t9Eq
 have h2 := hy (evW x w).2.1 (by omega)
 generalize evW x w = p at *
 obtain ⟨a, l, e1⟩ := p
 simp only at *
 generalize evW y l = q at *
 obtain ⟨b, l2, e2⟩ := q
 unfold evNV at *
 simp only at *
 have n0 : ((0 : Int) != 0) = false := rfl
 clear e hl hw hx hy
 cases q : (e1 != 0) with
 | true =>
  simp only [if_true, t9V]
  clear h2
  intro h
  refine en_ Tryz.func126 [.tmp 4, .tmp 5, .tmp 6] fun g0 w0 gen hrel hfr hfr' hres => ?_
  first|refine wq_ ?_|exact wk_
  all_goals rfl
 | false =>
  simp only [Bool.false_eq_true, if_false, t9V]
  intro h
  exact ek_ Tryz.func126 [.tmp 4, .tmp 5, .tmp 6]
theorem c_t9Two (k : Int) (hk : k = 2 ∨ k = 3) (a b : Fm) (A B : Nat → Bool × Nat × Int) (w : Nat) (hl : (A w).2.1 ≤ w) (hw : w ≤ 65536)
  (h1 : Pure Tryz.prog env 126 [.agg a.cells, .int .i64 w] (t9V (A w)))
  (hB : ∀ w : Nat, w ≤ 65536 → Pure Tryz.prog env 126 [.agg b.cells, .int .i64 w] (t9V (B w))) :
  Pure Tryz.prog env 126 [.agg (fmTwo k a b).cells, .int .i64 w] (t9V (t9Two k A B w)) := by
 have e : (fmTwo k a b).cells = [.int .i64 k, .int .i64 0, .sl .any [], .sl .any [], .sl .any [a.cells, b.cells]] := by rw [fmTwo, Fm.mk_cells]; rfl
 rw [e]
 unfold t9Two
 have h2 := hB (A w).2.1 (by omega)
 generalize A w = p at *
 obtain ⟨r, l, e1⟩ := p
 simp only at *
 generalize B l = q at *
 obtain ⟨r2, l2, e2⟩ := q
 unfold t9V at *
 simp only at *
 clear e hl hw hB
 have k1 : (k == 1) = false := by rcases hk with rfl | rfl <;> rfl
 have n0 : ((0 : Int) != 0) = false := rfl
 cases q : (e1 != 0) with
 | true =>
  simp only [if_true]
  clear h2
  intro h
  rcases hk with rfl | rfl
  ·
   refine en_ Tryz.func126 [.tmp 4, .tmp 5, .tmp 6] fun g0 w0 gen hrel hfr hfr' hres => ?_
   first|refine wq_ ?_|exact wk_
   all_goals rfl
  ·
   refine en_ Tryz.func126 [.tmp 4, .tmp 5, .tmp 6] fun g0 w0 gen hrel hfr hfr' hres => ?_
   first|refine wq_ ?_|exact wk_
   all_goals rfl
 | false =>
  simp only [Bool.false_eq_true, if_false]
  cases r with
  | true =>
   simp only [if_true]
   intro h
   rcases hk with rfl | rfl
   ·
    exact ek_ Tryz.func126 [.tmp 4, .tmp 5, .tmp 6]
   ·
    exact ek_ Tryz.func126 [.tmp 4, .tmp 5, .tmp 6]
  | false =>
   simp only [Bool.false_eq_true, if_false]
   clear h2
   intro h
   rcases hk with rfl | rfl
   ·rw [show ((2 : Int) == 3) = false from rfl]
    exact ek_ Tryz.func126 [.tmp 4, .tmp 5, .tmp 6]
   ·rw [show ((3 : Int) == 3) = true from rfl]
    exact ek_ Tryz.func126 [.tmp 4, .tmp 5, .tmp 6]
theorem c_r08Decidable {g : List Ty} {f : Fm} (hT : FmTy TyG g f) (gf : FmG true f) (zf : fmSz f ≤ 4096) (wf : FmW f) (hb : g.length ≤ 10000) :
  Pure Tryz.prog env 47 [.agg f.cells] (.tup [.bool f.fl.d, .int .i64 0]) := by
 have h3 := c_refFmCheck f wf
 rw [gf.err0 zf] at h3
 have h4 := c_r08dec (fmSz f) (Nat.le_refl _) (by omega) gf (hT.least (by omega)) (Fm.ok_good (by rw [gf.err0 zf]; rfl)) wf
 have n0 : ((0 : Int) != 0) = false := rfl
 clear gf zf wf hT hb
 generalize f.fl.d = p at *
 intro h
 exact ek_ Tryz.func47 [.tmp 2, .tmp 3]
theorem c_r08Bound {all : Bool} {q : Tm} {a : Fm} (hD : Dc [] (bndF all q a)) (zf : fmSz (bndF all q a) ≤ 4096) (wf : FmW (bndF all q a)) :
  Pure Tryz.prog env 173 [.agg (bndF all q a).cells] (.tup [.bool all, .agg (tPut q 0 zeroT).cells, .agg a.cells, .bool true]) := by
 obtain ⟨gq, tq, oq, ha⟩ := hD.inv_bnd
 have lq : q.least 536870912 = true := tq.least _ (by omega) (by rw [bnd_sz] at zf; simp; omega)
 have gf : FmG true (bndF all q a) := hD.G
 have h3 := c_refFmCheck _ wf
 rw [gf.err0 zf] at h3
 have hg : (bndF all q a).good = true := Fm.ok_good (by rw [gf.err0 zf]; rfl)
 have zq : tmSz q ≤ 4096 := by rw [bnd_sz] at zf; omega
 have h4 := c_r08bound _ wf hg (by cases all <;> simp [bndF, fmQ, Fm.kind]) (gf.hasQ (hD.ty.least (by simp; omega)) (by omega))
 unfold boundV9 at h4
 rw [bndF_bnd (by rw [gq.count_occ (by omega) (least_mono (by omega) _ lq) (by omega) (by omega), oq]; rfl)] at h4
 have e1 : bndTerm (bndF all q a) = q := by cases all <;> rfl
 have e2 : bndBody (bndF all q a) = a := by cases all <;> rfl
 have e3 : ((bndF all q a).kind == 4) = all := by cases all <;> rfl
 rw [e1, e2, e3, put_down (s := zeroT) gq lq oq (by omega)] at h4
 simp only [if_true] at h4
 have n0 : ((0 : Int) != 0) = false := rfl
 clear gf zf wf hD hg zq lq gq tq oq ha e1 e2 e3
 generalize tPut q 0 zeroT = t at *
 generalize bndF all q a = f at *
 intro h
 exact ek_ Tryz.func173 [.tmp 2, .cell 3 73, .cell 4 29, .tmp 5]
theorem c_refNumber (n : Nat) (hn : n < 4096) : Pure Tryz.prog env 78 [.int .i64 n] (.tup [.agg (numT n).cells, .int .i64 0]) := by
 intro h
 have h1 := c_numeral n (by omega)
 have d1 : decide ((n : Int) < 0) = false := by simp
 have d2 : decide ((n : Int) ≥ 4096) = false := by simp; omega
 exact ek_ Tryz.func78 [.cell 2 73, .tmp 3]
theorem c_refNumber2 (n : Nat) (hn : 4096 ≤ n) : Pure Tryz.prog env 78 [.int .i64 n] (.tup [.agg zeroT.cells, .int .i64 4]) := by
 intro h
 have hzt := zeroT_cells
 have d1 : decide ((n : Int) < 0) = false := by simp
 have d2 : decide ((n : Int) ≥ 4096) = true := by simp; omega
 exact ek_ Tryz.func78 [.cell 2 73, .tmp 3]
theorem tmInn_W {s : Tm} (hs : TmW s) {a : Int} : ∀ (t : Tm) (d : Int), TmW t → TmW (tmInn s a t d) := by
 intro t
 induction t using Tm.ind with | h t ih => ?_
 intro d ht
 rw [tmInn_eq]
 repeat' split
 ·exact tmUp_W _ _ hs
 ·exact tmVar_W _
 ·exact ht
 ·refine .mk _ _ _ _ ht.ty (by rw [List.length_map]; exact ht.len) ?_
  intro x hx
  obtain ⟨y, hy, rfl⟩ := List.mem_map.1 hx
  exact ih y hy _ (ht.arg hy)
theorem c_tmIn (s : Tm) (hs : TmW s) (at' : Int) : ∀ t : Tm, TmW t → ∀ d : Int, Pure Tryz.prog env 171 [.agg t.cells, .int .i64 at', .int .i64 d, .agg s.cells] (.agg (tmInn s at' t d).cells) := by
 intro t
 induction t using Tm.ind with | h t ih => ?_
 intro ht d h
 have hlen := ht.len
 have ih' : ∀ x ∈ t.args, Pure Tryz.prog env 171 [.agg x.cells, .int .i64 at', .int .i64 (addW d (tmBelow t.kind)), .agg s.cells] (.agg (tmInn s at' x (addW d (tmBelow t.kind))).cells) := fun x hx => ih x hx (ht.arg hx) _
 clear ih
 have hB := c_tmBelow t
 have hw : IntKind.i64.wrap (d + tmBelow t.kind) = addW d (tmBelow t.kind) := rfl
 have hw0 : IntKind.i64.wrap (at' + d) = addW at' d := rfl
 cases hk1 : (t.kind == 1) with
 | true =>
  have hw1 : IntKind.i64.wrap (t.index - 1) = subW t.index 1 := rfl
  have hU := c_tmUp (addW at' d) s hs 0
  rw [tmInn_eq, hk1]
  simp only [if_true]
  clear ih' hB hw
  generalize addW at' d = a0 at *
  cases hk2 : (t.index == a0) with
  | true =>
   simp only [if_true]
   exact ek_ Tryz.func171 [.cell 8 73]
  | false =>
   cases hk3 : decide (t.index > a0) with
   | true =>
    simp only [if_true, Bool.false_eq_true, if_false]
    refine en_ Tryz.func171 [.cell 8 73] fun g0 w0 gen hrel hfr hfr' hres => ?_
    repeat' (first
     |(refine ⟨?_,?_⟩; focus ((repeat' (first|refine ⟨?_,?_⟩|refine .inr ?_)); all_goals kernel_rfl))
     |exact hin _|exact agf (by assumption)
     | (first|refine wp rfl ?_|refine spt rfl ?_|refine spf rfl ?_|(refine spl (fun hc => ?_) fun hc => ?_) <;> (try rw [beq_iff_eq] at hc) <;> try simp only [hc]|refine cp (c_Var _) ?_|refine finF hrel ?_ ?_ ?_)<;>try simp only [go_sem, *])
   | false =>
    simp only [Bool.false_eq_true, if_false]
    exact ek_ Tryz.func171 [.cell 8 73]
 | false =>
  have hv0 : V.agg (Tm.mk t.kind t.index t.type (t.args.map fun x => tmInn s at' x (addW d (tmBelow t.kind)))).cells = .agg (tmInn s at' t d).cells := by
   rw [tmInn_eq s at' t, hk1]; rfl
  have hin : ∀ S, InV S (V.agg (tmInn s at' t d).cells) := fun S => by simp [InV, InL_Tm]
  generalize hvv : V.agg (tmInn s at' t d).cells = v at hv0 hin ⊢
  clear hvv hw0
  generalize addW d (tmBelow t.kind) = a2 at *
  refine en_ Tryz.func171 [.cell 8 73] fun g0 w0 gen hrel hfr hfr' hres => ?_
  refine wq_ ?_
  refine ar_ [1, 2, 4, 7, 8, 9, 45] [⟨gen, 0, 0⟩, ⟨gen, 0, 1⟩, ⟨gen, 0, 2⟩] (fun i σ => Agree h σ.h ∧ ∃ v, σ.h ⟨gen, 7, 7⟩ = some (.box [.int .i64 t.kind, .int .i64 t.index, .int .i64 t.type.kind, .sl .any (t.type.args.map Ty.cells), v]) ∧ OwnS h σ.h v 5 (((t.args.take i).map fun x => tmInn s at' x a2).map Tm.cells)) (t.args).length ?_ ?_ ?_
  ·simp only [go_sem, *]
   exact ⟨ag_, _, rfl, .inl rfl⟩
  ·clear hv0
   intro i σ gr0 hgl_gr0 hgn hlt jI jN jS ⟨jA, v, jb, jO0⟩
   obtain ⟨jT, jB⟩ := jS
   simp only [go_sem] at jT jB
   obtain ⟨hgf, hgf0, eg_gen_gr0, eh_gen_gr0⟩ := rnd hgn hgl_gr0 jA
   obtain ⟨x, hx, hxm, hm⟩ := rnx hlt
   clear hgn
   have hc := ih' x hxm
   have hts : ((t.args.take (i + 1)).map fun x => tmInn s at' x a2).map Tm.cells = ((t.args.take i).map fun x => tmInn s at' x a2).map Tm.cells ++ [(tmInn s at' x a2).cells] := by rw [map_take_succ hx, List.map_append]; rfl
   clear ih'
   repeat' (first
    |(refine ⟨?_,?_⟩; focus ((repeat' (first|refine ⟨?_,?_⟩|refine .inr ?_)); all_goals kernel_rfl))
    |(refine okE_app_ownd jO0 (by repeat (first|exact Keeps.refl _|refine Keeps.new ?_ (hgf _ _)|refine Keeps.new ?_ (hfr' _ _)|refine Keeps.box ?_ rfl|refine Keeps.box ?_ (by simp only [go_sem, *]))) rfl (by simp only [go_sem, *] <;> omega) (by first|exact hgf0 _ _|exact hfr' _ _) (by simp only [go_sem, *]) (by intro hd e; simp only [logOk_cons, logOk_nil, and_true]; repeat (first|exact trivial|refine ⟨.inr (by kernel_rfl), ?_⟩|exact .inr (by kernel_rfl))) ?_; intro v' h' id' jO jK jAg jAb jF; obtain ⟨cO, rfl⟩ := jO.val; simp only [go_sem, *])
    | (first|refine wp rfl ?_|refine spt rfl ?_|refine spf rfl ?_|(refine spl (fun hc => ?_) fun hc => ?_) <;> (try rw [beq_iff_eq] at hc) <;> try simp only [hc]|refine cp hc ?_|refine cp hB ?_|refine AR_inv ?_)<;>try simp only [go_sem, *])
   refine ⟨?_, _, rfl, jO.keep (Keeps.box (Keeps.refl _) (by simp only [go_sem, *]))⟩
   exact Agree.new (jAg ag_) (hfr' _ _)
  ·
   intro σ ga0 hgl_ga0 hgn jS ⟨jA, v, jb, jO0⟩
   obtain ⟨jT, jB⟩ := jS
   simp only [go_sem] at jT jB
   obtain ⟨hgf, hgf0, eg_gen_ga0, eh_gen_ga0⟩ := rnd hgn hgl_ga0 jA
   clear hgn
   rw [List.take_length] at jO0
   obtain ⟨c, rfl⟩ := jO0.val
   clear ih'
   rw [Tm.mk_cells] at hv0
   subst hv0
   exact wk_
theorem c_fmLeast (m : Int) : ∀ t : Fm, FmW t → Pure Tryz.prog env 122 [.agg t.cells, .int .i64 m] (.bool (t.least m)) := by
 intro t
 induction t using Fm.ind with | h t ih => ?_
 intro ht h
 have hlen := ht.len
 have hlen2 := ht.tlen
 have ih' : ∀ x ∈ t.args, Pure Tryz.prog env 122 [.agg x.cells, .int .i64 m] (.bool (x.least m)) := fun x hx => ih x hx (ht.arg hx)
 clear ih
 have hv0 := (t.least_eq m).symm
 generalize hvv : t.least m = v at hv0 ⊢
 clear hvv
 refine en_ Tryz.func122 [.tmp 4] fun g0 w0 gen hrel hfr hfr' hres => ?_
 refine wq_ ?_
 refine ar_ [1, 2, 10] [⟨gen, 0, 0⟩] (fun i σ => Agree h σ.h ∧ (Tm.leastL m (t.terms.drop i) && Fm.leastL m t.args) = v) (t.terms).length ?_ ?_ ?_
 ·simp only [go_sem, *]
  first|exact ag_|exact ⟨ag_, hv0⟩
 ·clear hv0 ih'
  intro i σ gr0 hgl_gr0 hgn hlt jI jN jS ⟨jA, jv⟩
  obtain ⟨jT, jB⟩ := jS
  simp only [go_sem] at jT jB
  obtain ⟨hgf, hgf0, eg_gen_gr0, eh_gen_gr0⟩ := rnd hgn hgl_gr0 jA
  obtain ⟨x, hx, hxm, hm⟩ := rnx hlt
  clear hgn
  rw [drop_get hx, Tm.leastL_cons] at jv
  have hc := c_tmLeast m x (ht.term hxm)
  cases hn : x.least m with
  | false =>
   rw [hn] at hc
   rw [hn, Bool.false_and, Bool.false_and] at jv
   subst jv
   exact wk_
  | true =>
   rw [hn] at hc
   rw [hn, Bool.true_and] at jv
   refine wq_ ?_
   first|exact ag_|exact ⟨ag_, jv⟩
 clear hv0
 intro σ ga0 hgl_ga0 hgn jS ⟨jA, jv⟩
 obtain ⟨jT, jB⟩ := jS
 simp only [go_sem] at jT jB
 obtain ⟨hgf, hgf0, eg_gen_ga0, eh_gen_ga0⟩ := rnd hgn hgl_ga0 jA
 clear hgn
 rw [List.drop_length, Tm.leastL_nil, Bool.true_and] at jv
 refine wq_ ?_
 refine ar_ [1, 22] [] (fun i σ => Agree h σ.h ∧ Fm.leastL m (t.args.drop i) = v) (t.args).length ?_ ?_ ?_
 ·simp only [go_sem, *]
  all_goals (first|exact jv|exact ⟨ag_, jv⟩)
 ·clear jv
  intro i σ gr1 hgl_gr1 hgn hlt jI jN jS ⟨jA, jv⟩
  obtain ⟨jT, jB⟩ := jS
  simp only [go_sem] at jT jB
  have hgf := fresh_of hgn
  have hgf0 := fun r i => agree_fresh jA (hgf r i)
  have eg_gen_gr1 := gen_lt (show gen < gr1 by omega)
  have eh_gen_gr1 := gen_lt' (show gen < gr1 by omega)
  have eg_ga0_gr1 := gen_lt (show ga0 < gr1 by omega)
  have eh_ga0_gr1 := gen_lt' (show ga0 < gr1 by omega)
  obtain ⟨x, hx, hxm, hm⟩ := rnx hlt
  clear hgn
  rw [drop_get hx, Fm.leastL_cons] at jv
  have hc := ih' x hxm
  clear ih'
  cases hn : x.least m with
  | false =>
   rw [hn] at hc
   rw [hn, Bool.false_and] at jv
   subst jv
   exact wk_
  | true =>
   rw [hn] at hc
   rw [hn, Bool.true_and] at jv
   refine wq_ ?_
   first|exact ag_|exact ⟨ag_, jv⟩
 ·clear jv
  intro σ ga1 hgl_ga1 hgn jS ⟨jA, jv⟩
  obtain ⟨jT, jB⟩ := jS
  simp only [go_sem] at jT jB
  have hgf := fresh_of hgn
  have hgf0 := fun r i => agree_fresh jA (hgf r i)
  have eg_gen_ga1 := gen_lt (show gen < ga1 by omega)
  have eh_gen_ga1 := gen_lt' (show gen < ga1 by omega)
  have eg_ga0_ga1 := gen_lt (show ga0 < ga1 by omega)
  have eh_ga0_ga1 := gen_lt' (show ga0 < ga1 by omega)
  clear hgn
  rw [List.drop_length, Fm.leastL_nil] at jv
  subst jv
  clear ih'
  exact wk_
theorem c_fmTimes : ∀ t : Fm, FmW t → ∀ at' : Int, Pure Tryz.prog env 124 [.agg t.cells, .int .i64 at'] (.int .i64 (t.times at')) := by
 intro t
 induction t using Fm.ind with | h t ih => ?_
 intro ht at' h
 have hlen := ht.len
 have hlen2 := ht.tlen
 have ih' : ∀ x ∈ t.args, Pure Tryz.prog env 124 [.agg x.cells, .int .i64 (addW at' (fmBelow t.kind))] (.int .i64 (x.times (addW at' (fmBelow t.kind)))) := fun x hx => ih x hx (ht.arg hx) _
 clear ih
 have hB := c_fmBelow t
 have hv0 := (t.times_eq at').symm
 generalize hvv : t.times at' = v at hv0 ⊢
 clear hvv
 have hw : IntKind.i64.wrap (at' + fmBelow t.kind) = addW at' (fmBelow t.kind) := rfl
 generalize addW at' (fmBelow t.kind) = a2 at *
 refine en_ Tryz.func124 [.tmp 4] fun g0 w0 gen hrel hfr hfr' hres => ?_
 refine wq_ ?_
 refine ar_ [1, 2, 4, 11] [⟨gen, 0, 0⟩] (fun i σ => Agree h σ.h ∧ ∃ n, σ.tm 5 = .int .i64 n ∧ Fm.timesL a2 (Tm.timesL at' n (t.terms.drop i)) t.args = v) (t.terms).length ?_ ?_ ?_
 ·simp only [go_sem, *]
  first|exact ⟨_, rfl, hv0⟩|exact ⟨ag_, _, rfl, hv0⟩
 ·clear hv0 ih'
  intro i σ gr0 hgl_gr0 hgn hlt jI jN jS ⟨jA, n, jn, jv⟩
  obtain ⟨jT, jB⟩ := jS
  simp only [go_sem] at jT jB
  obtain ⟨hgf, hgf0, eg_gen_gr0, eh_gen_gr0⟩ := rnd hgn hgl_gr0 jA
  obtain ⟨x, hx, hxm, hm⟩ := rnx hlt
  clear hgn
  rw [drop_get hx, Tm.timesL_cons] at jv
  have hc := c_tmTimes x (ht.term hxm) at'
  have hw2 : IntKind.i64.wrap (n + x.times at') = addW n (x.times at') := rfl
  refine wq_ ?_
  first|exact ⟨_, rfl, jv⟩|exact ⟨ag_, _, rfl, jv⟩
 clear hv0
 intro σ ga0 hgl_ga0 hgn jS ⟨jA, n, jn, jv⟩
 obtain ⟨jT, jB⟩ := jS
 simp only [go_sem] at jT jB
 obtain ⟨hgf, hgf0, eg_gen_ga0, eh_gen_ga0⟩ := rnd hgn hgl_ga0 jA
 clear hgn
 rw [List.drop_length, Tm.timesL_nil] at jv
 refine wq_ ?_
 refine ar_ [1, 2, 4, 24] [⟨gen, 0, 0⟩] (fun i σ => Agree h σ.h ∧ ∃ n, σ.tm 5 = .int .i64 n ∧ Fm.timesL a2 n (t.args.drop i) = v) (t.args).length ?_ ?_ ?_
 ·simp only [go_sem, *]
  first|exact ⟨_, rfl, jv⟩|exact ⟨ag_, _, rfl, jv⟩
 ·clear jv
  intro i σ gr1 hgl_gr1 hgn hlt jI jN jS ⟨jA, n', jn', jv⟩
  obtain ⟨jT, jB⟩ := jS
  simp only [go_sem] at jT jB
  have hgf := fresh_of hgn
  have hgf0 := fun r i => agree_fresh jA (hgf r i)
  have eg_gen_gr1 := gen_lt (show gen < gr1 by omega)
  have eh_gen_gr1 := gen_lt' (show gen < gr1 by omega)
  have eg_ga0_gr1 := gen_lt (show ga0 < gr1 by omega)
  have eh_ga0_gr1 := gen_lt' (show ga0 < gr1 by omega)
  obtain ⟨x, hx, hxm, hm⟩ := rnx hlt
  clear hgn
  rw [drop_get hx, Fm.timesL_cons] at jv
  have hc := ih' x hxm
  have hw2 : IntKind.i64.wrap (n' + x.times a2) = addW n' (x.times a2) := rfl
  clear ih'
  refine wq_ ?_
  first|exact ⟨_, rfl, jv⟩|exact ⟨ag_, _, rfl, jv⟩
 ·clear jv
  intro σ ga1 hgl_ga1 hgn jS ⟨jA, n', jn', jv⟩
  obtain ⟨jT, jB⟩ := jS
  simp only [go_sem] at jT jB
  have hgf := fresh_of hgn
  have hgf0 := fun r i => agree_fresh jA (hgf r i)
  have eg_gen_ga1 := gen_lt (show gen < ga1 by omega)
  have eh_gen_ga1 := gen_lt' (show gen < ga1 by omega)
  have eg_ga0_ga1 := gen_lt (show ga0 < ga1 by omega)
  have eh_ga0_ga1 := gen_lt' (show ga0 < ga1 by omega)
  clear hgn
  rw [List.drop_length, Fm.timesL_nil] at jv
  subst jv
  clear ih'
  exact wk_
theorem fmInn_W {s : Tm} (hs : TmW s) {a : Int} : ∀ (t : Fm) (d : Int), FmW t → FmW (fmInn s a t d) := by
 intro t
 induction t using Fm.ind with | h t ih => ?_
 intro d ht
 rw [fmInn_eq]
 refine .mk _ _ _ _ ht.ty (by rw [List.length_map]; exact ht.tlen) ?_ (by rw [List.length_map]; exact ht.len) ?_
 ·intro x hx
  obtain ⟨y, hy, rfl⟩ := List.mem_map.1 hx
  exact tmInn_W hs y _ (ht.term hy)
 ·intro x hx
  obtain ⟨y, hy, rfl⟩ := List.mem_map.1 hx
  exact ih y hy _ (ht.arg hy)
theorem c_fmIn (s : Tm) (hs : TmW s) (at' : Int) : ∀ t : Fm, FmW t → ∀ d : Int, Pure Tryz.prog env 125 [.agg t.cells, .int .i64 at', .int .i64 d, .agg s.cells] (.agg (fmInn s at' t d).cells) := by
 intro t
 induction t using Fm.ind with | h t ih => ?_
 intro ht d h
 have hlen := ht.len
 have hlen2 := ht.tlen
 have ih' : ∀ x ∈ t.args, Pure Tryz.prog env 125 [.agg x.cells, .int .i64 at', .int .i64 (addW d (fmBelow t.kind)), .agg s.cells] (.agg (fmInn s at' x (addW d (fmBelow t.kind))).cells) := fun x hx => ih x hx (ht.arg hx) _
 clear ih
 have hB := c_fmBelow t
 have hw : IntKind.i64.wrap (d + fmBelow t.kind) = addW d (fmBelow t.kind) := rfl
 have hv0 : V.agg (Fm.mk t.kind t.type (t.terms.map fun x => tmInn s at' x d) (t.args.map fun x => fmInn s at' x (addW d (fmBelow t.kind)))).cells = .agg (fmInn s at' t d).cells := by
  rw [fmInn_eq s at' t]
 have hin : ∀ S, InV S (V.agg (fmInn s at' t d).cells) := fun S => by simp [InV, InL_Fm]
 generalize hvv : V.agg (fmInn s at' t d).cells = v at hv0 hin ⊢
 clear hvv
 generalize addW d (fmBelow t.kind) = a2 at *
 refine en_ Tryz.func125 [.cell 8 29] fun g0 w0 gen hrel hfr hfr' hres => ?_
 refine wq_ ?_
 refine ar_ [1, 2, 4, 7, 8, 9, 20] [⟨gen, 0, 0⟩, ⟨gen, 0, 1⟩, ⟨gen, 0, 2⟩] (fun i σ => Agree h σ.h ∧ ∃ v, σ.h ⟨gen, 1, 5⟩ = some (.box [.int .i64 t.kind, .int .i64 t.type.kind, .sl .any (t.type.args.map Ty.cells), v, .sl .full []]) ∧ OwnS h σ.h v 5 (((t.terms.take i).map fun x => tmInn s at' x d).map Tm.cells)) (t.terms).length ?_ ?_ ?_
 ·simp only [go_sem, *]
  exact ⟨ag_, _, rfl, .inl rfl⟩
 ·clear hv0 ih'
  intro i σ gr0 hgl_gr0 hgn hlt jI jN jS ⟨jA, v, jb, jO0⟩
  obtain ⟨jT, jB⟩ := jS
  simp only [go_sem] at jT jB
  obtain ⟨hgf, hgf0, eg_gen_gr0, eh_gen_gr0⟩ := rnd hgn hgl_gr0 jA
  obtain ⟨x, hx, hxm, hm⟩ := rnx hlt
  clear hgn
  have hc := c_tmIn s hs at' x (ht.term hxm) d
  have hts : ((t.terms.take (i + 1)).map fun x => tmInn s at' x d).map Tm.cells = ((t.terms.take i).map fun x => tmInn s at' x d).map Tm.cells ++ [(tmInn s at' x d).cells] := by rw [map_take_succ hx, List.map_append]; rfl
  repeat' (first
   |(refine ⟨?_,?_⟩; focus ((repeat' (first|refine ⟨?_,?_⟩|refine .inr ?_)); all_goals kernel_rfl))
   |(refine okE_app_ownd jO0 (by repeat (first|exact Keeps.refl _|refine Keeps.new ?_ (hgf _ _)|refine Keeps.new ?_ (hfr' _ _)|refine Keeps.box ?_ rfl|refine Keeps.box ?_ (by simp only [go_sem, *]))) rfl (by simp only [go_sem, *] <;> omega) (by first|exact hgf0 _ _|exact hfr' _ _) (by simp only [go_sem, *]) (by intro hd e; simp only [logOk_cons, logOk_nil, and_true]; repeat (first|exact trivial|refine ⟨.inr (by kernel_rfl), ?_⟩|exact .inr (by kernel_rfl))) ?_; intro v' h' id' jO jK jAg jAb jF; obtain ⟨cO, rfl⟩ := jO.val; simp only [go_sem, *])
   | (first|refine wp rfl ?_|refine spt rfl ?_|refine spf rfl ?_|(refine spl (fun hc => ?_) fun hc => ?_) <;> (try rw [beq_iff_eq] at hc) <;> try simp only [hc]|refine cp hc ?_|refine AR_inv ?_)<;>try simp only [go_sem, *])
  refine ⟨?_, _, rfl, jO.keep (Keeps.box (Keeps.refl _) (by simp only [go_sem, *]))⟩
  exact Agree.new (jAg ag_) (hfr' _ _)
 intro σ ga0 hgl_ga0 hgn jS ⟨jA, v1, jb, jO1⟩
 obtain ⟨jT, jB⟩ := jS
 simp only [go_sem] at jT jB
 obtain ⟨hgf, hgf0, eg_gen_ga0, eh_gen_ga0⟩ := rnd hgn hgl_ga0 jA
 clear hgn
 rw [List.take_length] at jO1
 obtain ⟨c1, rfl⟩ := jO1.val
 clear jO1
 refine wq_ ?_
 refine ar_ [1, 2, 4, 7, 8, 9, 38] [⟨gen, 0, 0⟩, ⟨gen, 0, 1⟩, ⟨gen, 0, 2⟩] (fun i σ => Agree h σ.h ∧ ∃ v, σ.h ⟨gen, 1, 5⟩ = some (.box [.int .i64 t.kind, .int .i64 t.type.kind, .sl .any (t.type.args.map Ty.cells), .sl c1 ((t.terms.map fun x => tmInn s at' x d).map Tm.cells), v]) ∧ OwnS h σ.h v 5 (((t.args.take i).map fun x => fmInn s at' x a2).map Fm.cells)) (t.args).length ?_ ?_ ?_
 ·simp only [go_sem, *]
  first|exact ⟨_, rfl, .inl rfl⟩|exact ⟨ag_, _, rfl, .inl rfl⟩
 ·clear hv0
  intro i σ gr1 hgl_gr1 hgn hlt jI jN jS ⟨jA, v, jb', jO0⟩
  obtain ⟨jT, jB⟩ := jS
  simp only [go_sem] at jT jB
  have hgf := fresh_of hgn
  have hgf0 := fun r i => agree_fresh jA (hgf r i)
  have eg_gen_gr1 := gen_lt (show gen < gr1 by omega)
  have eh_gen_gr1 := gen_lt' (show gen < gr1 by omega)
  have eg_ga0_gr1 := gen_lt (show ga0 < gr1 by omega)
  have eh_ga0_gr1 := gen_lt' (show ga0 < gr1 by omega)
  obtain ⟨x, hx, hxm, hm⟩ := rnx hlt
  clear hgn
  have hc := ih' x hxm
  have hts : ((t.args.take (i + 1)).map fun x => fmInn s at' x a2).map Fm.cells = ((t.args.take i).map fun x => fmInn s at' x a2).map Fm.cells ++ [(fmInn s at' x a2).cells] := by rw [map_take_succ hx, List.map_append]; rfl
  clear ih'
  repeat' (first
   |(refine ⟨?_,?_⟩; focus ((repeat' (first|refine ⟨?_,?_⟩|refine .inr ?_)); all_goals kernel_rfl))
   |(refine okE_app_ownd jO0 (by repeat (first|exact Keeps.refl _|refine Keeps.new ?_ (hgf _ _)|refine Keeps.new ?_ (hfr' _ _)|refine Keeps.box ?_ rfl|refine Keeps.box ?_ (by simp only [go_sem, *]))) rfl (by simp only [go_sem, *] <;> omega) (by first|exact hgf0 _ _|exact hfr' _ _) (by simp only [go_sem, *]) (by intro hd e; simp only [logOk_cons, logOk_nil, and_true]; repeat (first|exact trivial|refine ⟨.inr (by kernel_rfl), ?_⟩|exact .inr (by kernel_rfl))) ?_; intro v' h' id' jO jK jAg jAb jF; obtain ⟨cO, rfl⟩ := jO.val; simp only [go_sem, *])
   | (first|refine wp rfl ?_|refine spt rfl ?_|refine spf rfl ?_|(refine spl (fun hc => ?_) fun hc => ?_) <;> (try rw [beq_iff_eq] at hc) <;> try simp only [hc]|refine cp hc ?_|refine cp hB ?_|refine AR_inv ?_)<;>try simp only [go_sem, *])
  refine ⟨?_, _, rfl, jO.keep (Keeps.box (Keeps.refl _) (by simp only [go_sem, *]))⟩
  exact Agree.new (jAg ag_) (hfr' _ _)
 ·
  intro σ ga1 hgl_ga1 hgn jS ⟨jA, v, jb', jO0⟩
  obtain ⟨jT, jB⟩ := jS
  simp only [go_sem] at jT jB
  have hgf := fresh_of hgn
  have hgf0 := fun r i => agree_fresh jA (hgf r i)
  have eg_gen_ga1 := gen_lt (show gen < ga1 by omega)
  have eh_gen_ga1 := gen_lt' (show gen < ga1 by omega)
  have eg_ga0_ga1 := gen_lt (show ga0 < ga1 by omega)
  have eh_ga0_ga1 := gen_lt' (show ga0 < ga1 by omega)
  clear hgn
  rw [List.take_length] at jO0
  obtain ⟨c, rfl⟩ := jO0.val
  clear ih'
  rw [Fm.mk_cells] at hv0
  subst hv0
  exact wk_
theorem c_fmPut (f : Fm) (hf : FmW f) (a : Int) (s : Tm) (hs : TmW s) : Pure Tryz.prog env 72 [.agg f.cells, .int .i64 a, .agg s.cells] (fmErrV (fmPut f a s)) := by
 intro h
 have h1 := c_refFmCheck f hf
 have h2 := c_tmCheck s hs
 have h3 := c_fmLeast 536870912 f hf
 have h4 := c_tmLeast 536870912 s hs
 have h5 := c_fmCount f hf
 have h6 := c_fmTimes f hf a
 have h7 := c_tmCount s hs
 have h8 := c_fmIn s hs a f hf 0
 have h9 := c_fmCopy _ (fmInn_W hs (a := a) f 0 hf)
 have hz : zeroF.cells = [.int .i64 0, .int .i64 0, .sl .any [], .sl .any [], .sl .any []] := by simp [zeroF, Fm.mk_cells, Ty.mk_kind, Ty.mk_args]
 unfold fmPut fmErrV
 cases k1 : (fmErr f != 0) with
 | true =>
  simp only [if_true, hz]
  clear h2 h3 h4 h5 h6 h7 h8 h9
  exact ek_ Tryz.func72 [.cell 6 29, .tmp 7]
 | false =>
 simp only [Bool.false_eq_true, if_false]
 cases k2 : decide (a < 0) with
 | true =>
  simp only [Bool.true_or, if_true, hz]
  clear h2 h3 h4 h5 h6 h7 h8 h9
  exact ek_ Tryz.func72 [.cell 6 29, .tmp 7]
 | false =>
 cases k3 : decide (a > 4096) with
 | true =>
  simp only [Bool.or_true, if_true, hz]
  clear h2 h3 h4 h5 h6 h7 h8 h9
  exact ek_ Tryz.func72 [.cell 6 29, .tmp 7]
 | false =>
 simp only [Bool.or_false, Bool.false_eq_true, if_false]
 cases k4 : (tmErr s != 0) with
 | true =>
  simp only [if_true, hz]
  clear h3 h4 h5 h6 h7 h8 h9
  exact ek_ Tryz.func72 [.cell 6 29, .tmp 7]
 | false =>
 simp only [Bool.false_eq_true, if_false]
 cases k5 : f.least 536870912 with
 | false =>
  rw [k5] at h3
  simp only [Bool.not_false, Bool.true_or, if_true, hz]
  clear h4 h5 h6 h7 h8 h9
  exact ek_ Tryz.func72 [.cell 6 29, .tmp 7]
 | true =>
 rw [k5] at h3
 cases k6 : s.least 536870912 with
 | false =>
  rw [k6] at h4
  simp only [Bool.not_false, Bool.or_true, if_true, hz]
  clear h5 h6 h7 h8 h9
  exact ek_ Tryz.func72 [.cell 6 29, .tmp 7]
 | true =>
 rw [k6] at h4
 simp only [Bool.not_true, Bool.or_false, Bool.false_eq_true, if_false]
 have w1 : IntKind.i64.wrap (s.szW - 1) = subW s.szW 1 := rfl
 have w2 : IntKind.i64.wrap (f.times a * subW s.szW 1) = mulW (f.times a) (subW s.szW 1) := rfl
 have w3 : IntKind.i64.wrap (f.szW + mulW (f.times a) (subW s.szW 1)) = addW f.szW (mulW (f.times a) (subW s.szW 1)) := rfl
 cases k7 : decide (addW f.szW (mulW (f.times a) (subW s.szW 1)) > 4096) with
 | true =>
  simp only [if_true, hz]
  clear h8 h9
  exact ek_ Tryz.func72 [.cell 6 29, .tmp 7]
 | false =>
  simp only [Bool.false_eq_true, if_false]
  exact ek_ Tryz.func72 [.cell 6 29, .tmp 7]
inductive S9 (all : Bool) (a : Fm) : Nat → Nat → Nat → Ans → Prop
 | none {k l : Nat} : S9 all a 0 k l (all, l, 0)
 | over {n k : Nat} : S9 all a (n + 1) k 0 (false, 0, 5)
 | big {n k l : Nat} (hl : 0 < l) (hN : Pure Tryz.prog env 78 [.int .i64 k] (.tup [.agg zeroT.cells, .int .i64 4])) : S9 all a (n + 1) k l (false, 0, 4)
 | put {n k l : Nat} {t : Tm} {g : Fm} {e : Int} (hl : 0 < l) (hN : Pure Tryz.prog env 78 [.int .i64 k] (.tup [.agg t.cells, .int .i64 0]))
   (hP : Pure Tryz.prog env 72 [.agg a.cells, .int .i64 0, .agg t.cells] (.tup [.agg g.cells, .int .i64 e])) (he : (e != 0) = true) : S9 all a (n + 1) k l (false, 0, e)
 | stop {n k l : Nat} {t : Tm} {g : Fm} {p : Ans} (hN : Pure Tryz.prog env 78 [.int .i64 k] (.tup [.agg t.cells, .int .i64 0]))
   (hP : Pure Tryz.prog env 72 [.agg a.cells, .int .i64 0, .agg t.cells] (.tup [.agg g.cells, .int .i64 0]))
   (hT : Pure Tryz.prog env 126 [.agg g.cells, .int .i64 l] (t9V p)) (hs : (p.2.2 != 0 || p.1 != all) = true) : S9 all a (n + 1) k (l + 1) p
 | step {n k l l' : Nat} {t : Tm} {g : Fm} {v : Ans} (hN : Pure Tryz.prog env 78 [.int .i64 k] (.tup [.agg t.cells, .int .i64 0]))
   (hP : Pure Tryz.prog env 72 [.agg a.cells, .int .i64 0, .agg t.cells] (.tup [.agg g.cells, .int .i64 0]))
   (hT : Pure Tryz.prog env 126 [.agg g.cells, .int .i64 l] (t9V (all, l', 0))) (hl : l' ≤ l) (hS : S9 all a n (k + 1) l' v) : S9 all a (n + 1) k (l + 1) v
theorem rB_S9 {R : Nat → Fm → Ans} {all : Bool} {a : Fm} (hP : ∀ k : Nat, k < 4096 → Pure Tryz.prog env 72 [.agg a.cells, .int .i64 0, .agg (numT k).cells] (fmErrV (putR a (numT k))))
  (hR : ∀ k l : Nat, k < 4096 → (putR a (numT k)).2 = 0 → l ≤ 65536 → Pure Tryz.prog env 126 [.agg (putR a (numT k)).1.cells, .int .i64 l] (t9V (R l (putR a (numT k)).1)) ∧ (R l (putR a (numT k)).1).2.1 ≤ l) :
  ∀ n k l, l ≤ 65536 → S9 all a n k l (rB R all a n k l) := by
 intro n
 induction n with
 | zero => intro k l _; exact .none
 | succ n ih =>
  intro k l hl
  rw [rB]
  cases l with
  | zero => rw [if_pos rfl]; exact .over
  | succ l =>
   rw [if_neg (by omega)]
   by_cases hk : 4096 ≤ k
   ·rw [if_pos hk]
    exact .big (by omega) (c_refNumber2 k hk)
   rw [if_neg hk]
   have h1 := hP k (by omega)
   unfold fmErrV at h1
   cases hz : ((putR a (numT k)).2 != 0) with
   | true =>
    simp only [if_true]
    exact .put (by omega) (c_refNumber k (by omega)) h1 hz
   | false =>
    have hz' : (putR a (numT k)).2 = 0 := by simpa using hz
    simp only [Bool.false_eq_true, if_false]
    rw [hz'] at h1
    obtain ⟨h2, h3⟩ := hR k l (by omega) hz' (by omega)
    rw [show l + 1 - 1 = l by omega]
    generalize R l (putR a (numT k)).1 = p at *
    cases hs : (p.2.2 != 0 || p.1 != all) with
    | true => simp only [if_true]; exact .stop (c_refNumber k (by omega)) h1 h2 hs
    | false =>
     simp only [Bool.false_eq_true, if_false]
     simp only [Bool.or_eq_false_iff, bne_eq_false_iff_eq] at hs
     obtain ⟨b, l', e⟩ := p
     simp only at hs h3
     obtain ⟨rfl, rfl⟩ := hs
     exact .step (c_refNumber k (by omega)) h1 h2 h3 (ih (k + 1) l' (by omega))
theorem S9.cons {all : Bool} {a : Fm} {n k l : Nat} {v : Ans} (h : S9 all a (n + 1) k l v) :
  (l = 0 ∧ v = (false, 0, 5)) ∨ (0 < l ∧ ∃ (t : Tm) (e : Int), Pure Tryz.prog env 78 [.int .i64 k] (.tup [.agg t.cells, .int .i64 e]) ∧ (((e != 0) = true ∧ v = (false, 0, e)) ∨ (e = 0 ∧
   ∃ (g : Fm) (e : Int), Pure Tryz.prog env 72 [.agg a.cells, .int .i64 0, .agg t.cells] (.tup [.agg g.cells, .int .i64 e]) ∧ (((e != 0) = true ∧ v = (false, 0, e)) ∨ (e = 0 ∧
    ∃ p : Ans, Pure Tryz.prog env 126 [.agg g.cells, .int .i64 (l - 1 : Nat)] (t9V p) ∧
     (((p.2.2 != 0) = true ∧ v = p) ∨ (p.2.2 = 0 ∧ (p.1 != all) = true ∧ v = p) ∨ (p.2.2 = 0 ∧ p.1 = all ∧ p.2.1 ≤ l ∧ S9 all a n (k + 1) p.2.1 v))))))) := by
 cases h with
 | over => exact .inl ⟨rfl, rfl⟩
 | big hl hN => exact .inr ⟨hl, _, _, hN, .inl ⟨rfl, rfl⟩⟩
 | put hl hN hP he => exact .inr ⟨hl, _, _, hN, .inr ⟨rfl, _, _, hP, .inl ⟨he, rfl⟩⟩⟩
 | @stop _ _ l t g p hN hP hT hs =>
  refine .inr ⟨by omega, _, _, hN, .inr ⟨rfl, _, _, hP, .inr ⟨rfl, v, hT, ?_⟩⟩⟩
  cases he : (v.2.2 != 0) with
  | true => exact .inl ⟨rfl, rfl⟩
  | false => rw [he, Bool.false_or] at hs; exact .inr (.inl ⟨by simpa using he, hs, rfl⟩)
 | @step _ _ l l' t g _ hN hP hT hl hS => exact .inr ⟨by omega, _, _, hN, .inr ⟨rfl, _, _, hP, .inr ⟨rfl, (all, l', 0), hT, .inr (.inr ⟨rfl, rfl, by simp only; omega, hS⟩)⟩⟩⟩
theorem S9.nil {all : Bool} {a : Fm} {k l : Nat} {v : Ans} (h : S9 all a 0 k l v) : v = (all, l, 0) := by
 cases h; rfl
theorem c_r09bnd {all : Bool} {f a : Fm} {t : Tm} {l m l' : Nat} {v : Ans} (hk : f.kind = 4 ∨ f.kind = 5) (hm : m ≤ 65536) (hl : l' ≤ 65536)
  (hB : Pure Tryz.prog env 173 [.agg f.cells] (.tup [.bool all, .agg t.cells, .agg a.cells, .bool true]))
  (hE : Pure Tryz.prog env 172 [.agg t.cells, .int .i64 l] (.tup [.int .i64 m, .int .i64 l', .int .i64 0]))
  (hS : S9 all a m 0 l' v) : Pure Tryz.prog env 126 [.agg f.cells, .int .i64 l] (t9V v) := by
 intro h
 have n0 : ((0 : Int) != 0) = false := rfl
 unfold t9V
 rcases hk with hk | hk
 all_goals
  refine en_ Tryz.func126 [.tmp 4, .tmp 5, .tmp 6] fun g0 w0 gen hrel hfr hfr' hres => ?_
  refine wq_ ?_
  clear hB hE
  refine AR_loop_nat (fun i σ => σ.tm 20 = .int .i64 i ∧ σ.tm 18 = .int .i64 m ∧ σ.tm 14 = .bool all ∧ σ.tm 16 = .ptr ⟨gen, 18, 8⟩ 0 ∧ σ.h ⟨gen, 18, 8⟩ = some (.box a.cells) ∧ Agree h σ.h ∧
   ∃ L : Nat, σ.tm 1 = .int .i64 L ∧ L ≤ 65536 ∧ i ≤ m ∧ S9 all a (m - i) i L v) m ?_ ?_
  ·simp only [go_sem, *]
   exact ⟨rfl, ag_, l', rfl, hl, hS⟩
  clear hS
  intro i σ hi ⟨j1, j2, j3, j4, j5, jA, L, j6, j7, j8, jS⟩
  refine AR_gen2 (fun gn hgl hgn => ?_)
  have hgf := fresh_of hgn
  have hgf0 := fun r i => agree_fresh jA (hgf r i)
  have eg1 := gen_lt hgl
  have eg2 := gen_lt' hgl
  clear hgn
  rcases Nat.lt_or_ge i m with hlt | hge
  ·have hd := lt_true hlt
   rw [show m - i = m - (i + 1) + 1 by omega] at jS
   rcases jS.cons with ⟨rfl, rfl⟩ | ⟨hL, x, e, hN, hx⟩
   ·clear jS
    first|refine wq_ ?_|exact wk_
    all_goals rfl
   have hL0 : ((L : Int) == 0) = false := by simp; omega
   have hw1 : IntKind.i64.wrap ((L : Int) - 1) = ((L - 1 : Nat) : Int) := wrap_eq (by omega) (by omega) (by omega)
   clear jS
   rcases hx with ⟨he, rfl⟩ | ⟨rfl, g, e, hP, hx⟩
   ·
    first|refine wq_ ?_|exact wk_
    all_goals rfl
   rcases hx with ⟨he, rfl⟩ | ⟨rfl, p, hT, hx⟩
   ·
    first|refine wq_ ?_|exact wk_
    all_goals rfl
   unfold t9V at hT
   obtain ⟨pb, pl, pe⟩ := p
   simp only at hT hx
   generalize L - 1 = L1 at *
   rcases hx with ⟨he, rfl⟩ | ⟨rfl, hb, rfl⟩ | ⟨rfl, rfl, hle, hS⟩
   ·
    exact wk_
   ·
    exact wk_
   ·have hw := wrap_succ (i := i) (by omega)
    have na : (pb != pb) = false := by cases pb <;> rfl
    refine wq_ ?_
    first|exact ⟨by repeat (first|exact jA|refine Agree.new ?_ (hgf0 _ _)|refine Agree.new ?_ (hfr' _ _)), pl, rfl, by omega, by omega, hS⟩|exact ⟨hlt, by repeat (first|exact jA|refine Agree.new ?_ (hgf0 _ _)|refine Agree.new ?_ (hfr' _ _)), pl, rfl, by omega, by omega, hS⟩
  ·have hd := lt_false hge
   obtain rfl : i = m := by omega
   rw [Nat.sub_self] at jS
   obtain rfl := jS.nil
   clear jS
   exact wk_
end Go.Proofs.YtkoeoklndhgejaaGreatDoor
