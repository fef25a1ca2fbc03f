/-
 Walks: putting a term into a formula (tree, formula); numbers.
-/
import Derived.Test.YtenelbgbjmijiaaGreatDoorIe
import Derived.Test.YtenelbgbjmijiaaGreatDoorMh
import Derived.Test.YtenelbgbjmijiaaGreatDoorAbsDb
set_option linter.unusedSimpArgs false
set_option linter.unusedVariables false
set_option maxRecDepth 20000
set_option maxHeartbeats 4000000
namespace Go.Proofs.YtenelbgbjmijiaaGreatDoor
open Go GoAbs Go.Proofs
theorem c_tPutF1 (a : Int) (s : Tm) (hs : TmW s) (A B : GoAbs.Id) (t : Tm) (ht : TmW t) (b : Int) : PureE Tryz.prog env 199 (.agg t.cells :: .int .i64 b :: [.ptr A 0, .ptr B 0])
  [(A, .box [.int .i64 a]), (B, .box s.cells)] (.agg (tPut t (addW a b) s).cells) := by
 intro h he
 simp only [List.mem_cons, List.not_mem_nil, or_false, forall_eq_or_imp, forall_eq] at he
 obtain ⟨hA, hB⟩ := he
 have hw : IntKind.i64.wrap (a + b) = addW a b := rfl
 have hc := c_tPut t ht (addW a b) s hs
 have hin : ∀ S, InV S (V.agg (tPut t (addW a b) s).cells) := fun S => by simp [InV, InL_Tm]
 generalize addW a b = m at *
 generalize tPut t m s = v at *
 clear ht hs
 refine en Tryz.func199 [.cell 6 31] rfl rfl fun g0 w0 gen hrel hfr hfr' hres => ?_
 have f5 := fresh_ne hfr hA
 have f6 := fresh_ne hfr hB
 repeat' (first
  |exact hin _|exact agf (by assumption)
  | (first|refine wp rfl ?_|refine cp hc ?_|refine finF hrel ?_ ?_ ?_)<;>try simp only [go_sem, *])
theorem c_treePutFormula (f : Fm) (hf : FmW f) (a : Int) (s : Tm) (hs : TmW s) : Pure Tryz.prog env 163 [.agg f.cells, .int .i64 a, .agg s.cells] (.agg (f.rv (fun t b => tPut t (addW a b) s) 0).cells) := by
 intro h
 refine en Tryz.func163 [.cell 6 29] rfl rfl fun g0 w0 gen hrel hfr hfr' hres => ?_
 have hc := c_RebuildF (fun t b => tPut t (addW a b) s) 199 [.ptr ⟨gen, 0, 1⟩ 0, .ptr ⟨gen, 0, 2⟩ 0] rfl ⟨gen, 0, 1⟩ ⟨gen, 0, 2⟩ _ _ (fun x hx b => c_tPutF1 a s hs _ _ x hx b) f hf 0
 generalize f.rv (fun t b => tPut t (addW a b) s) 0 = v at *
 clear hs
 repeat' (first
  |exact hin _|exact agf (by assumption)
  | (first|refine wp rfl ?_|(refine Call1_pureE (hc) ?_ ?_; (focus ((simp only [go_sem, *] <;> (repeat (first|assumption | rfl|refine And.intro ?_ ?_))); done)))|refine finF hrel ?_ ?_ ?_)<;>try simp only [go_sem, *])
theorem c_CountF1 (a : Int) (A d : GoAbs.Id) (nA : A ≠ d) (n : Int) (t : Tm) (ht : TmW t) (b : Int) :
  TurnsE Tryz.prog env 198 (.agg t.cells :: .int .i64 b :: [.ptr d 0, .ptr A 0]) [(A, .box [.int .i64 a])] d (.box [.int .i64 n]) (.tup []) (.box [.int .i64 (addW n (t.count (addW a b)))]) := by
 intro h he hd
 simp only [List.mem_cons, List.not_mem_nil, or_false, forall_eq] at he
 have n3 : (A = d) = False := by simpa using nA
 have hc := c_tCount t ht (addW a b)
 have hw : IntKind.i64.wrap (a + b) = addW a b := rfl
 generalize addW a b = m at *
 have hw2 : IntKind.i64.wrap (n + t.count m) = addW n (t.count m) := rfl
 generalize t.count m = q at *
 clear ht nA
 refine en Tryz.func198 [] rfl rfl fun g0 w0 gen hrel hfr hfr' hres => ?_
 have f1 := fresh_ne hfr hd
 have f2 := fresh_ne' hfr hd
 have f5 := fresh_ne hfr he
 repeat' (first
  |(refine ⟨?_,?_⟩; focus ((repeat' (first|refine ⟨?_,?_⟩|refine .inr ?_)); all_goals kernel_rfl))
  |exact agb (by assumption)
  | (first|refine wp rfl ?_|refine cp hc ?_|refine finT hrel hd ?_ ?_ ?_ ?_ ?_)<;>try simp only [go_sem, *])
theorem c_eachN (F : Tm → Int → Int) (kd : Nat) (cap : List V) (hcap : weakL cap = cap) (A d : GoAbs.Id) (oA : GoAbs.Obj) (nA : A ≠ d)
  (hdo : ∀ x : Tm, TmW x → ∀ b n : Int, TurnsE Tryz.prog env kd (.agg x.cells :: .int .i64 b :: cap) [(A, oA)] d (.box [.int .i64 n]) (.tup []) (.box [.int .i64 (addW n (F x b))])) :
  ∀ f : Fm, FmW f → ∀ b n : Int, TurnsE Tryz.prog env 196 [.agg f.cells, .int .i64 b, .fn (.func kd) [] cap] [(A, oA)] d (.box [.int .i64 n]) (.tup []) (.box [.int .i64 (f.sm F b n)]) := by
 intro t
 induction t using Fm.ind with | h t ih => ?_
 intro ht b n h he hd
 simp only [List.mem_cons, List.not_mem_nil, or_false, forall_eq] at he
 have hlen := ht.len
 have hlen2 := ht.tlen
 have ih' : ∀ x ∈ t.args, ∀ b n : Int, TurnsE Tryz.prog env 196 [.agg x.cells, .int .i64 b, .fn (.func kd) [] cap] [(A, oA)] d (.box [.int .i64 n]) (.tup []) (.box [.int .i64 (x.sm F b n)]) := fun x hx => ih x hx (ht.arg hx)
 have ht' : ∀ x ∈ t.terms, ∀ b n : Int, TurnsE Tryz.prog env kd (.agg x.cells :: .int .i64 b :: cap) [(A, oA)] d (.box [.int .i64 n]) (.tup []) (.box [.int .i64 (addW n (F x b))]) := fun x hx => hdo x (ht.term hx)
 have hQ := c_Quantifier t.kind
 rw [Fm.sm_eq]
 unfold evB
 clear ih hdo ht
 have n3 : (A = d) = False := by simpa using nA
 clear nA
 have hw : IntKind.i64.wrap (b + 1) = addW b 1 := rfl
 generalize hb1 : (if (decide (t.kind ≥ 4) && decide (t.kind ≤ 7)) = true then addW b 1 else b) = b1
 generalize hm : t.args.foldl (fun n x => x.sm F b1 n) (t.terms.foldl (fun n t => addW n (F t b)) n) = m
 refine en Tryz.func196 [] rfl rfl fun g0 w0 gen hrel hfr hfr' hres => ?_
 have f1 := fresh_ne hfr hd
 have f2 := fresh_ne' hfr hd
 have f5 := fresh_ne hfr he
 repeat' (first
  | (first|refine wp rfl ?_|refine spt rfl ?_|refine spf rfl ?_|(refine spl (fun hc => ?_) fun hc => ?_) <;> (try rw [beq_iff_eq] at hc) <;> try simp only [hc])<;>try simp only [go_sem, *])
 refine AR_range [1, 2, 3, 11] [⟨gen, 0, 0⟩] (fun i σ => AgreeBut d h σ.h ∧ σ.h d = some (.box [.int .i64 ((t.terms.take i).foldl (fun n t => addW n (F t b)) n)])) (t.terms).length (by first | omega | (simp only [go_sem, *] <;> omega)) ⟨rfl, rfl, rfl⟩ rfl (by simp only [go_sem, *]) (by simp only [go_sem, *]) ?_ (by intro i σ t v ht hK; simp only [List.mem_cons, List.not_mem_nil, or_false] at ht; rcases ht with rfl | rfl | rfl <;> exact hK) ?_ ?_
 ·simp only [go_sem, *]
  exact ⟨by repeat (first|exact AgreeBut.refl _ _|assumption|refine AgreeBut.new ?_ (hfr' _ _)|refine AgreeBut.set ?_), rfl⟩
 ·clear ih' hm
  intro i σ gr0 hgl_gr0 hgn hlt jI jN jS ⟨jA, js⟩
  obtain ⟨jT, jB⟩ := jS
  simp only [go_sem] at jT jB
  have hgf := fresh_of hgn
  have hgf0 := agreeBut_fresh' hd jA hgf (fun r i e => by have := hfr d (by rw [hd]; simp); rw [e] at this; simp at this; omega)
  have fd_gr0 := fresh_ne2 hfr hd (show gen < gr0 by omega)
  have fe_gr0 := fresh_ne2' hfr hd (show gen < gr0 by omega)
  have eg_gen_gr0 := gen_lt (show gen < gr0 by omega)
  have eh_gen_gr0 := gen_lt' (show gen < gr0 by omega)
  obtain ⟨x, hx⟩ : ∃ x, (t.terms)[i]? = some x := ⟨_, List.getElem?_eq_getElem hlt⟩
  have hxm := List.mem_of_getElem? hx
  have hm := min_lt hlt
  clear hgn
  have hc := ht' x hxm b ((t.terms.take i).foldl (fun n t => addW n (F t b)) n)
  have hA' := (jA A (by simpa using n3) (by rw [he]; simp)).trans he
  have g5 := fresh_ne2 hfr he hgl_gr0
  have hts := foldl_take_succ (g := fun n t => addW n (F t b)) hx n
  generalize (t.terms.take i).foldl (fun n t => addW n (F t b)) n = w at *
  clear ht' he
  repeat' (first
   | (first|refine wp rfl ?_|refine spt rfl ?_|refine spf rfl ?_|(refine spl (fun hc => ?_) fun hc => ?_) <;> (try rw [beq_iff_eq] at hc) <;> try simp only [hc]|(refine Call1_turnE (hc) ?_ ?_ ?_; (focus ((simp only [go_sem, *] <;> (repeat (first|assumption | rfl|refine And.intro ?_ ?_))); done)); (focus ((simp only [go_sem, *] <;> first | rfl|assumption); done)))|refine AR_inv ?_)<;>try simp only [go_sem, *])
  repeat (first|assumption|refine AgreeBut.new ?_ (hgf0 _ _)|refine AgreeBut.set ?_)
 clear ht'
 intro σ ga0 hgl_ga0 hgn jS ⟨jA, js⟩
 obtain ⟨jT, jB⟩ := jS
 simp only [go_sem] at jT jB
 have hgf := fresh_of hgn
 have hgf0 := agreeBut_fresh' hd jA hgf (fun r i e => by have := hfr d (by rw [hd]; simp); rw [e] at this; simp at this; omega)
 have fd_ga0 := fresh_ne2 hfr hd (show gen < ga0 by omega)
 have fe_ga0 := fresh_ne2' hfr hd (show gen < ga0 by omega)
 have eg_gen_ga0 := gen_lt (show gen < ga0 by omega)
 have eh_gen_ga0 := gen_lt' (show gen < ga0 by omega)
 clear hgn
 rw [List.take_length] at js
 generalize t.terms.foldl (fun n t => addW n (F t b)) n = w at *
 cases hq : (decide (t.kind ≥ 4) && decide (t.kind ≤ 7)) with
 | true =>
  rw [hq] at hQ hb1
  clear hq
  simp only [if_true] at hb1
  repeat' (first
   | (first|refine wp rfl ?_|refine spt rfl ?_|refine spf rfl ?_|(refine spl (fun hc => ?_) fun hc => ?_) <;> (try rw [beq_iff_eq] at hc) <;> try simp only [hc]|refine cp hQ ?_)<;>try simp only [go_sem, *])
  refine AR_range [1, 2, 28] [] (fun i σ => AgreeBut d h σ.h ∧ σ.h d = some (.box [.int .i64 ((t.args.take i).foldl (fun n x => x.sm F b1 n) w)])) (t.args).length (by first | omega | (simp only [go_sem, *] <;> omega)) ⟨rfl, rfl, rfl⟩ rfl (by simp only [go_sem, *]) (by simp only [go_sem, *]) ?_ (by intro i σ t v ht hK; simp only [List.mem_cons, List.not_mem_nil, or_false] at ht; rcases ht with rfl | rfl | rfl <;> exact hK) ?_ ?_
  ·simp only [go_sem, *]
   first|exact ⟨jA, rfl⟩|exact jA | rfl
  ·clear hm
   intro i σ gr1 hgl_gr1 hgn hlt jI jN jS ⟨jA, js'⟩
   obtain ⟨jT, jB⟩ := jS
   simp only [go_sem] at jT jB
   have hgf := fresh_of hgn
   have hgf0 := agreeBut_fresh' hd jA hgf (fun r i e => by have := hfr d (by rw [hd]; simp); rw [e] at this; simp at this; omega)
   have fd_gr1 := fresh_ne2 hfr hd (show gen < gr1 by omega)
   have fe_gr1 := fresh_ne2' hfr hd (show gen < gr1 by omega)
   have eg_gen_gr1 := gen_lt (show gen < gr1 by omega)
   have eh_gen_gr1 := gen_lt' (show gen < gr1 by omega)
   have eg_ga0_gr1 := gen_lt (show ga0 < gr1 by omega)
   have eh_ga0_gr1 := gen_lt' (show ga0 < gr1 by omega)
   obtain ⟨x, hx⟩ : ∃ x, (t.args)[i]? = some x := ⟨_, List.getElem?_eq_getElem hlt⟩
   have hxm := List.mem_of_getElem? hx
   have hm := min_lt hlt
   clear hgn
   have hc := ih' x hxm b1 ((t.args.take i).foldl (fun n x => x.sm F b1 n) w)
   have hA' := (jA A (by simpa using n3) (by rw [he]; simp)).trans he
   have g5 := fresh_ne2 hfr he (show gen < gr1 by omega)
   have hts := foldl_take_succ (g := fun n x => x.sm F b1 n) hx w
   generalize (t.args.take i).foldl (fun n x => x.sm F b1 n) w = w' at *
   clear ih' he
   repeat' (first
    | (first|refine wp rfl ?_|refine spt rfl ?_|refine spf rfl ?_|(refine spl (fun hc => ?_) fun hc => ?_) <;> (try rw [beq_iff_eq] at hc) <;> try simp only [hc]|(refine Call1_turnE (hc) ?_ ?_ ?_; (focus ((simp only [go_sem, *] <;> (repeat (first|assumption | rfl|refine And.intro ?_ ?_))); done)); (focus ((simp only [go_sem, *] <;> first | rfl|assumption); done)))|refine AR_inv ?_)<;>try simp only [go_sem, *])
   repeat (first|assumption|refine AgreeBut.new ?_ (hgf0 _ _)|refine AgreeBut.set ?_)
  ·
   intro σ ga1 hgl_ga1 hgn jS ⟨jA, js2⟩
   obtain ⟨jT, jB⟩ := jS
   simp only [go_sem] at jT jB
   have hgf := fresh_of hgn
   have hgf0 := agreeBut_fresh' hd jA hgf (fun r i e => by have := hfr d (by rw [hd]; simp); rw [e] at this; simp at this; omega)
   have fd_ga1 := fresh_ne2 hfr hd (show gen < ga1 by omega)
   have fe_ga1 := fresh_ne2' hfr hd (show gen < ga1 by omega)
   have eg_gen_ga1 := gen_lt (show gen < ga1 by omega)
   have eh_gen_ga1 := gen_lt' (show gen < ga1 by omega)
   have eg_ga0_ga1 := gen_lt (show ga0 < ga1 by omega)
   have eh_ga0_ga1 := gen_lt' (show ga0 < ga1 by omega)
   clear hgn
   rw [List.take_length, hm] at js2
   clear ih' hm
   repeat' (first
    | (first|refine wp rfl ?_|refine spt rfl ?_|refine spf rfl ?_|(refine spl (fun hc => ?_) fun hc => ?_) <;> (try rw [beq_iff_eq] at hc) <;> try simp only [hc])<;>try simp only [go_sem, *])
   refine AR_fin_turn hrel hd (by simp only [go_sem, and_self]) (by simp only [go_sem, and_self]) (by repeat (first|assumption|refine AgreeBut.new ?_ (hfr' _ _))) (by simp only [go_sem, *]) ?_
   simp only [go_sem, *]
 | false =>
  rw [hq] at hQ hb1
  clear hq
  simp only [Bool.false_eq_true, if_false] at hb1
  subst hb1
  repeat' (first
   | (first|refine wp rfl ?_|refine spt rfl ?_|refine spf rfl ?_|(refine spl (fun hc => ?_) fun hc => ?_) <;> (try rw [beq_iff_eq] at hc) <;> try simp only [hc]|refine cp hQ ?_)<;>try simp only [go_sem, *])
  refine AR_range [1, 2, 28] [] (fun i σ => AgreeBut d h σ.h ∧ σ.h d = some (.box [.int .i64 ((t.args.take i).foldl (fun n x => x.sm F b n) w)])) (t.args).length (by first | omega | (simp only [go_sem, *] <;> omega)) ⟨rfl, rfl, rfl⟩ rfl (by simp only [go_sem, *]) (by simp only [go_sem, *]) ?_ (by intro i σ t v ht hK; simp only [List.mem_cons, List.not_mem_nil, or_false] at ht; rcases ht with rfl | rfl | rfl <;> exact hK) ?_ ?_
  ·simp only [go_sem, *]
   first|exact ⟨jA, rfl⟩|exact jA | rfl
  ·clear hm
   intro i σ gr1 hgl_gr1 hgn hlt jI jN jS ⟨jA, js'⟩
   obtain ⟨jT, jB⟩ := jS
   simp only [go_sem] at jT jB
   have hgf := fresh_of hgn
   have hgf0 := agreeBut_fresh' hd jA hgf (fun r i e => by have := hfr d (by rw [hd]; simp); rw [e] at this; simp at this; omega)
   have fd_gr1 := fresh_ne2 hfr hd (show gen < gr1 by omega)
   have fe_gr1 := fresh_ne2' hfr hd (show gen < gr1 by omega)
   have eg_gen_gr1 := gen_lt (show gen < gr1 by omega)
   have eh_gen_gr1 := gen_lt' (show gen < gr1 by omega)
   have eg_ga0_gr1 := gen_lt (show ga0 < gr1 by omega)
   have eh_ga0_gr1 := gen_lt' (show ga0 < gr1 by omega)
   obtain ⟨x, hx⟩ : ∃ x, (t.args)[i]? = some x := ⟨_, List.getElem?_eq_getElem hlt⟩
   have hxm := List.mem_of_getElem? hx
   have hm := min_lt hlt
   clear hgn
   have hc := ih' x hxm b ((t.args.take i).foldl (fun n x => x.sm F b n) w)
   have hA' := (jA A (by simpa using n3) (by rw [he]; simp)).trans he
   have g5 := fresh_ne2 hfr he (show gen < gr1 by omega)
   have hts := foldl_take_succ (g := fun n x => x.sm F b n) hx w
   generalize (t.args.take i).foldl (fun n x => x.sm F b n) w = w' at *
   clear ih' he
   repeat' (first
    | (first|refine wp rfl ?_|refine spt rfl ?_|refine spf rfl ?_|(refine spl (fun hc => ?_) fun hc => ?_) <;> (try rw [beq_iff_eq] at hc) <;> try simp only [hc]|(refine Call1_turnE (hc) ?_ ?_ ?_; (focus ((simp only [go_sem, *] <;> (repeat (first|assumption | rfl|refine And.intro ?_ ?_))); done)); (focus ((simp only [go_sem, *] <;> first | rfl|assumption); done)))|refine AR_inv ?_)<;>try simp only [go_sem, *])
   repeat (first|assumption|refine AgreeBut.new ?_ (hgf0 _ _)|refine AgreeBut.set ?_)
  ·
   intro σ ga1 hgl_ga1 hgn jS ⟨jA, js2⟩
   obtain ⟨jT, jB⟩ := jS
   simp only [go_sem] at jT jB
   have hgf := fresh_of hgn
   have hgf0 := agreeBut_fresh' hd jA hgf (fun r i e => by have := hfr d (by rw [hd]; simp); rw [e] at this; simp at this; omega)
   have fd_ga1 := fresh_ne2 hfr hd (show gen < ga1 by omega)
   have fe_ga1 := fresh_ne2' hfr hd (show gen < ga1 by omega)
   have eg_gen_ga1 := gen_lt (show gen < ga1 by omega)
   have eh_gen_ga1 := gen_lt' (show gen < ga1 by omega)
   have eg_ga0_ga1 := gen_lt (show ga0 < ga1 by omega)
   have eh_ga0_ga1 := gen_lt' (show ga0 < ga1 by omega)
   clear hgn
   rw [List.take_length, hm] at js2
   clear ih' hm
   repeat' (first
    | (first|refine wp rfl ?_|refine spt rfl ?_|refine spf rfl ?_|(refine spl (fun hc => ?_) fun hc => ?_) <;> (try rw [beq_iff_eq] at hc) <;> try simp only [hc])<;>try simp only [go_sem, *])
   refine AR_fin_turn hrel hd (by simp only [go_sem, and_self]) (by simp only [go_sem, and_self]) (by repeat (first|assumption|refine AgreeBut.new ?_ (hfr' _ _))) (by simp only [go_sem, *]) ?_
   simp only [go_sem, *]
theorem c_CountFormula (f : Fm) (hf : FmW f) (a : Int) : Pure Tryz.prog env 162 [.agg f.cells, .int .i64 a] (.int .i64 (f.sm (fun t b => t.count (addW a b)) 0 0)) := by
 intro h
 refine en Tryz.func162 [.tmp 4] rfl rfl fun g0 w0 gen hrel hfr hfr' hres => ?_
 have nA : (⟨gen, 0, 1⟩ : GoAbs.Id) ≠ ⟨gen, 1, 0⟩ := by simp
 have hc := c_eachN (fun t b => t.count (addW a b)) 198 [.ptr ⟨gen, 1, 0⟩ 0, .ptr ⟨gen, 0, 1⟩ 0] rfl ⟨gen, 0, 1⟩ ⟨gen, 1, 0⟩ _ nA (fun x hx b n => c_CountF1 a _ _ nA n x hx b) f hf 0 0
 generalize f.sm (fun t b => t.count (addW a b)) 0 0 = v at *
 clear nA
 repeat' (first
  |exact hin _|exact agf (by assumption)
  | (first|refine wp rfl ?_|(refine Call1_turnE (hc) ?_ ?_ ?_; (focus ((simp only [go_sem, *] <;> (repeat (first|assumption | rfl|refine And.intro ?_ ?_))); done)); (focus ((simp only [go_sem, *] <;> first | rfl|assumption); done)))|refine finF hrel ?_ ?_ ?_)<;>try simp only [go_sem, *])
theorem num0_cells : (numT 0).cells = [.int .i64 4, .int .i64 0, .int .i64 0, .sl .any [], .sl .any []] := by simp [numT, tm0, Tm.mk_cells, Ty.mk_kind, Ty.mk_args]
theorem numS_cells (n : Nat) : (numT (n + 1)).cells = [.int .i64 5, .int .i64 0, .int .i64 0, .sl .any [], .sl .any [(numT n).cells]] := by simp [numT, tm0, Tm.mk_cells, Ty.mk_kind, Ty.mk_args]
theorem c_valnumber (n : Nat) (hn : n ≤ 100000) : Pure Tryz.prog env 190 [.int .i64 n] (.agg (numT n).cells) := by
 intro h
 have e0 := num0_cells
 have eS := numS_cells
 refine en Tryz.func190 [.cell 2 31] rfl rfl fun g0 w0 gen hrel hfr hfr' hres => ?_
 repeat' (first
  | (first|refine wp rfl ?_|refine spt rfl ?_|refine spf rfl ?_|(refine spl (fun hc => ?_) fun hc => ?_) <;> (try rw [beq_iff_eq] at hc) <;> try simp only [hc])<;>try simp only [go_sem, *])
 refine AR_weakBox ⟨gen, 1, 1⟩ (by simp only [go_sem, *] <;> rfl) ?_
 simp only [go_sem, *]
 refine AR_loop_nat (fun i σ => σ.tm 4 = .int .i64 ((n : Int) - i) ∧ σ.tm 2 = .ptr ⟨gen, 0, 0⟩ 0 ∧ σ.tm 3 = .ptr ⟨gen, 1, 1⟩ 0 ∧ i ≤ n ∧
  σ.h ⟨gen, 1, 1⟩ = some (.box (numT i).cells) ∧ σ.h ⟨gen, 0, 0⟩ = some (.box [.int .i64 0, .int .i64 0, .int .i64 0, .sl .full [], .sl .full []]) ∧ Agree h σ.h) n ?_ ?_
 ·rw [e0]
  clear e0 eS
  simp only [go_sem, *]
  exact ⟨by simp, by omega, (by repeat (first|exact Agree.refl _|assumption|refine Agree.new ?_ (hgf0 _ _)|refine Agree.new ?_ (hfr' _ _)))⟩
 intro i σ hi ⟨j4, j2, j3, ji, jb, jb0, jA⟩
 refine AR_gen2 (fun gn hgl hgn => ?_)
 have hgf := fresh_of hgn
 have hgf0 := fun r i => agree_fresh jA (hgf r i)
 clear hgn e0
 rcases Nat.lt_or_ge i n with hlt | hge
 ·have hd : decide ((n : Int) - (i : Int) > 0) = true := by simp; omega
  have hw1 : IntKind.i64.wrap ((n : Int) - (i : Int) - 1) = (n : Int) - (i : Int) - 1 := wrap_eq rfl (by omega) (by omega)
  have e5 : (n : Int) - ((i + 1 : Nat) : Int) = (n : Int) - (i : Int) - 1 := by omega
  have e6 : i + 1 ≤ n := by omega
  rw [eS]
  clear eS hi ji
  generalize numT i = t at *
  repeat' (first
   | (first|refine wp rfl ?_|refine spt rfl ?_|refine spf rfl ?_|(refine spl (fun hc => ?_) fun hc => ?_) <;> (try rw [beq_iff_eq] at hc) <;> try simp only [hc])<;>try simp only [go_sem, *])
  refine AR_weakBox ⟨gen, 1, 1⟩ (by simp only [go_sem, *] <;> rfl) ?_
  refine AR_inv ?_
  simp only [go_sem, *]
  exact (by repeat (first|exact Agree.refl _|assumption|refine Agree.new ?_ (hgf0 _ _)|refine Agree.new ?_ (hfr' _ _)))
 ·have hd : decide ((n : Int) - (i : Int) > 0) = false := by simp; omega
  obtain rfl : i = n := by omega
  clear eS hge hi
  generalize numT i = t at *
  repeat' (first
   |exact hin _|exact agf (by assumption)
   | (first|refine wp rfl ?_|refine spt rfl ?_|refine spf rfl ?_|(refine spl (fun hc => ?_) fun hc => ?_) <;> (try rw [beq_iff_eq] at hc) <;> try simp only [hc]|refine finF hrel ?_ ?_ ?_)<;>try simp only [go_sem, *])
theorem c_valNumber (n : Nat) (hn : n < 4096) : Pure Tryz.prog env 149 [.int .i64 n] (.tup [.agg (numT n).cells, .int .i64 0]) := by
 intro h
 have hc := c_valnumber n (by omega)
 have d1 : decide ((n : Int) < 0) = false := by simp
 have d2 : decide ((n : Int) ≥ 4096) = false := by simp; omega
 clear hn
 generalize numT n = t at *
 refine en Tryz.func149 [.cell 2 31, .tmp 3] rfl rfl fun g0 w0 gen hrel hfr hfr' hres => ?_
 repeat' (first
  |exact hin _|exact agf (by assumption)
  | (first|refine wp rfl ?_|refine spt rfl ?_|refine spf rfl ?_|(refine spl (fun hc => ?_) fun hc => ?_) <;> (try rw [beq_iff_eq] at hc) <;> try simp only [hc]|refine cp hc ?_|refine finF hrel ?_ ?_ ?_)<;>try simp only [go_sem, *])
end Go.Proofs.YtenelbgbjmijiaaGreatDoor
