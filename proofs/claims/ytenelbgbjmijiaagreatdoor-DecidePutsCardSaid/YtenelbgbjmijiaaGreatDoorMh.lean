/-
 Walks: several parts in one text.
-/
import Derived.Test.YtenelbgbjmijiaaGreatDoorGb
set_option linter.unusedSimpArgs false
set_option linter.unusedVariables false
set_option maxRecDepth 20000
set_option maxHeartbeats 4000000
namespace Go.Proofs.YtenelbgbjmijiaaGreatDoor
open Go GoAbs Go.Proofs
theorem c_Own1 (t : Tm) (ht : TmW t) (b : Int) : Pure Tryz.prog env 134 [.agg t.cells, .int .i64 b] (.agg t.cells) := by
 intro h
 refine en Tryz.func134 [.cell 4 31] rfl rfl fun g0 w0 gen hrel hfr hfr' hres => ?_
 repeat' (first
  |exact hin _|exact agf (by assumption)
  | (first|refine wp rfl ?_|refine cp (c_Own _ ht) ?_|refine finF hrel ?_ ?_ ?_)<;>try simp only [go_sem, *])
theorem c_RebuildOwn : ∀ f : Fm, FmW f → ∀ b : Int, Pure Tryz.prog env 133 [.agg f.cells, .int .i64 b, .fn (.func 134) [] []] (.agg f.cells) := by
 intro t
 induction t using Fm.ind with | h t ih => ?_
 intro ht b h
 have hlen := ht.len
 have hlen2 := ht.tlen
 have ih' : ∀ x ∈ t.args, ∀ b : Int, Pure Tryz.prog env 133 [.agg x.cells, .int .i64 b, .fn (.func 134) [] []] (.agg x.cells) := fun x hx => ih x hx (ht.arg hx)
 have ht' : ∀ x ∈ t.terms, ∀ b : Int, Pure Tryz.prog env 134 [.agg x.cells, .int .i64 b] (.agg x.cells) := fun x hx b => c_Own1 x (ht.term hx) b
 have hO := c_OwnType t.type ht.ty
 have hQ := c_Quantifier t.kind
 clear ih ht
 refine en Tryz.func133 [.cell 6 29] rfl rfl fun g0 w0 gen hrel hfr hfr' hres => ?_
 repeat' (first
  |(refine ⟨?_,?_⟩; focus ((repeat' (first|refine ⟨?_,?_⟩|refine .inr ?_)); all_goals kernel_rfl))
  |exact hin _|exact agf (by assumption)
  | (first|refine wp rfl ?_|refine spt rfl ?_|refine spf rfl ?_|(refine spl (fun hc => ?_) fun hc => ?_) <;> (try rw [beq_iff_eq] at hc) <;> try simp only [hc]|refine cp hO ?_|refine finF hrel ?_ ?_ ?_)<;>try simp only [go_sem, *])
 refine AR_range [1, 2, 3, 6, 7, 19] [⟨gen, 0, 0⟩, ⟨gen, 0, 1⟩] (fun i σ => Agree h σ.h ∧ ∃ v, σ.h ⟨gen, 1, 6⟩ = some (.box [.int .i64 t.kind, .int .i64 t.type.kind, .sl .any (t.type.args.map Ty.cells), v, .sl .full []]) ∧ OwnS h σ.h v 5 ((t.terms.take i).map Tm.cells)) (t.terms).length (by first | omega | (simp only [go_sem, *] <;> omega)) ⟨rfl, rfl, rfl⟩ rfl (by simp only [go_sem, *]) (by simp only [go_sem, *]) ?_ (by intro i σ t v ht hK; simp only [List.mem_cons, List.not_mem_nil, or_false] at ht; rcases ht with rfl | rfl | rfl <;> exact hK) ?_ ?_
 ·simp only [go_sem, *]
  exact ⟨(by repeat (first|exact Agree.refl _|assumption|refine Agree.new ?_ (hgf0 _ _)|refine Agree.new ?_ (hfr' _ _))), _, rfl, .inl rfl⟩
 ·clear ih'
  intro i σ gr0 hgl_gr0 hgn hlt jI jN jS ⟨jA, v, jb, jO0⟩
  obtain ⟨jT, jB⟩ := jS
  simp only [go_sem] at jT jB
  have hgf := fresh_of hgn
  have hgf0 := fun r i => agree_fresh jA (hgf r i)
  have eg_gen_gr0 := gen_lt (show gen < gr0 by omega)
  have eh_gen_gr0 := gen_lt' (show gen < gr0 by omega)
  obtain ⟨x, hx⟩ : ∃ x, (t.terms)[i]? = some x := ⟨_, List.getElem?_eq_getElem hlt⟩
  have hxm := List.mem_of_getElem? hx
  have hm := min_lt hlt
  clear hgn
  have hc := ht' x hxm b
  have hts : (t.terms.take (i + 1)).map Tm.cells = (t.terms.take i).map Tm.cells ++ [x.cells] := by rw [map_take_succ hx]
  clear ht'
  repeat' (first
   |(refine ⟨?_,?_⟩; focus ((repeat' (first|refine ⟨?_,?_⟩|refine .inr ?_)); all_goals kernel_rfl))
   |(refine okE_app_ownd jO0 (by repeat (first|exact Keeps.refl _|refine Keeps.new ?_ (hgf _ _)|refine Keeps.new ?_ (hfr' _ _)|refine Keeps.box ?_ rfl|refine Keeps.box ?_ (by simp only [go_sem, *]))) rfl (by simp only [go_sem, *] <;> omega) (by first|exact hgf0 _ _|exact hfr' _ _) (by simp only [go_sem, *]) (by intro hd e; simp only [logOk_cons, logOk_nil, and_true]; repeat (first|exact trivial|refine ⟨.inr (by kernel_rfl), ?_⟩|exact .inr (by kernel_rfl))) ?_; intro v' h' id' jO jK jAg jAb jF; obtain ⟨cO, rfl⟩ := jO.val; simp only [go_sem, *])
   | (first|refine wp rfl ?_|refine spt rfl ?_|refine spf rfl ?_|(refine spl (fun hc => ?_) fun hc => ?_) <;> (try rw [beq_iff_eq] at hc) <;> try simp only [hc]|refine cp hc ?_|refine AR_inv ?_)<;>try simp only [go_sem, *])
  refine ⟨?_, _, rfl, jO.keep (Keeps.box (Keeps.refl _) (by simp only [go_sem, *]))⟩
  exact Agree.new (jAg (by repeat (first|exact Agree.refl _|assumption|refine Agree.new ?_ (hgf0 _ _)|refine Agree.new ?_ (hfr' _ _)))) (hfr' _ _)
 clear ht'
 intro σ ga0 hgl_ga0 hgn jS ⟨jA, v1, jb, jO1⟩
 obtain ⟨jT, jB⟩ := jS
 simp only [go_sem] at jT jB
 have hgf := fresh_of hgn
 have hgf0 := fun r i => agree_fresh jA (hgf r i)
 have eg_gen_ga0 := gen_lt (show gen < ga0 by omega)
 have eh_gen_ga0 := gen_lt' (show gen < ga0 by omega)
 clear hgn
 rw [List.take_length] at jO1
 obtain ⟨c1, rfl⟩ := jO1.val
 clear jO1
 cases hq : (decide (t.kind ≥ 4) && decide (t.kind ≤ 7))
 all_goals
  rw [hq] at hQ
  clear hq
  repeat' (first
   |(refine ⟨?_,?_⟩; focus ((repeat' (first|refine ⟨?_,?_⟩|refine .inr ?_)); all_goals kernel_rfl))
   |exact hin _|exact agf (by assumption)
   | (first|refine wp rfl ?_|refine spt rfl ?_|refine spf rfl ?_|(refine spl (fun hc => ?_) fun hc => ?_) <;> (try rw [beq_iff_eq] at hc) <;> try simp only [hc]|refine cp hQ ?_|refine finF hrel ?_ ?_ ?_)<;>try simp only [go_sem, *])
  refine AR_range [1, 2, 6, 7, 41] [⟨gen, 0, 1⟩] (fun i σ => Agree h σ.h ∧ ∃ v, σ.h ⟨gen, 1, 6⟩ = some (.box [.int .i64 t.kind, .int .i64 t.type.kind, .sl .any (t.type.args.map Ty.cells), .sl c1 (t.terms.map Tm.cells), v]) ∧ OwnS h σ.h v 5 ((t.args.take i).map Fm.cells)) (t.args).length (by first | omega | (simp only [go_sem, *] <;> omega)) ⟨rfl, rfl, rfl⟩ rfl (by simp only [go_sem, *]) (by simp only [go_sem, *]) ?_ (by intro i σ t v ht hK; simp only [List.mem_cons, List.not_mem_nil, or_false] at ht; rcases ht with rfl | rfl | rfl <;> exact hK) ?_ ?_
  ·simp only [go_sem, *]
   first|exact ⟨_, rfl, .inl rfl⟩|exact ⟨(by repeat (first|exact Agree.refl _|assumption|refine Agree.new ?_ (hgf0 _ _)|refine Agree.new ?_ (hfr' _ _))), _, rfl, .inl rfl⟩
  ·
   intro i σ gr1 hgl_gr1 hgn hlt jI jN jS ⟨jA, v, jb', jO0⟩
   obtain ⟨jT, jB⟩ := jS
   simp only [go_sem] at jT jB
   have hgf := fresh_of hgn
   have hgf0 := fun r i => agree_fresh jA (hgf r i)
   have eg_gen_gr1 := gen_lt (show gen < gr1 by omega)
   have eh_gen_gr1 := gen_lt' (show gen < gr1 by omega)
   have eg_ga0_gr1 := gen_lt (show ga0 < gr1 by omega)
   have eh_ga0_gr1 := gen_lt' (show ga0 < gr1 by omega)
   obtain ⟨x, hx⟩ : ∃ x, (t.args)[i]? = some x := ⟨_, List.getElem?_eq_getElem hlt⟩
   have hxm := List.mem_of_getElem? hx
   have hm := min_lt hlt
   clear hgn
   have hc := fun b => ih' x hxm b
   have hts : (t.args.take (i + 1)).map Fm.cells = (t.args.take i).map Fm.cells ++ [x.cells] := by rw [map_take_succ hx]
   clear ih'
   repeat' (first
    |(refine ⟨?_,?_⟩; focus ((repeat' (first|refine ⟨?_,?_⟩|refine .inr ?_)); all_goals kernel_rfl))
    |(refine okE_app_ownd jO0 (by repeat (first|exact Keeps.refl _|refine Keeps.new ?_ (hgf _ _)|refine Keeps.new ?_ (hfr' _ _)|refine Keeps.box ?_ rfl|refine Keeps.box ?_ (by simp only [go_sem, *]))) rfl (by simp only [go_sem, *] <;> omega) (by first|exact hgf0 _ _|exact hfr' _ _) (by simp only [go_sem, *]) (by intro hd e; simp only [logOk_cons, logOk_nil, and_true]; repeat (first|exact trivial|refine ⟨.inr (by kernel_rfl), ?_⟩|exact .inr (by kernel_rfl))) ?_; intro v' h' id' jO jK jAg jAb jF; obtain ⟨cO, rfl⟩ := jO.val; simp only [go_sem, *])
    | (first|refine wp rfl ?_|refine spt rfl ?_|refine spf rfl ?_|(refine spl (fun hc => ?_) fun hc => ?_) <;> (try rw [beq_iff_eq] at hc) <;> try simp only [hc]|refine cp (hc _) ?_|refine AR_inv ?_)<;>try simp only [go_sem, *])
   refine ⟨?_, _, rfl, jO.keep (Keeps.box (Keeps.refl _) (by simp only [go_sem, *]))⟩
   exact Agree.new (jAg (by repeat (first|exact Agree.refl _|assumption|refine Agree.new ?_ (hgf0 _ _)|refine Agree.new ?_ (hfr' _ _)))) (hfr' _ _)
  ·
   intro σ ga1 hgl_ga1 hgn jS ⟨jA, v, jb', jO0⟩
   obtain ⟨jT, jB⟩ := jS
   simp only [go_sem] at jT jB
   have hgf := fresh_of hgn
   have hgf0 := fun r i => agree_fresh jA (hgf r i)
   have eg_gen_ga1 := gen_lt (show gen < ga1 by omega)
   have eh_gen_ga1 := gen_lt' (show gen < ga1 by omega)
   have eg_ga0_ga1 := gen_lt (show ga0 < ga1 by omega)
   have eh_ga0_ga1 := gen_lt' (show ga0 < ga1 by omega)
   clear hgn
   rw [List.take_length] at jO0
   obtain ⟨c, rfl⟩ := jO0.val
   clear ih'
   repeat' (first
    |(refine ⟨?_,?_⟩; focus ((repeat' (first|refine ⟨?_,?_⟩|refine .inr ?_)); all_goals kernel_rfl))
    |exact hin _|exact agf (by assumption)
    | (first|refine wp rfl ?_|refine spt rfl ?_|refine spf rfl ?_|(refine spl (fun hc => ?_) fun hc => ?_) <;> (try rw [beq_iff_eq] at hc) <;> try simp only [hc]|refine finF hrel ?_ ?_ ?_)<;>try simp only [go_sem, *])
   rw [Fm.cells_eq]
theorem c_OwnFormula (f : Fm) (hf : FmW f) : Pure Tryz.prog env 77 [.agg f.cells] (.agg f.cells) := by
 intro h
 refine en Tryz.func77 [.cell 2 29] rfl rfl fun g0 w0 gen hrel hfr hfr' hres => ?_
 repeat' (first
  |exact hin _|exact agf (by assumption)
  | (first|refine wp rfl ?_|refine cp (c_RebuildOwn f hf 0) ?_|refine finF hrel ?_ ?_ ?_)<;>try simp only [go_sem, *])
theorem c_each1 {α : Type} (enc : α → V) (F : Int → Int → α → α) (kd : Nat) (cap : List V) (hcap : weakL cap = cap) (henc : ∀ s (S : GoAbs.Id → Prop), InV S (enc s))
  (D E A d : GoAbs.Id) (oA : GoAbs.Obj) (nD : D ≠ d) (nE : E ≠ d) (nA : A ≠ d)
  (hdo : ∀ i b s, TurnsE Tryz.prog env kd (.int .i64 i :: .int .i64 b :: cap) [(A, oA)] d (.box [enc s]) (.tup []) (.box [enc (F i b s)])) :
  ∀ t : Tm, TmW t → ∀ (b : Int) (s : α), TurnsE Tryz.prog env 203 [.agg t.cells, .int .i64 b, .ptr D 0, .ptr E 0]
   [(D, .box [.fn (.func kd) [] cap]), (E, .box [.fn (.func 203) [] [.ptr D 0, .ptr E 0]]), (A, oA)] d (.box [enc s]) (.tup []) (.box [enc (t.eachF F b s)]) := by
 intro t
 induction t using Tm.ind with | h t ih => ?_
 intro ht b s h he hd
 simp only [List.mem_cons, List.not_mem_nil, or_false, forall_eq_or_imp, forall_eq] at he
 obtain ⟨hD, hE, hA⟩ := he
 have hlen := ht.len
 have ih' : ∀ x ∈ t.args, ∀ (b : Int) (s : α), TurnsE Tryz.prog env 203 [.agg x.cells, .int .i64 b, .ptr D 0, .ptr E 0]
   [(D, .box [.fn (.func kd) [] cap]), (E, .box [.fn (.func 203) [] [.ptr D 0, .ptr E 0]]), (A, oA)] d (.box [enc s]) (.tup []) (.box [enc (x.eachF F b s)]) := fun x hx => ih x hx (ht.arg hx)
 clear ih ht
 have n1 : (D = d) = False := by simpa using nD
 have n2 : (E = d) = False := by simpa using nE
 have n3 : (A = d) = False := by simpa using nA
 clear nD nE nA
 have hw : IntKind.i64.wrap (b + 1) = addW b 1 := rfl
 have hv0 := (Tm.eachF_eq F t b s).symm
 generalize t.eachF F b s = v at hv0 ⊢
 cases k1 : (t.kind == 1)
 all_goals
  rw [k1] at hv0
  generalize hb1 : (if (t.kind == 2) = true then addW b 1 else b) = b1 at hv0
  cases k2 : (t.kind == 2)
  all_goals
   rw [k2] at hb1
   simp only [if_true, Bool.false_eq_true, if_false] at hb1 hv0
   first | (obtain rfl : b1 = b := hb1.symm) | skip
   refine en Tryz.func203 [] rfl rfl fun g0 w0 gen hrel hfr hfr' hres => ?_
   have f1 := fresh_ne hfr hd
   have f2 := fresh_ne' hfr hd
   have f3 := fresh_ne hfr hD
   have f4 := fresh_ne hfr hE
   have f5 := fresh_ne hfr hA
   repeat' (first
    | (first|refine wp rfl ?_|refine spt rfl ?_|refine spf rfl ?_|(refine spl (fun hc => ?_) fun hc => ?_) <;> (try rw [beq_iff_eq] at hc) <;> try simp only [hc]|(refine Call1_turnE (hdo _ _ s) ?_ ?_ ?_; (focus ((simp only [go_sem, *] <;> (repeat (first|assumption | rfl|refine And.intro ?_ ?_))); done)); (focus ((simp only [go_sem, *] <;> first | rfl|assumption); done))))<;>try simp only [go_sem, *])
   refine AR_range [1, 3, 22] [] (fun i σ => AgreeBut d h σ.h ∧ ∃ s', σ.h d = some (.box [enc s']) ∧ Tm.eachL F (t.args.drop i) b1 s' = v) (t.args).length (by first | omega | (simp only [go_sem, *] <;> omega)) ⟨rfl, rfl, rfl⟩ rfl (by simp only [go_sem, *]) (by simp only [go_sem, *]) ?_ (by intro i σ t v ht hK; simp only [List.mem_cons, List.not_mem_nil, or_false] at ht; rcases ht with rfl | rfl | rfl <;> exact hK) ?_ ?_
   ·simp only [go_sem, *]
    exact ⟨by repeat (first|exact AgreeBut.refl _ _|assumption|refine AgreeBut.new ?_ (hfr' _ _)|refine AgreeBut.set ?_), _, rfl, hv0⟩
   ·clear hv0
    intro i σ gr0 hgl_gr0 hgn hlt jI jN jS ⟨jA, s', js, jv⟩
    obtain ⟨jT, jB⟩ := jS
    simp only [go_sem] at jT jB
    have hgf := fresh_of hgn
    have hgf0 := agreeBut_fresh' hd jA hgf (fun r i e => by have := hfr d (by rw [hd]; simp); rw [e] at this; simp at this; omega)
    have fd_gr0 := fresh_ne2 hfr hd (show gen < gr0 by omega)
    have fe_gr0 := fresh_ne2' hfr hd (show gen < gr0 by omega)
    have eg_gen_gr0 := gen_lt (show gen < gr0 by omega)
    have eh_gen_gr0 := gen_lt' (show gen < gr0 by omega)
    obtain ⟨x, hx⟩ : ∃ x, (t.args)[i]? = some x := ⟨_, List.getElem?_eq_getElem hlt⟩
    have hxm := List.mem_of_getElem? hx
    have hm := min_lt hlt
    clear hgn
    rw [drop_get hx, Tm.eachL_cons] at jv
    have hc := fun b s => ih' x hxm b s
    have hD' := (jA D (by simpa using n1) (by rw [hD]; simp)).trans hD
    have hE' := (jA E (by simpa using n2) (by rw [hE]; simp)).trans hE
    have hA' := (jA A (by simpa using n3) (by rw [hA]; simp)).trans hA
    have g3 := fresh_ne2 hfr hD hgl_gr0
    have g4 := fresh_ne2 hfr hE hgl_gr0
    have g5 := fresh_ne2 hfr hA hgl_gr0
    clear ih' hD hE hA
    repeat' (first
     | (first|refine wp rfl ?_|refine spt rfl ?_|refine spf rfl ?_|(refine spl (fun hc => ?_) fun hc => ?_) <;> (try rw [beq_iff_eq] at hc) <;> try simp only [hc]|(refine Call1_turnE (hc _ s') ?_ ?_ ?_; (focus ((simp only [go_sem, *] <;> (repeat (first|assumption | rfl|refine And.intro ?_ ?_))); done)); (focus ((simp only [go_sem, *] <;> first | rfl|assumption); done)))|refine AR_inv ?_)<;>try simp only [go_sem, *])
    exact ⟨by repeat (first|assumption|refine AgreeBut.new ?_ (hgf0 _ _)|refine AgreeBut.set ?_), _, rfl, jv⟩
   ·clear hv0
    intro σ ga0 hgl_ga0 hgn jS ⟨jA, s', js, jv⟩
    obtain ⟨jT, jB⟩ := jS
    simp only [go_sem] at jT jB
    have hgf := fresh_of hgn
    have hgf0 := agreeBut_fresh' hd jA hgf (fun r i e => by have := hfr d (by rw [hd]; simp); rw [e] at this; simp at this; omega)
    have fd_ga0 := fresh_ne2 hfr hd (show gen < ga0 by omega)
    have fe_ga0 := fresh_ne2' hfr hd (show gen < ga0 by omega)
    have eg_gen_ga0 := gen_lt (show gen < ga0 by omega)
    have eh_gen_ga0 := gen_lt' (show gen < ga0 by omega)
    clear hgn
    rw [List.drop_length, Tm.eachL_nil] at jv
    subst jv
    clear ih'
    repeat' (first
     | (first|refine wp rfl ?_|refine spt rfl ?_|refine spf rfl ?_|(refine spl (fun hc => ?_) fun hc => ?_) <;> (try rw [beq_iff_eq] at hc) <;> try simp only [hc])<;>try simp only [go_sem, *])
    refine AR_fin_turn hrel hd (by simp only [go_sem, and_self]) (by simp only [InL, henc, and_self]) jA js ?_
    simp only [go_sem, *]
theorem c_Each {α : Type} (enc : α → V) (F : Int → Int → α → α) (kd : Nat) (cap : List V) (hcap : weakL cap = cap) (henc : ∀ s (S : GoAbs.Id → Prop), InV S (enc s))
  (A d : GoAbs.Id) (oA : GoAbs.Obj) (nA : A ≠ d)
  (hdo : ∀ i b s, TurnsE Tryz.prog env kd (.int .i64 i :: .int .i64 b :: cap) [(A, oA)] d (.box [enc s]) (.tup []) (.box [enc (F i b s)]))
  (t : Tm) (ht : TmW t) (s : α) : TurnsE Tryz.prog env 173 [.agg t.cells, .fn (.func kd) [] cap] [(A, oA)] d (.box [enc s]) (.tup []) (.box [enc (t.eachF F 0 s)]) := by
 intro h he hd
 simp only [List.mem_cons, List.not_mem_nil, or_false, forall_eq] at he
 refine en Tryz.func173 [] rfl rfl fun g0 w0 gen hrel hfr hfr' hres => ?_
 have f1 := fresh_ne hfr hd
 have f2 := fresh_ne' hfr hd
 have f5 := fresh_ne hfr he
 have hc := c_each1 enc F kd cap hcap henc ⟨gen, 0, 1⟩ ⟨gen, 1, 0⟩ A d oA (by simpa using f2 0 1) (by simpa using f2 1 0) nA hdo t ht 0 s
 have n3 : (A = d) = False := by simpa using nA
 clear hdo nA
 generalize t.eachF F 0 s = v at hc ⊢
 repeat' (first
  | (first|refine wp rfl ?_|(refine Call1_turnE (hc) ?_ ?_ ?_; (focus ((simp only [go_sem, *] <;> (repeat (first|assumption | rfl|refine And.intro ?_ ?_))); done)); (focus ((simp only [go_sem, *] <;> first | rfl|assumption); done))))<;>try simp only [go_sem, *])
 refine AR_fin_turn hrel hd (by simp only [go_sem, and_self]) (by simp only [InL, henc, and_self]) ?_ (by simp only [go_sem, *]) ?_
 ·repeat (first|exact AgreeBut.refl _ _|assumption|refine AgreeBut.new ?_ (hfr' _ _)|refine AgreeBut.set ?_)
 ·simp only [go_sem, *]
theorem c_Count1 (a : Int) (A d : GoAbs.Id) (nA : A ≠ d) (i b n : Int) :
  TurnsE Tryz.prog env 174 (.int .i64 i :: .int .i64 b :: [.ptr A 0, .ptr d 0]) [(A, .box [.int .i64 a])] d (.box [.int .i64 n]) (.tup []) (.box [.int .i64 (countF a i b n)]) := by
 intro h he hd
 simp only [List.mem_cons, List.not_mem_nil, or_false, forall_eq] at he
 have n3 : (A = d) = False := by simpa using nA
 have hw : IntKind.i64.wrap (i - b) = subW i b := rfl
 have hw1 : IntKind.i64.wrap (n + 1) = addW n 1 := rfl
 unfold countF
 generalize subW i b = q at *
 generalize addW n 1 = m at *
 clear nA
 cases hq : (q == a)
 all_goals
  simp only [if_true, Bool.false_eq_true, if_false]
  refine en Tryz.func174 [] rfl rfl fun g0 w0 gen hrel hfr hfr' hres => ?_
  have f1 := fresh_ne hfr hd
  have f2 := fresh_ne' hfr hd
  repeat' (first
   |exact agb (by assumption)
   | (first|refine wp rfl ?_|refine spt rfl ?_|refine spf rfl ?_|(refine spl (fun hc => ?_) fun hc => ?_) <;> (try rw [beq_iff_eq] at hc) <;> try simp only [hc]|refine finT hrel hd ?_ ?_ ?_ ?_ ?_)<;>try simp only [go_sem, *])
theorem c_tCount (t : Tm) (ht : TmW t) (a : Int) : Pure Tryz.prog env 128 [.agg t.cells, .int .i64 a] (.int .i64 (t.count a)) := by
 intro h
 unfold Tm.count
 refine en Tryz.func128 [.tmp 4] rfl rfl fun g0 w0 gen hrel hfr hfr' hres => ?_
 have nA : (⟨gen, 0, 1⟩ : GoAbs.Id) ≠ ⟨gen, 1, 0⟩ := by simp
 have hc := c_Each (fun n : Int => V.int .i64 n) (countF a) 174 [.ptr ⟨gen, 0, 1⟩ 0, .ptr ⟨gen, 1, 0⟩ 0] rfl (fun _ _ => by simp [InV]) ⟨gen, 0, 1⟩ ⟨gen, 1, 0⟩ (.box [.int .i64 a]) nA
  (fun i b n => c_Count1 a _ _ nA i b n) t ht 0
 clear nA
 generalize t.eachF (countF a) 0 0 = v at hc ⊢
 repeat' (first
  |exact hin _|exact agf (by assumption)
  | (first|refine wp rfl ?_|(refine Call1_turnE (hc) ?_ ?_ ?_; (focus ((simp only [go_sem, *] <;> (repeat (first|assumption | rfl|refine And.intro ?_ ?_))); done)); (focus ((simp only [go_sem, *] <;> first | rfl|assumption); done)))|refine finF hrel ?_ ?_ ?_)<;>try simp only [go_sem, *])
end Go.Proofs.YtenelbgbjmijiaaGreatDoor
