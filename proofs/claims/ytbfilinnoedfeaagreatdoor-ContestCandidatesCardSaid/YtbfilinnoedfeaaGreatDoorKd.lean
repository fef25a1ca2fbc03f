/-
 Walks: the type of a closed term.
-/
import Derived.Test.YtbfilinnoedfeaaGreatDoorGq
import Derived.Test.YtbfilinnoedfeaaGreatDoorMg
set_option linter.unusedSimpArgs false
set_option linter.unusedVariables false
set_option maxRecDepth 20000
set_option maxHeartbeats 4000000
namespace Go.Proofs.YtbfilinnoedfeaaGreatDoor
open Go GoAbs Go.Proofs
theorem c_TypeOf0 (t:Tm) (s:Ty) (hT:HasTy TyG [] t s) (hG:TmG t) (hz:tmSz t≤4096) (hw:TmW t) :
  Pure Tryz.prog env 12 [.sl .any [],.agg t.cells] (.tup [.agg s.cells,.int .i64 0]):=by
 have h2:Pure Tryz.prog env 41 [.sl .any [],.agg t.cells] (.tup [.agg s.cells,.int .i64 0]):=by
  intro h
  have h1:=c_tmCheck t hw
  rw [hG.err0 hz] at h1
  have h2:=c_infer hT (by simp) hw (by simp;omega)
  have n0:((0:Int) != 0)=false:=rfl
  simp only [List.map_nil] at h2
  clear hT hG hz hw
  refine en Tryz.func41 [.cell 4 29,.tmp 5] rfl rfl fun g0 w0 gen hrel hfr hfr' hres=>?_
  repeat' (first
   | exact hin _|exact agf (by assumption)
   | (first|refine wp rfl ?_|refine spt rfl ?_|refine spf rfl ?_|(refine spl (fun hc=>?_) fun hc=>?_)<;>(try rw [beq_iff_eq] at hc)<;>try simp only [hc]|refine cp (h1) ?_|refine cp (h2) ?_|refine finF hrel ?_ ?_ ?_)<;>try simp only [go_sem, *])
 intro h
 have h1:Pure Tryz.prog env 40 [.sl .any []] (.int .i64 0):=by
  intro h
  have d1:decide (((0:Nat):Int)>16)=false:=rfl
  refine en Tryz.func40 [.tmp 2] rfl rfl fun g0 w0 gen hrel hfr hfr' hres=>?_
  repeat' (first
   | exact hin _|exact agf (by assumption)
   | (first|refine wp rfl ?_|refine spt rfl ?_|refine spf rfl ?_|(refine spl (fun hc=>?_) fun hc=>?_)<;>(try rw [beq_iff_eq] at hc)<;>try simp only [hc]|refine finF hrel ?_ ?_ ?_)<;>try simp only [go_sem, *])
  refine AR_range [9] [] (fun i σ=>Agree h σ.h∧True) (([]:List Ty)).length (by first|omega|(simp only [go_sem, *]<;>omega)) ⟨rfl,rfl,rfl⟩ rfl (by simp only [go_sem, *]) (by simp only [go_sem, *]) ?_ (by intro i σ t v ht hK;simp only [List.mem_cons,List.not_mem_nil,or_false] at ht;rcases ht with rfl|rfl|rfl<;>exact hK) ?_ ?_
  ·simp only [go_sem, *]
   first|exact (by repeat (first|exact Agree.refl _|assumption|refine Agree.new ?_ (hgf0 _ _)|refine Agree.new ?_ (hfr' _ _)))|exact ⟨(by repeat (first|exact Agree.refl _|assumption|refine Agree.new ?_ (hgf0 _ _)|refine Agree.new ?_ (hfr' _ _))),trivial⟩
  ·
   intro i σ gr0 hgl_gr0 hgn hlt jI jN jS ⟨jA,_⟩
   obtain ⟨jT,jB⟩:=jS
   simp only [go_sem] at jT jB
   have hgf:=fresh_of hgn
   have hgf0:∀ r i,h ⟨gr0,r,i⟩=none:=fun r i=>agree_fresh jA (hgf r i)
   have eg_gen_gr0:=gen_lt (show gen<gr0 by omega)
   have eh_gen_gr0:=gen_lt' (show gen<gr0 by omega)
   obtain ⟨x,hx⟩:∃ x,(([]:List Ty))[i]? = some x:=⟨_,List.getElem?_eq_getElem hlt⟩
   have hxm:=List.mem_of_getElem? hx
   have hm:=min_lt hlt
   clear hgn
   simp at hlt
  ·
   intro σ ga0 hgl_ga0 hgn jS ⟨jA,_⟩
   obtain ⟨jT,jB⟩:=jS
   simp only [go_sem] at jT jB
   have hgf:=fresh_of hgn
   have hgf0:∀ r i,h ⟨ga0,r,i⟩=none:=fun r i=>agree_fresh jA (hgf r i)
   have eg_gen_ga0:=gen_lt (show gen<ga0 by omega)
   have eh_gen_ga0:=gen_lt' (show gen<ga0 by omega)
   clear hgn
   repeat' (first
    | exact hin _|exact agf (by assumption)
    | (first|refine wp rfl ?_|refine spt rfl ?_|refine spf rfl ?_|(refine spl (fun hc=>?_) fun hc=>?_)<;>(try rw [beq_iff_eq] at hc)<;>try simp only [hc]|refine finF hrel ?_ ?_ ?_)<;>try simp only [go_sem, *])
 have n0:((0:Int) != 0)=false:=rfl
 clear hT hG hz hw
 refine en Tryz.func12 [.cell 4 29,.tmp 5] rfl rfl fun g0 w0 gen hrel hfr hfr' hres=>?_
 repeat' (first
  | exact hin _|exact agf (by assumption)
  | (first|refine wp rfl ?_|refine spt rfl ?_|refine spf rfl ?_|(refine spl (fun hc=>?_) fun hc=>?_)<;>(try rw [beq_iff_eq] at hc)<;>try simp only [hc]|refine cp (h1) ?_|refine cp (h2) ?_|refine finF hrel ?_ ?_ ?_)<;>try simp only [go_sem, *])
end Go.Proofs.YtbfilinnoedfeaaGreatDoor
