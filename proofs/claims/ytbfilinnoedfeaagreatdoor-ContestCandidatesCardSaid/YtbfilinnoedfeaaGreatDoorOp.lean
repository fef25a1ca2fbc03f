/-
 Walks: the terms of plain values (reference).
-/
import Derived.Test.YtbfilinnoedfeaaGreatDoorMc
import Derived.Test.YtbfilinnoedfeaaGreatDoorAbsDc
set_option linter.unusedSimpArgs false
set_option linter.unusedVariables false
set_option maxRecDepth 20000
set_option maxHeartbeats 4000000
namespace Go.Proofs.YtbfilinnoedfeaaGreatDoor
open Go GoAbs Go.Proofs
theorem c_vNodes:∀ v:PVl,VlW v→Pure Tryz.prog env 44 [.agg v.cells] (.int .i64 v.nd):=by
 intro t
 induction t using PVl.ind with|h t ih=>?_
 intro ht h
 have hlen:=ht.len
 have ih':∀ x∈t.args,Pure Tryz.prog env 44 [.agg x.cells] (.int .i64 x.nd):=fun x hx=>ih x hx (ht.arg x hx)
 clear ih
 have hv0:=t.nd_eq.symm
 generalize hvv:t.nd=v at hv0 ⊢
 clear hvv
 refine en Tryz.func44 [.tmp 2] rfl rfl fun g0 w0 gen hrel hfr hfr' hres=>?_
 repeat' (first
  | exact hin _|exact agf (by assumption)
  | (first|refine wp rfl ?_|refine spt rfl ?_|refine spf rfl ?_|(refine spl (fun hc=>?_) fun hc=>?_)<;>(try rw [beq_iff_eq] at hc)<;>try simp only [hc]|refine finF hrel ?_ ?_ ?_)<;>try simp only [go_sem, *])
 refine AR_range [2,7] [] (fun i σ=>Agree h σ.h∧∃ n,σ.tm 3=.int .i64 n∧PVl.ndL n (t.args.drop i)=v) (t.args).length (by first|omega|(simp only [go_sem, *]<;>omega)) ⟨rfl,rfl,rfl⟩ rfl (by simp only [go_sem, *]) (by simp only [go_sem, *]) ?_ (by intro i σ t v ht hK;simp only [List.mem_cons,List.not_mem_nil,or_false] at ht;rcases ht with rfl|rfl|rfl<;>exact hK) ?_ ?_
 ·simp only [go_sem, *]
  exact ⟨(by repeat (first|exact Agree.refl _|assumption|refine Agree.new ?_ (hgf0 _ _)|refine Agree.new ?_ (hfr' _ _))),_,rfl,hv0⟩
 ·clear hv0
  intro i σ gr0 hgl_gr0 hgn hlt jI jN jS ⟨jA,n,jn,jv⟩
  obtain ⟨jT,jB⟩:=jS
  simp only [go_sem] at jT jB
  have hgf:=fresh_of hgn
  have hgf0:∀ r i,h ⟨gr0,r,i⟩=none:=fun r i=>agree_fresh jA (hgf r i)
  have eg_gen_gr0:=gen_lt (show gen<gr0 by omega)
  have eh_gen_gr0:=gen_lt' (show gen<gr0 by omega)
  obtain ⟨x,hx⟩:∃ x,(t.args)[i]? = some x:=⟨_,List.getElem?_eq_getElem hlt⟩
  have hxm:=List.mem_of_getElem? hx
  have hm:=min_lt hlt
  clear hgn
  rw [drop_get hx,PVl.ndL_cons] at jv
  have hc:=ih' x hxm
  clear ih'
  repeat' (first
   | exact hin _|exact agf (by assumption)
   | (first|refine wp rfl ?_|refine spt rfl ?_|refine spf rfl ?_|(refine spl (fun hc=>?_) fun hc=>?_)<;>(try rw [beq_iff_eq] at hc)<;>try simp only [hc]|refine AR_inv ?_|refine cp (hc) ?_|refine finF hrel ?_ ?_ ?_)<;>try simp only [go_sem, *])
  exact ⟨(by repeat (first|exact Agree.refl _|assumption|refine Agree.new ?_ (hgf0 _ _)|refine Agree.new ?_ (hfr' _ _))),_,rfl,jv⟩
 ·clear hv0
  intro σ ga0 hgl_ga0 hgn jS ⟨jA,n,jn,jv⟩
  obtain ⟨jT,jB⟩:=jS
  simp only [go_sem] at jT jB
  have hgf:=fresh_of hgn
  have hgf0:∀ r i,h ⟨ga0,r,i⟩=none:=fun r i=>agree_fresh jA (hgf r i)
  have eg_gen_ga0:=gen_lt (show gen<ga0 by omega)
  have eh_gen_ga0:=gen_lt' (show gen<ga0 by omega)
  clear hgn
  rw [List.drop_length,PVl.ndL_nil] at jv
  subst jv
  clear ih'
  repeat' (first
   | exact hin _|exact agf (by assumption)
   | (first|refine wp rfl ?_|refine spt rfl ?_|refine spf rfl ?_|(refine spl (fun hc=>?_) fun hc=>?_)<;>(try rw [beq_iff_eq] at hc)<;>try simp only [hc]|refine finF hrel ?_ ?_ ?_)<;>try simp only [go_sem, *])
end Go.Proofs.YtbfilinnoedfeaaGreatDoor
