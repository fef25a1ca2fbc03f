/-
 Walks: the terms of plain values (reference).
-/
import Derived.Test.YtbfilinnoedfeaaGreatDoorMc
import Derived.Test.YtbfilinnoedfeaaGreatDoorAbsDc
set_option linter.unusedSimpArgs false
set_option linter.unusedVariables false
set_option maxRecDepth 20000
set_option maxHeartbeats 4000000
namespace Go.Proofs.YtbfilinnoedfeaaGreatDoor
open Go GoAbs Go.Proofs
theorem c_vNodes:∀ v:PVl,VlW v→Pure Tryz.prog env 44 [.agg v.cells] (.int .i64 v.nd):=by
 intro t
 induction t using PVl.ind with|h t ih=>?_
 intro ht h
 have hlen:=ht.len
 have ih':∀ x∈t.args,Pure Tryz.prog env 44 [.agg x.cells] (.int .i64 x.nd):=fun x hx=>ih x hx (ht.arg x hx)
 clear ih
 have hv0:=t.nd_eq.symm
 generalize hvv:t.nd=v at hv0 ⊢
 clear hvv
 refine en_ Tryz.func44 [.tmp 2] fun g0 w0 gen hrel hfr hfr' hres=>?_
 refine wq_ ?_
 refine ar_ [2,7] [] (fun i σ=>Agree h σ.h∧∃ n,σ.tm 3=.int .i64 n∧PVl.ndL n (t.args.drop i)=v) (t.args).length ?_ ?_ ?_
 ·simp only [go_sem, *]
  exact ⟨ag_,_,rfl,hv0⟩
 ·clear hv0
  intro i σ gr0 hgl_gr0 hgn hlt jI jN jS ⟨jA,n,jn,jv⟩
  obtain ⟨jT,jB⟩:=jS
  simp only [go_sem] at jT jB
  obtain ⟨hgf,hgf0,eg_gen_gr0,eh_gen_gr0⟩:=rnd hgn hgl_gr0 jA
  obtain ⟨x,hx,hxm,hm⟩:=rnx hlt
  clear hgn
  rw [drop_get hx,PVl.ndL_cons] at jv
  have hc:=ih' x hxm
  clear ih'
  refine wq_ ?_
  exact ⟨ag_,_,rfl,jv⟩
 ·clear hv0
  intro σ ga0 hgl_ga0 hgn jS ⟨jA,n,jn,jv⟩
  obtain ⟨jT,jB⟩:=jS
  simp only [go_sem] at jT jB
  obtain ⟨hgf,hgf0,eg_gen_ga0,eh_gen_ga0⟩:=rnd hgn hgl_ga0 jA
  clear hgn
  rw [List.drop_length,PVl.ndL_nil] at jv
  subst jv
  clear ih'
  exact wk_
theorem ints_at {l:List Nat} {i:Nat} {x:Nat} (h:l[i]? = some x):(ints (l.map fun (n:Nat)=>(n:Int)))[i]? = some [.int .i64 (x:Int)]:=by
 rw [ints_get,List.getElem?_map,h];rfl
theorem ints_nat_len (l:List Nat):(ints (l.map fun (n:Nat)=>(n:Int))).length=l.length:=by rw [ints_len,List.length_map]
theorem c_vShape {a:Ty} {v:PVl} {t:Tm} (hv:IsVl a v t):tmSz t≤4096→Pure Tryz.prog env 133 [.agg v.cells] (.bool true):=by
 induction hv with
 | num n =>
  intro hz h
  have d1:decide ((n:Int)≥0)=true:=by simp
  clear hz
  rw [PVl.mk_cells]
  have dt:decide True=true:=rfl
  have z0:(((0:Nat):Int)==0)=true:=rfl
  have z2:(((2:Nat):Int)==2)=true:=rfl
  refine en_ Tryz.func133 [.tmp 2] fun g0 w0 gen hrel hfr hfr' hres=>?_
  repeat' (first
   |exact hin _|exact agf (by assumption)
   | (first|refine wp rfl ?_|refine spt rfl ?_|refine spf rfl ?_|(refine spl (fun hc=>?_) fun hc=>?_)<;>(try rw [beq_iff_eq] at hc)<;>try simp only [hc]|(refine gs (fun hb=>?_) fun hb=>?_)<;>try simp only [Bool.not_true,Bool.not_false] at hb|refine finF hrel ?_ ?_ ?_)<;>try simp only [go_sem, *])
 | list l =>
  intro hz h
  rw [listT_sz] at hz
  obtain ⟨_,hlen⟩:=IsVl.mem hz
  have hln:=ints_nat_len l
  have hget:=fun i x=>ints_at (l:=l) (i:=i) (x:=x)
  clear hz
  rw [PVl.mk_cells]
  generalize ints (l.map fun (n:Nat)=>(n:Int))=L at *
  have dt:decide True=true:=rfl
  have z0:(((0:Nat):Int)==0)=true:=rfl
  have z2:(((2:Nat):Int)==2)=true:=rfl
  refine en_ Tryz.func133 [.tmp 2] fun g0 w0 gen hrel hfr hfr' hres=>?_
  repeat' (first
   |exact hin _|exact agf (by assumption)
   | (first|refine wp rfl ?_|refine spt rfl ?_|refine spf rfl ?_|(refine spl (fun hc=>?_) fun hc=>?_)<;>(try rw [beq_iff_eq] at hc)<;>try simp only [hc]|(refine gs (fun hb=>?_) fun hb=>?_)<;>try simp only [Bool.not_true,Bool.not_false] at hb|refine finF hrel ?_ ?_ ?_)<;>try simp only [go_sem, *])
  refine ar_ [1,6,27] [⟨gen,0,0⟩] (fun i σ=>Agree h σ.h∧True) (l).length ?_ ?_ ?_
  ·simp only [go_sem, *]
   exact ag_
  ·
   intro i σ gr0 hgl_gr0 hgn hlt jI jN jS ⟨jA,_⟩
   obtain ⟨jT,jB⟩:=jS
   simp only [go_sem] at jT jB
   obtain ⟨hgf,hgf0,eg_gen_gr0,eh_gen_gr0⟩:=rnd hgn hgl_gr0 jA
   obtain ⟨x,hx,hxm,hm⟩:=rnx hlt
   clear hgn
   have hg:=hget i x hx
   have d1:decide ((x:Int)<0)=false:=by simp
   clear hget
   repeat' (first
    |exact hin _|exact agf (by assumption)
    | (first|refine wp rfl ?_|refine spt rfl ?_|refine spf rfl ?_|(refine spl (fun hc=>?_) fun hc=>?_)<;>(try rw [beq_iff_eq] at hc)<;>try simp only [hc]|(refine gs (fun hb=>?_) fun hb=>?_)<;>try simp only [Bool.not_true,Bool.not_false] at hb|refine AR_inv ?_|refine finF hrel ?_ ?_ ?_)<;>try simp only [go_sem, *])
  ·
   intro σ ga0 hgl_ga0 hgn jS ⟨jA,_⟩
   obtain ⟨jT,jB⟩:=jS
   simp only [go_sem] at jT jB
   obtain ⟨hgf,hgf0,eg_gen_ga0,eh_gen_ga0⟩:=rnd hgn hgl_ga0 jA
   clear hgn
   clear hget
   repeat' (first
    |exact hin _|exact agf (by assumption)
    | (first|refine wp rfl ?_|refine spt rfl ?_|refine spf rfl ?_|(refine spl (fun hc=>?_) fun hc=>?_)<;>(try rw [beq_iff_eq] at hc)<;>try simp only [hc]|(refine gs (fun hb=>?_) fun hb=>?_)<;>try simp only [Bool.not_true,Bool.not_false] at hb|refine finF hrel ?_ ?_ ?_)<;>try simp only [go_sem, *])
 | unit =>
  intro hz h
  clear hz
  rw [PVl.mk_cells]
  have dt:decide True=true:=rfl
  have z0:(((0:Nat):Int)==0)=true:=rfl
  have z2:(((2:Nat):Int)==2)=true:=rfl
  refine en_ Tryz.func133 [.tmp 2] fun g0 w0 gen hrel hfr hfr' hres=>?_
  repeat' (first
   |exact hin _|exact agf (by assumption)
   | (first|refine wp rfl ?_|refine spt rfl ?_|refine spf rfl ?_|(refine spl (fun hc=>?_) fun hc=>?_)<;>(try rw [beq_iff_eq] at hc)<;>try simp only [hc]|(refine gs (fun hb=>?_) fun hb=>?_)<;>try simp only [Bool.not_true,Bool.not_false] at hb|refine finF hrel ?_ ?_ ?_)<;>try simp only [go_sem, *])
 | @pair a b x y s t _ _ ih1 ih2 =>
  intro hz h
  rw [tmSz_2] at hz
  have h1:Pure Tryz.prog env 133 [.agg x.cells] (.bool true):=ih1 (by omega)
  have h2:Pure Tryz.prog env 133 [.agg y.cells] (.bool true):=ih2 (by omega)
  clear ih1 ih2 hz
  rw [PVl.mk_cells]
  simp only [List.map_cons,List.map_nil]
  have dt:decide True=true:=rfl
  have z0:(((0:Nat):Int)==0)=true:=rfl
  have z2:(((2:Nat):Int)==2)=true:=rfl
  refine en_ Tryz.func133 [.tmp 2] fun g0 w0 gen hrel hfr hfr' hres=>?_
  repeat' (first
   |exact hin _|exact agf (by assumption)
   | (first|refine wp rfl ?_|refine spt rfl ?_|refine spf rfl ?_|(refine spl (fun hc=>?_) fun hc=>?_)<;>(try rw [beq_iff_eq] at hc)<;>try simp only [hc]|(refine gs (fun hb=>?_) fun hb=>?_)<;>try simp only [Bool.not_true,Bool.not_false] at hb|refine cp h1 ?_|refine cp h2 ?_|refine finF hrel ?_ ?_ ?_)<;>try simp only [go_sem, *])
theorem c_vCheck {a:Ty} {v:PVl} {t:Tm} (hv:IsVl a v t) (hz:tmSz t≤4096) (ha:TyG a):Pure Tryz.prog env 72 [.agg v.cells] (.int .i64 0):=by
 intro h
 have h1:=c_vShape hv hz
 have h2:=c_vNodes v (hv.W hz)
 rw [hv.nd (by have:=ha.2;omega)] at h2
 have d1:decide ((tySz a:Int)>64)=false:=by have:=ha.2;simp;omega
 clear hz ha hv
 exact ek_ Tryz.func72 [.tmp 2]
theorem listT_drop {l:List Nat} {i x:Nat} (h:l[i]? = some x):listT (l.drop i)=tm0 8 [numT x,listT (l.drop (i+1))]:=by rw [drop_get h];rfl
end Go.Proofs.YtbfilinnoedfeaaGreatDoor
