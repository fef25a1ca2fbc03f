/-
 Walks: the truth between a witness and a challenge; the sanity check of chapter 32.
-/
import Derived.Test.YtbfilinnoedfeaaGreatDoorOm
import Derived.Test.YtbfilinnoedfeaaGreatDoorTf
import Derived.Test.YtbfilinnoedfeaaGreatDoorTc
import Derived.Test.YtbfilinnoedfeaaGreatDoorAbsDd
set_option linter.unusedSimpArgs false
set_option linter.unusedVariables false
set_option maxRecDepth 20000
set_option maxHeartbeats 4000000
namespace Go.Proofs.YtbfilinnoedfeaaGreatDoor
open Go GoAbs Go.Proofs
theorem c_conHolds (f:Fm) (w c:Tm) (hf:FmW f) (hw:TmW w) (hc:TmW c) (lim:Nat) (hl:lim≤65536) (hX:(matF f w c).2=0→Dc [] (matF f w c).1∧fmSz (matF f w c).1≤4096) :
  Pure Tryz.prog env 20 [.agg f.cells,.agg w.cells,.agg c.cells,.int .i64 lim] (decV (holdA lim f w c)):=by
 intro h
 have h1:=c_matF f hf w c hw hc
 unfold holdA
 cases he:((matF f w c).2 != 0) with
 | true =>
  rw [if_pos rfl]
  simp only [decV,he,if_true]
  generalize matF f w c=M at *
  obtain ⟨m,e⟩:=M
  simp only [fmErrV] at h1 he
  clear hX hf hw hc
  refine en Tryz.func20 [.tmp 8,.tmp 9,.tmp 10] rfl rfl fun g0 w0 gen hrel hfr hfr' hres=>?_
  repeat' (first
   |exact hin _|exact agf (by assumption)
   | (first|refine wp rfl ?_|refine spt rfl ?_|refine spf rfl ?_|(refine spl (fun hc=>?_) fun hc=>?_)<;>(try rw [beq_iff_eq] at hc)<;>try simp only [hc]|refine cp h1 ?_|refine finF hrel ?_ ?_ ?_)<;>try simp only [go_sem, *])
 | false =>
  rw [if_neg (by simp)]
  have e0:(matF f w c).2=0:=by simpa using he
  obtain ⟨d1,d2⟩:=hX e0
  have h2:=c_decTruth d1 d2 lim hl
  generalize dT lim (fdp (matF f w c).1) 0 (matF f w c).1=R at *
  generalize matF f w c=M at *
  obtain ⟨m,e⟩:=M
  simp only [fmErrV] at h1 he e0 h2
  subst e0
  clear hX hf hw hc d1 d2
  unfold decV at *
  cases hr:(R.2.2 != 0) with
  | true =>
   rw [hr] at h2
   simp only [if_true] at h2 ⊢
   refine en Tryz.func20 [.tmp 8,.tmp 9,.tmp 10] rfl rfl fun g0 w0 gen hrel hfr hfr' hres=>?_
   repeat' (first
    |exact hin _|exact agf (by assumption)
    | (first|refine wp rfl ?_|refine spt rfl ?_|refine spf rfl ?_|(refine spl (fun hc=>?_) fun hc=>?_)<;>(try rw [beq_iff_eq] at hc)<;>try simp only [hc]|refine cp h1 ?_|refine cp h2 ?_|refine finF hrel ?_ ?_ ?_)<;>try simp only [go_sem, *])
  | false =>
   rw [hr] at h2
   simp only [Bool.false_eq_true,if_false] at h2 ⊢
   refine en Tryz.func20 [.tmp 8,.tmp 9,.tmp 10] rfl rfl fun g0 w0 gen hrel hfr hfr' hres=>?_
   repeat' (first
    |exact hin _|exact agf (by assumption)
    | (first|refine wp rfl ?_|refine spt rfl ?_|refine spf rfl ?_|(refine spl (fun hc=>?_) fun hc=>?_)<;>(try rw [beq_iff_eq] at hc)<;>try simp only [hc]|refine cp h1 ?_|refine cp h2 ?_|refine finF hrel ?_ ?_ ?_)<;>try simp only [go_sem, *])
theorem c_conHolds32 (i:Nat) (hi:i≤1):∃ k:Nat,Pure Tryz.prog env 20 [.agg f32.cells,.agg w32.cells,.agg (numT i).cells,.int .i64 100] (.tup [.bool (i==0),.int .i64 k,.int .i64 0]):=by
 obtain rfl|rfl:i=0∨i=1:=by omega
 ·have h1:=c_conHolds f32 w32 (numT 0) f32_W w32_W (numT_W 0) 100 (by omega) (fun _=>by rw [mat32_0];exact ⟨x32_dc 0,x32_sz.1⟩)
  have e:holdA 100 f32 w32 (numT 0)=dT 100 (fdp (x32 (numT 0))) 0 (x32 (numT 0)):=by unfold holdA;rw [mat32_0];rfl
  rw [e] at h1
  have d:=d32_0
  generalize dT 100 (fdp (x32 (numT 0))) 0 (x32 (numT 0))=R at *
  obtain ⟨b,k,e⟩:=R
  simp only [Prod.mk.injEq] at d
  obtain ⟨rfl,rfl⟩:=d
  exact ⟨k,h1⟩
 ·have h1:=c_conHolds f32 w32 (numT 1) f32_W w32_W (numT_W 1) 100 (by omega) (fun _=>by rw [mat32_1];exact ⟨x32_dc 1,x32_sz.2⟩)
  have e:holdA 100 f32 w32 (numT 1)=dT 100 (fdp (x32 (numT 1))) 0 (x32 (numT 1)):=by unfold holdA;rw [mat32_1];rfl
  rw [e] at h1
  have d:=d32_1
  generalize dT 100 (fdp (x32 (numT 1))) 0 (x32 (numT 1))=R at *
  obtain ⟨b,k,e⟩:=R
  simp only [Prod.mk.injEq] at d
  obtain ⟨rfl,rfl⟩:=d
  exact ⟨k,h1⟩
theorem c_conCand32:Pure Tryz.prog env 11 [.agg tNat.cells,.int .i64 2] (.tup [.sl .any ([numT 0,numT 1,numT 2].map Tm.cells),.int .i64 0]):=by
 exact c_conCandOf 2 (by omega) (t:=tNat) (L:=[numT 0,numT 1,numT 2]) tNat_W rfl (by have:=c_conOfNat 2 (by omega);rw [← candN_nat (n:=0),cand32] at this;exact this)
theorem c_conRefute32:Pure Tryz.prog env 32 [.agg f32.cells,.agg w32.cells,.int .i64 2,.int .i64 100] (.tup [.agg (numT 1).cells,.bool true,.int .i64 0]):=by
 intro h
 have h1:=c_Challenge f32 f32_W
 rw [ch32] at h1
 have h2:=c_conCand32
 obtain ⟨k0,h3⟩:=c_conHolds32 0 (by omega)
 obtain ⟨k1,h4⟩:=c_conHolds32 1 (by omega)
 have hN0:[numT 0,numT 1,numT 2][0]? = some (numT 0):=rfl
 have hN1:[numT 0,numT 1,numT 2][1]? = some (numT 1):=rfl
 have hNl:[numT 0,numT 1,numT 2].length=3:=rfl
 have b0:(0==0)=true:=rfl
 have b1:(1==0)=false:=rfl
 rw [b0] at h3
 rw [b1] at h4
 simp only [tyErrV] at h1
 clear b0 b1
 generalize [numT 0,numT 1,numT 2]=N at *
 generalize numT 0=c0 at *
 generalize numT 1=c1 at *
 generalize f32=f at *
 generalize w32=w at *
 generalize tNat=t at *
 refine en Tryz.func32 [.cell 8 36,.tmp 9,.tmp 10] rfl rfl fun g0 w0 gen hrel hfr hfr' hres=>?_
 repeat' (first
  |(refine ⟨?_,?_⟩;focus ((repeat' (first|refine ⟨?_,?_⟩|refine .inr ?_));all_goals kernel_rfl))
  |exact hin _|exact agf (by assumption)
  | (first|refine wp rfl ?_|refine spt rfl ?_|refine spf rfl ?_|(refine spl (fun hc=>?_) fun hc=>?_)<;>(try rw [beq_iff_eq] at hc)<;>try simp only [hc]|refine cp h1 ?_|refine cp h2 ?_|refine finF hrel ?_ ?_ ?_)<;>try simp only [go_sem, *])
 refine AR_range [3,4,5,8,13] [⟨gen,0,0⟩,⟨gen,0,1⟩,⟨gen,0,2⟩] (fun i σ=>Agree h σ.h∧i≤1) (N).length (by first|omega|(simp only [go_sem, *]<;>omega)) ⟨rfl,rfl,rfl⟩ rfl (by simp only [go_sem, *]) (by simp only [go_sem, *]) ?_ (by intro i σ t v ht hK;simp only [List.mem_cons,List.not_mem_nil,or_false] at ht;rcases ht with rfl|rfl|rfl<;>exact hK) ?_ ?_
 ·simp only [go_sem, *]
  first|exact (by repeat (first|exact Agree.refl _|assumption|refine Agree.new ?_ (hgf0 _ _)|refine Agree.new ?_ (hfr' _ _)))|exact ⟨(by repeat (first|exact Agree.refl _|assumption|refine Agree.new ?_ (hgf0 _ _)|refine Agree.new ?_ (hfr' _ _))),by omega⟩
 ·clear h1 h2
  intro i σ gr0 hgl_gr0 hgn hlt jI jN jS ⟨jA,ji⟩
  obtain ⟨jT,jB⟩:=jS
  simp only [go_sem] at jT jB
  have hgf:=fresh_of hgn
  have hgf0:=fun r i=>agree_fresh jA (hgf r i)
  have eg_gen_gr0:=gen_lt (show gen<gr0 by omega)
  have eh_gen_gr0:=gen_lt' (show gen<gr0 by omega)
  obtain ⟨x,hx⟩:∃ x,(N)[i]? = some x:=⟨_,List.getElem?_eq_getElem hlt⟩
  have hxm:=List.mem_of_getElem? hx
  have hm:=min_lt hlt
  clear hgn
  obtain rfl|rfl:i=0∨i=1:=by omega
  ·have hxe:x=c0:=by rw [hN0] at hx;exact (Option.some.inj hx).symm
   subst hxe
   clear h4 hN1 hx
   have z0:((0:Nat):Int)=0:=rfl
   repeat' (first
    |(refine ⟨?_,?_⟩;focus ((repeat' (first|refine ⟨?_,?_⟩|refine .inr ?_));all_goals kernel_rfl))
    |exact hin _|exact agf (by assumption)
    | (first|refine wp rfl ?_|refine spt rfl ?_|refine spf rfl ?_|(refine spl (fun hc=>?_) fun hc=>?_)<;>(try rw [beq_iff_eq] at hc)<;>try simp only [hc]|refine cp h3 ?_|refine AR_inv ?_|refine finF hrel ?_ ?_ ?_)<;>try simp only [go_sem, *])
   all_goals first|exact (by repeat (first|exact Agree.refl _|assumption|refine Agree.new ?_ (hgf0 _ _)|refine Agree.new ?_ (hfr' _ _)))|exact ⟨(by repeat (first|exact Agree.refl _|assumption|refine Agree.new ?_ (hgf0 _ _)|refine Agree.new ?_ (hfr' _ _))),by omega⟩
  ·have hxe:x=c1:=by rw [hN1] at hx;exact (Option.some.inj hx).symm
   subst hxe
   clear h3 hN0 hx
   have z1:((1:Nat):Int)=1:=rfl
   repeat' (first
    |(refine ⟨?_,?_⟩;focus ((repeat' (first|refine ⟨?_,?_⟩|refine .inr ?_));all_goals kernel_rfl))
    |exact hin _|exact agf (by assumption)
    | (first|refine wp rfl ?_|refine spt rfl ?_|refine spf rfl ?_|(refine spl (fun hc=>?_) fun hc=>?_)<;>(try rw [beq_iff_eq] at hc)<;>try simp only [hc]|refine cp h4 ?_|refine finF hrel ?_ ?_ ?_)<;>try simp only [go_sem, *])
 ·clear h1 h2
  intro σ ga0 hgl_ga0 hgn jS ⟨jA,ji⟩
  obtain ⟨jT,jB⟩:=jS
  simp only [go_sem] at jT jB
  have hgf:=fresh_of hgn
  have hgf0:=fun r i=>agree_fresh jA (hgf r i)
  have eg_gen_ga0:=gen_lt (show gen<ga0 by omega)
  have eh_gen_ga0:=gen_lt' (show gen<ga0 by omega)
  clear hgn
  omega
theorem c_awake32:Pure Tryz.prog env 7 [] (.bool true):=by
 intro h
 obtain ⟨k0,h1⟩:=c_conHolds32 0 (by omega)
 have h2:=c_conCand32
 have h3:=c_conRefute32
 have b0:(0==0)=true:=rfl
 rw [b0] at h1
 have hk:(numT 1).kind=5:=rfl
 have hNl:[numT 0,numT 1,numT 2].length=3:=rfl
 have e1:f32=.mk 4 tNat [] [.mk 5 tNat [] [.mk 1 (.mk 0 []) [.mk 1 0 (.mk 0 []) [],.mk 1 1 (.mk 0 []) []] []]]:=rfl
 have e2:w32=.mk 2 0 tNat [.mk 4 0 (.mk 0 []) []]:=rfl
 have e3:numT 0=.mk 4 0 (.mk 0 []) []:=rfl
 generalize hN:[numT 0,numT 1,numT 2]=N at *
 generalize numT 1=n1 at *
 rw [e1] at h1 h3
 rw [e2] at h1 h3
 rw [e3] at h1
 simp only [tNat,Ty.mk_cells,Tm.mk_cells,Fm.mk_cells,Ty.mk_kind,Ty.mk_args,List.map_cons,List.map_nil] at h1 h2 h3
 clear e1 e2 e3 b0 hN
 refine en Tryz.func7 [.tmp 0] rfl rfl fun g0 w0 gen hrel hfr hfr' hres=>?_
 repeat' (first
  |exact hin _|exact agf (by assumption)
  | (first|refine wp rfl ?_|(refine gs (fun hb=>?_) fun hb=>?_)<;>try simp only [Bool.not_true,Bool.not_false] at hb|refine cp h1 ?_|refine cp h2 ?_|refine cp h3 ?_|refine finF hrel ?_ ?_ ?_)<;>try simp only [go_sem, *])
 all_goals (simp at hb)
end Go.Proofs.YtbfilinnoedfeaaGreatDoor
