/-
 Walks: the law of ContestCandidates.
-/
import Derived.Test.YtbfilinnoedfeaaGreatDoorSj
import Derived.Test.YtbfilinnoedfeaaGreatDoorSd
import Derived.Test.YtbfilinnoedfeaaGreatDoorKd
set_option linter.unusedSimpArgs false
set_option linter.unusedVariables false
set_option maxRecDepth 20000
set_option maxHeartbeats 4000000
namespace Go.Proofs.YtbfilinnoedfeaaGreatDoor
open Go GoAbs Go.Proofs
theorem mk2_sz {t:Ty} (h:MkTy 2 t):tySz t≤7:=by
 generalize e:2=n at h
 cases h with
 | nat=>rw [tySz_nat];omega
 | list=>have:tySz tList=1:=rfl;omega
 | unit=>have:tySz tUnit=1:=rfl;omega
 | @pair n a b ha hb =>
  obtain rfl:n=1:=by omega
  have:=ha.sz1;have:=hb.sz1
  rw [tySz_pair];omega
 | @func n a b ha hb =>
  obtain rfl:n=1:=by omega
  have:=ha.sz1;have:=hb.sz1
  rw [tySz_fun];omega
theorem mk_nat {n:Nat} {t:Ty} (h:MkTy n t) (hk:t.kind=1):t=tNat:=by
 cases h with
 | nat=>rfl
 | list=>simp [tList,Ty.kind] at hk
 | unit=>simp [tUnit,Ty.kind] at hk
 | pair=>simp [tPair,Ty.kind] at hk
 | func=>simp [tFun,Ty.kind] at hk
theorem c_ContestCandidates (l:List Int) (b:Int) (hb0:0≤b) (hb1:b≤255):Pure Tryz.prog env 3 [.sl .any (ints l),.int .u8 b] (.bool true):=by
 have hS:=c_awake32
 have hF:=c_Few l
 have tb:Int.tmod b 17=b % 17:=Int.tmod_eq_emod_of_nonneg hb0
 have wb:IntKind.i64.wrap b=b:=wrap_eq rfl (by omega) (by omega)
 obtain ⟨n,hn,en1⟩:∃ n:Nat,n≤16∧Int.tmod b 17=n:=⟨(Int.tmod b 17).toNat,by omega,by omega⟩
 clear tb hb0 hb1
 cases hf:decide ((l.length:Int)≤500) with
 | false =>
  rw [hf] at hF
  clear hf
  intro h
  refine en Tryz.func3 [.tmp 4] rfl rfl fun g0 w0 gen hrel hfr hfr' hres=>?_
  repeat' (first
   | exact hin _|exact agf (by assumption)
   | (first|refine wp rfl ?_|refine spt rfl ?_|refine spf rfl ?_|(refine spl (fun hc=>?_) fun hc=>?_)<;>(try rw [beq_iff_eq] at hc)<;>try simp only [hc]|(refine gs (fun hb=>?_) fun hb=>?_)<;>try simp only [Bool.not_true,Bool.not_false] at hb|refine cp (hS) ?_|refine cp (hF) ?_|refine finF hrel ?_ ?_ ?_)<;>try simp only [go_sem, *])
 | true =>
 rw [hf] at hF
 have hl:l.length≤1000:=by simp at hf;omega
 clear hf
 have hN:=c_New l
 have hs:=mkType_Mk (l:=l) 2 0
 have hT:=fun d=>c_Type l hl d 2 (by omega) 0
 generalize mkType l 2 0=q at hs hT
 obtain ⟨t,a1⟩:=q
 simp only at hs hT
 replace hT:∀ d,Turns Tryz.prog env 10 [.ptr d 0,.int .i64 2] d (.box (deckC l 0)) (.agg t.cells) (.box (deckC l a1)):=hT
 have hz:=mk2_sz hs
 have hG:TyG t:=⟨hs.F,by omega⟩
 have hC:=c_conCandidates n hn hs.F hG.err (n:=3) hs.H
 have hX:=fun (i:Nat) (x:Tm) hx=>candN_is (n:=2) (by omega) hs (by omega) hn (i:=i) (x:=x) hx
 have hp:=candN_pos hs (m:=n)
 have hlen:=@candN_len 3 n t
 have hR:=c_refSame t hG.1.W t hG.1.W
 rw [Ty.same_refl] at hR
 have hNat:t.kind=1→(candN 3 t n).length=n+1:=fun hk=>by
  obtain rfl:=mk_nat hs hk
  rw [candN_num hn,numsT_len]
 have hwn:IntKind.i64.wrap ((n:Int)+1)=((n+1:Nat):Int):=wrap_eq (by omega) (by omega) (by omega)
 generalize candN 3 t n=C at *
 have hT2:∀ (i:Nat) (x:Tm),C[i]? = some x→Pure Tryz.prog env 12 [.sl .any [],.agg x.cells] (.tup [.agg t.cells,.int .i64 0]):=fun i x hx=>by
  obtain ⟨v,b,hi⟩:=hX i x hx
  exact c_TypeOf0 x t hi.ok.ty hi.ok.gd hi.ok.sz hi.ok.w
 have hR2:∀ (i:Nat) (x:Tm),C[i]? = some x→∃ (p:PVl) (e:Int),Pure Tryz.prog env 14 [.agg x.cells] (.tup [.agg p.cells,.int .i64 e])∧(t.kind=1→e=0∧p=numP i):=fun i x hx=>by
  obtain ⟨v,b,hi⟩:=hX i x hx
  refine ⟨_,_,c_r05Read hi.ok hi.rd,fun hk=>?_⟩
  obtain ⟨rfl,rfl⟩:=hi.num hk
  exact ⟨rfl,rfl⟩
 have hp1:decide ((C.length:Int)<1)=false:=by simp;omega
 have hp2:decide ((C.length:Int)>64)=false:=by simp;omega
 have n0:((0:Int) != 0)=false:=rfl
 clear hX hs hG hz
 cases hk:(t.kind==1) with
 | true =>
  have hk1:t.kind=1:=by simpa using hk
  have hCl:=hNat hk1
  have hR3:∀ (i:Nat) (x:Tm),C[i]? = some x→Pure Tryz.prog env 14 [.agg x.cells] (.tup [.agg [.int .i64 1,.int .i64 i,.sl .any [],.sl .any []],.int .i64 0]):=fun i x hx=>by
   obtain ⟨p,e,hq,h1⟩:=hR2 i x hx
   obtain ⟨rfl,rfl⟩:=h1 hk1
   rw [numP,PVl.cells_eq] at hq
   exact hq
  have hk3:(t.kind != 1)=false:=by simp [hk1]
  rw [hCl] at hp1 hp2
  have nn:(((n+1:Nat):Int)==((n+1:Nat):Int))=true:=by simp
  clear hR2 hNat hk hk1
  intro h
  refine en Tryz.func3 [.tmp 4] rfl rfl fun g0 w0 gen hrel hfr hfr' hres=>?_
  repeat' (first
   | exact hin _|exact agf (by assumption)
   | (first|refine wp rfl ?_|refine spt rfl ?_|refine spf rfl ?_|(refine spl (fun hc=>?_) fun hc=>?_)<;>(try rw [beq_iff_eq] at hc)<;>try simp only [hc]|(refine gs (fun hb=>?_) fun hb=>?_)<;>try simp only [Bool.not_true,Bool.not_false] at hb|refine cp (hS) ?_|refine cp (hF) ?_|refine Call1_new ⟨gen,1000,0⟩ (hN) (by first|exact hfr' _ _|simp only [go_sem, *]) ?_|(refine ct (hT _) ?_ ?_;focus ((simp only [go_sem, *]<;>rfl);done))|refine cp (hC) ?_|refine finF hrel ?_ ?_ ?_)<;>try simp only [go_sem, *])
  refine AR_range [6,7,8,49] [⟨gen,4,2⟩] (fun i σ=>Agree h σ.h∧True) (C).length (by first|omega|(simp only [go_sem, *]<;>omega)) ⟨rfl,rfl,rfl⟩ rfl (by simp only [go_sem, *]) (by simp only [go_sem, *]) ?_ (by intro i σ t v ht hK;simp only [List.mem_cons,List.not_mem_nil,or_false] at ht;rcases ht with rfl|rfl|rfl<;>exact hK) ?_ ?_
  ·simp only [go_sem, *]
   first|exact (by repeat (first|exact Agree.refl _|assumption|refine Agree.new ?_ (hgf0 _ _)|refine Agree.new ?_ (hfr' _ _)))|exact ⟨(by repeat (first|exact Agree.refl _|assumption|refine Agree.new ?_ (hgf0 _ _)|refine Agree.new ?_ (hfr' _ _))),trivial⟩
  ·clear hS hF hN hT hC
   intro i σ gr0 hgl_gr0 hgn hlt jI jN jS ⟨jA,_⟩
   obtain ⟨jT,jB⟩:=jS
   simp only [go_sem] at jT jB
   have hgf:=fresh_of hgn
   have hgf0:∀ r i,h ⟨gr0,r,i⟩=none:=fun r i=>agree_fresh jA (hgf r i)
   have eg_gen_gr0:=gen_lt (show gen<gr0 by omega)
   have eh_gen_gr0:=gen_lt' (show gen<gr0 by omega)
   obtain ⟨x,hx⟩:∃ x,(C)[i]? = some x:=⟨_,List.getElem?_eq_getElem hlt⟩
   have hxm:=List.mem_of_getElem? hx
   have hm:=min_lt hlt
   clear hgn
   have h1:=hT2 i x hx
   have h2:=hR3 i x hx
   have ii:((i:Int) != (i:Int))=false:=by simp
   clear hT2 hR3
   repeat' (first
    | exact hin _|exact agf (by assumption)
    | (first|refine wp rfl ?_|refine spt rfl ?_|refine spf rfl ?_|(refine spl (fun hc=>?_) fun hc=>?_)<;>(try rw [beq_iff_eq] at hc)<;>try simp only [hc]|(refine gs (fun hb=>?_) fun hb=>?_)<;>try simp only [Bool.not_true,Bool.not_false] at hb|refine cp (h1) ?_|refine cp (h2) ?_|refine cp (hR) ?_|refine AR_inv ?_|refine finF hrel ?_ ?_ ?_)<;>try simp only [go_sem, *])
   all_goals first|exact (by repeat (first|exact Agree.refl _|assumption|refine Agree.new ?_ (hgf0 _ _)|refine Agree.new ?_ (hfr' _ _)))|exact ⟨(by repeat (first|exact Agree.refl _|assumption|refine Agree.new ?_ (hgf0 _ _)|refine Agree.new ?_ (hfr' _ _))),trivial⟩
  ·clear hS hF hN hT hC hT2 hR3
   intro σ ga0 hgl_ga0 hgn jS ⟨jA,_⟩
   obtain ⟨jT,jB⟩:=jS
   simp only [go_sem] at jT jB
   have hgf:=fresh_of hgn
   have hgf0:∀ r i,h ⟨ga0,r,i⟩=none:=fun r i=>agree_fresh jA (hgf r i)
   have eg_gen_ga0:=gen_lt (show gen<ga0 by omega)
   have eh_gen_ga0:=gen_lt' (show gen<ga0 by omega)
   clear hgn
   repeat' (first
    | exact hin _|exact agf (by assumption)
    | (first|refine wp rfl ?_|refine spt rfl ?_|refine spf rfl ?_|(refine spl (fun hc=>?_) fun hc=>?_)<;>(try rw [beq_iff_eq] at hc)<;>try simp only [hc]|(refine gs (fun hb=>?_) fun hb=>?_)<;>try simp only [Bool.not_true,Bool.not_false] at hb|refine finF hrel ?_ ?_ ?_)<;>try simp only [go_sem, *])
 | false =>
  have hk3:(t.kind != 1)=true:=by simp;simpa using hk
  clear hNat
  intro h
  refine en Tryz.func3 [.tmp 4] rfl rfl fun g0 w0 gen hrel hfr hfr' hres=>?_
  repeat' (first
   | exact hin _|exact agf (by assumption)
   | (first|refine wp rfl ?_|refine spt rfl ?_|refine spf rfl ?_|(refine spl (fun hc=>?_) fun hc=>?_)<;>(try rw [beq_iff_eq] at hc)<;>try simp only [hc]|(refine gs (fun hb=>?_) fun hb=>?_)<;>try simp only [Bool.not_true,Bool.not_false] at hb|refine cp (hS) ?_|refine cp (hF) ?_|refine Call1_new ⟨gen,1000,0⟩ (hN) (by first|exact hfr' _ _|simp only [go_sem, *]) ?_|(refine ct (hT _) ?_ ?_;focus ((simp only [go_sem, *]<;>rfl);done))|refine cp (hC) ?_|refine finF hrel ?_ ?_ ?_)<;>try simp only [go_sem, *])
  refine AR_range [6,7,8,49] [⟨gen,4,2⟩] (fun i σ=>Agree h σ.h∧True) (C).length (by first|omega|(simp only [go_sem, *]<;>omega)) ⟨rfl,rfl,rfl⟩ rfl (by simp only [go_sem, *]) (by simp only [go_sem, *]) ?_ (by intro i σ t v ht hK;simp only [List.mem_cons,List.not_mem_nil,or_false] at ht;rcases ht with rfl|rfl|rfl<;>exact hK) ?_ ?_
  ·simp only [go_sem, *]
   first|exact (by repeat (first|exact Agree.refl _|assumption|refine Agree.new ?_ (hgf0 _ _)|refine Agree.new ?_ (hfr' _ _)))|exact ⟨(by repeat (first|exact Agree.refl _|assumption|refine Agree.new ?_ (hgf0 _ _)|refine Agree.new ?_ (hfr' _ _))),trivial⟩
  ·clear hS hF hN hT hC
   intro i σ gr0 hgl_gr0 hgn hlt jI jN jS ⟨jA,_⟩
   obtain ⟨jT,jB⟩:=jS
   simp only [go_sem] at jT jB
   have hgf:=fresh_of hgn
   have hgf0:∀ r i,h ⟨gr0,r,i⟩=none:=fun r i=>agree_fresh jA (hgf r i)
   have eg_gen_gr0:=gen_lt (show gen<gr0 by omega)
   have eh_gen_gr0:=gen_lt' (show gen<gr0 by omega)
   obtain ⟨x,hx⟩:∃ x,(C)[i]? = some x:=⟨_,List.getElem?_eq_getElem hlt⟩
   have hxm:=List.mem_of_getElem? hx
   have hm:=min_lt hlt
   clear hgn
   have h1:=hT2 i x hx
   obtain ⟨p,e,h2,_⟩:=hR2 i x hx
   clear hT2 hR2
   repeat' (first
    | exact hin _|exact agf (by assumption)
    | (first|refine wp rfl ?_|refine spt rfl ?_|refine spf rfl ?_|(refine spl (fun hc=>?_) fun hc=>?_)<;>(try rw [beq_iff_eq] at hc)<;>try simp only [hc]|(refine gs (fun hb=>?_) fun hb=>?_)<;>try simp only [Bool.not_true,Bool.not_false] at hb|refine cp (h1) ?_|refine cp (h2) ?_|refine cp (hR) ?_|refine AR_inv ?_|refine finF hrel ?_ ?_ ?_)<;>try simp only [go_sem, *])
   all_goals first|exact (by repeat (first|exact Agree.refl _|assumption|refine Agree.new ?_ (hgf0 _ _)|refine Agree.new ?_ (hfr' _ _)))|exact ⟨(by repeat (first|exact Agree.refl _|assumption|refine Agree.new ?_ (hgf0 _ _)|refine Agree.new ?_ (hfr' _ _))),trivial⟩
  ·clear hS hF hN hT hC hT2 hR2
   intro σ ga0 hgl_ga0 hgn jS ⟨jA,_⟩
   obtain ⟨jT,jB⟩:=jS
   simp only [go_sem] at jT jB
   have hgf:=fresh_of hgn
   have hgf0:∀ r i,h ⟨ga0,r,i⟩=none:=fun r i=>agree_fresh jA (hgf r i)
   have eg_gen_ga0:=gen_lt (show gen<ga0 by omega)
   have eh_gen_ga0:=gen_lt' (show gen<ga0 by omega)
   clear hgn
   repeat' (first
    | exact hin _|exact agf (by assumption)
    | (first|refine wp rfl ?_|refine spt rfl ?_|refine spf rfl ?_|(refine spl (fun hc=>?_) fun hc=>?_)<;>(try rw [beq_iff_eq] at hc)<;>try simp only [hc]|(refine gs (fun hb=>?_) fun hb=>?_)<;>try simp only [Bool.not_true,Bool.not_false] at hb|refine finF hrel ?_ ?_ ?_)<;>try simp only [go_sem, *])
end Go.Proofs.YtbfilinnoedfeaaGreatDoor
