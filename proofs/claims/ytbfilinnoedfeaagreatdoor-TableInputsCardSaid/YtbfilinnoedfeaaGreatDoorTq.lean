/-
 Walks: several parts in one text.
-/
import Derived.Test.YtbfilinnoedfeaaGreatDoorTp
import Derived.Test.YtbfilinnoedfeaaGreatDoorTv
import Derived.Test.YtbfilinnoedfeaaGreatDoorRb
set_option linter.unusedSimpArgs false
set_option linter.unusedVariables false
set_option maxRecDepth 20000
set_option maxHeartbeats 8000000
namespace Go.Proofs.YtbfilinnoedfeaaGreatDoor
open Go GoAbs Go.Proofs
theorem c_r40Differ {a b:List PVl} (hl:a.length=b.length) (hn:a≠b) (ha:a.length≤100) (hc:∀ x∈a,∀ y∈b,Pure Tryz.prog env 74 [.agg x.cells,.agg y.cells] (.bool (PVl.same x y))) :
  Pure Tryz.prog env 31 [.sl .any (a.map PVl.cells),.sl .any (b.map PVl.cells)] (.bool false):=by
 have nn:(((b.length:Nat):Int) != (b.length:Int))=false:=by simp
 intro h
 refine en_ Tryz.func31 [.tmp 4] fun g0 w0 gen hrel hfr hfr' hres=>?_
 refine wq_ ?_
 refine AR_loop_nat (fun i σ=>σ.tm 0=.sl .any (a.map PVl.cells)∧σ.tm 1=.sl .any (b.map PVl.cells)∧σ.tm 5=.int .i64 i∧a.take i=b.take i∧Agree h σ.h) a.length ?_ ?_
 ·simp only [List.take_zero,go_sem, *]
  all_goals first|rfl|exact ⟨rfl,ag_⟩
 intro i σ hi ⟨j1,j2,j3,jt,j4⟩
 refine AR_gen (fun gn hgn=>?_)
 have hgf:=fresh_of hgn
 have hgf0:∀ r i,h ⟨gn,r,i⟩=none:=fun r i=>agree_fresh j4 (hgf r i)
 clear hgn
 rcases Nat.lt_or_ge i a.length with hlt|hge
 ·have hd:decide ((i:Int)<(b.length:Int))=true:=by simp;omega
  obtain ⟨x,hx⟩:∃ x,a[i]? = some x:=⟨_,List.getElem?_eq_getElem hlt⟩
  obtain ⟨y,hy⟩:∃ y,b[i]? = some y:=⟨_,List.getElem?_eq_getElem (by omega)⟩
  have hs:=hc x (List.mem_of_getElem? hx) y (List.mem_of_getElem? hy)
  have hw:IntKind.i64.wrap ((i:Int)+1)=((i+1:Nat):Int):=wrap_eq (by omega) (by omega) (by omega)
  have hti:Int.toNat (i:Int)=i:=rfl
  have h0i:(0≤(i:Int))=True:=by simp
  have hib:i<b.length:=by omega
  clear hc
  cases hq:PVl.same x y with
  | true =>
   rw [hq] at hs
   have hxy:=(PVl.same_iff x y).1 hq
   have hnext:a.take (i+1)=b.take (i+1):=by rw [List.take_add_one,List.take_add_one,hx,hy,jt,hxy]
   subst hxy
   repeat' (first
    |(refine ⟨?_,?_⟩;focus ((repeat' (first|refine ⟨?_,?_⟩|refine .inr ?_));all_goals kernel_rfl))
    | (first|refine wp rfl ?_|refine spt rfl ?_|refine spf rfl ?_|(refine spl (fun hc=>?_) fun hc=>?_)<;>(try rw [beq_iff_eq] at hc)<;>try simp only [hc]|refine cp hs ?_|refine AR_inv ?_)<;>try simp only [go_sem, *])
   all_goals first|exact ag_|exact ⟨hnext,ag_⟩
  | false =>
   rw [hq] at hs
   exact wk_
 ·exfalso
  obtain rfl:i=a.length:=by omega
  rw [List.take_length,hl,List.take_length] at jt
  exact hn jt
def tabA (PA:Nat→Nat) (a:Nat):Nat→Nat
 | 0=>a
 | i+1=>PA (tabA PA a i)
theorem c_TableInputs (l:List Int):Pure Tryz.prog env 6 [.sl .any (ints l)] (.bool true):=by
 have hS:=c_awake40
 have hF:=c_Few l
 cases hf:decide ((l.length:Int)≤500) with
 | false =>
  rw [hf] at hF
  clear hf
  intro h
  exact ek_ Tryz.func6 [.tmp 2]
 | true =>
 rw [hf] at hF
 have hl:l.length≤1000:=by simp at hf;omega
 clear hf
 have hN:=c_New l
 obtain ⟨x0,y0,a1,hx0,hy0,fW,Tf⟩:=c_Decidable0 l hl 0
 have bG:FmG true (fmEq x0 y0):=.eq (hx0.G (by simp) .nat) (hy0.G (by simp) .nat)
 have bz:fmSz (fmEq x0 y0)≤2000:=by
  rw [fmSz_eq]
  have b1:bndT 1 1=49:=rfl
  have n2:=tySz_nat
  have z1:=(hx0.sz (M:=1) (by omega) (by simp) (by omega)).1
  have z2:=(hy0.sz (M:=1) (by omega) (by simp) (by omega)).1
  omega
 have hbk:(fmEq x0 y0).kind≠4:=by simp [fmEq,Fm.kind]
 have hr:=nextD_range (l:=l) (a:=a1) (n:=3) (by omega) (by omega)
 have hX:=fun d=>c_Next l hl d a1 3
 generalize nextD l a1 3=q at hr hX
 obtain ⟨K',a2⟩:=q
 simp only at hr hX
 obtain ⟨K,rfl⟩:∃ K:Nat,K'=K:=⟨K'.toNat,by omega⟩
 have hK:K≤2:=by omega
 clear hr
 obtain ⟨PT,hPT⟩:=Classical.axiomOfChoice (fun a=>c_Plain l hl a)
 obtain ⟨PA,hP⟩:=Classical.axiomOfChoice hPT
 obtain ⟨ts,hts⟩:∃ ts,ts=(List.range K).map fun j=>PT (tabA PA a2 j):=⟨_,rfl⟩
 have hti:∀ i,i<K→ts[i]? = some (PT (tabA PA a2 i)):=fun i hi=>by rw [hts,List.getElem?_map,List.getElem?_range hi];rfl
 have htl:ts.length=K:=by rw [hts];simp
 have htp:∀ t∈ts,PlainTy t:=fun t ht=>by
  rw [hts] at ht
  obtain ⟨j,_,rfl⟩:=List.mem_map.1 ht
  exact (hP _).1
 have hPl:∀ i d,Turns Tryz.prog env 28 [.ptr d 0] d (.box (deckC l (tabA PA a2 i))) (.agg (PT (tabA PA a2 i)).cells) (.box (deckC l (tabA PA a2 (i+1)))):=fun i d=>(hP _).2 d
 have hA0:tabA PA a2 0=a2:=rfl
 clear hts hP hPT
 generalize tabA PA a2=A at *
 have fG:FmG true (allF ts (fmEq x0 y0)):=allF_G (fun t ht=>(htp t ht).G) bG
 have FW:FmW (allF ts (fmEq x0 y0)):=allF_W (fun t ht=>(htp t ht).G.1.W) fW
 have Fe:fmErr (allF ts (fmEq x0 y0))=0:=fG.err0 (by rw [allF_sz];omega)
 have hr:=nextD_range (l:=l) (a:=A K) (n:=4) (by omega) (by omega)
 have hY:=fun d=>c_Next l hl d (A K) 4
 generalize nextD l (A K) 4=q at hr hY
 obtain ⟨m',a3⟩:=q
 simp only at hr hY
 obtain ⟨m,rfl⟩:∃ m:Nat,m'=m:=⟨m'.toNat,by omega⟩
 have hI:=c_tabInputs m (by omega) ts htp (by omega) (fmEq x0 y0) hbk FW Fe
 have io:=inputsV_ok (m:=m) (by omega) (ts:=ts) fun t ht=>⟨(htp t ht).plT,(htp t ht).G.1,(htp t ht).G.2⟩
 clear hr FW Fe fG bG bz hbk fW hx0 hy0
 generalize inputsV m ts=L at *
 generalize fmEq x0 y0=b at *
 have hTy:∀ x∈L,∀ (k:Nat) (t:Ty) (v:PVl),ts[k]? = some t→x[k]? = some v→Pure Tryz.prog env 30 [.agg v.cells] (.tup [.agg t.cells,.int .i64 0]):=fun x hx k t v ht hv=>by
  obtain ⟨c,h1,h2⟩:=(io.val x hx).2 k t v ht hv
  exact c_r05TypeOf h1 (by omega) (htp t (List.mem_of_getElem? ht)).G
 have hlen:∀ x∈L,x.length=K:=fun x hx=>by rw [(io.val x hx).1,htl]
 have hSm:∀ t∈ts,Pure Tryz.prog env 13 [.agg t.cells,.agg t.cells] (.bool true):=fun t ht=>by
  have:=c_refSame t (htp t ht).G.1.W t (htp t ht).G.1.W
  rwa [Ty.same_refl] at this
 have hW:∀ x∈L,∀ v∈x,VlW v:=fun x hx v hv=>by
  obtain ⟨k,hk⟩:=List.mem_iff_getElem?.1 hv
  have hkl:k<ts.length:=by rw [← (io.val x hx).1];exact (List.getElem?_eq_some_iff.1 hk).1
  obtain ⟨c,h1,h2⟩:=(io.val x hx).2 k _ v (List.getElem?_eq_getElem hkl) hk
  exact h1.W (by omega)
 have hDf:∀ (i j:Nat) (x y:List PVl),L[i]? = some x→L[j]? = some y→j<i→Pure Tryz.prog env 31 [.sl .any (x.map PVl.cells),.sl .any (y.map PVl.cells)] (.bool false):=fun i j x y hx hy hlt=>by
  have mx:=List.mem_of_getElem? hx
  have my:=List.mem_of_getElem? hy
  refine c_r40Differ (by rw [hlen x mx,hlen y my]) ?_ (by rw [hlen x mx];omega) fun u hu v hv=>c_r05Same u (hW x mx u hu) v (hW y my v hv)
  obtain ⟨hi',e1⟩:=List.getElem?_eq_some_iff.1 hx
  obtain ⟨hj',e2⟩:=List.getElem?_eq_some_iff.1 hy
  have:=List.pairwise_iff_getElem.1 io.nodup j i hj' hi' hlt
  rw [e1,e2] at this
  exact fun e=>this e.symm
 have hp1:decide ((L.length:Int)<1)=false:=by have:=io.pos;simp;omega
 have hp2:decide ((L.length:Int)>64)=false:=by have:=io.len;simp;omega
 have hLl:=io.len
 clear hW io htp
 have n0:((0:Int) != 0)=false:=rfl
 intro h
 refine en_ Tryz.func6 [.tmp 2] fun g0 w0 gen hrel hfr hfr' hres=>?_
 repeat' (first
  |(refine ⟨?_,?_⟩;focus ((repeat' (first|refine ⟨?_,?_⟩|refine .inr ?_));all_goals kernel_rfl))
  | (first|refine wp rfl ?_|refine spt rfl ?_|refine spf rfl ?_|(refine spl (fun hc=>?_) fun hc=>?_)<;>(try rw [beq_iff_eq] at hc)<;>try simp only [hc]|(refine gs (fun hb=>?_) fun hb=>?_)<;>try simp only [Bool.not_true,Bool.not_false] at hb|refine cp hS ?_|refine cp hF ?_|refine Call1_new ⟨gen,1000,0⟩ (hN) (by first|exact hfr' _ _|simp only [go_sem, *]) ?_|(refine ct (Tf _) ?_ ?_;focus ((simp only [go_sem, *]<;>rfl);done))|(refine ct (hX _) ?_ ?_;focus ((simp only [go_sem, *]<;>rfl);done)))<;>try simp only [go_sem, *])
 refine AR_loop_nat (fun i σ=>σ.tm 3=.ptr ⟨gen,1000,0⟩ 0∧σ.tm 4=.ptr ⟨gen,4,2⟩ 0∧σ.tm 6=.int .i64 ((K - i:Nat):Int)∧σ.h ⟨gen,1000,0⟩=some (.box (deckC l (A i)))∧σ.h ⟨gen,4,2⟩=some (.box b.cells) ∧
  OwnS h σ.h (σ.tm 5) 2 ((ts.take i).map Ty.cells)∧Agree h σ.h) K ?_ ?_
 ·simp only [List.take_zero,List.map_nil,Nat.sub_zero,go_sem, *]
  exact ⟨.inl rfl,ag_⟩
 clear hS hF hN Tf hX
 intro i σ hi ⟨j1,j2,j3,jd,jb,jo,jA⟩
 refine AR_gen (fun gn hgn=>?_)
 have hgf:=fresh_of hgn
 have hgf0:=fun r i=>agree_fresh jA (hgf r i)
 have hg1:gen<gn:=hgn ⟨gen,4,2⟩ (by simp [jb])
 have eg1:=gen_lt hg1
 have eg2:=gen_lt' hg1
 clear hgn
 obtain ⟨c5,jv⟩:=jo.val
 rw [jv] at jo
 rcases Nat.lt_or_ge i K with hlt|hge
 ·have hd:decide (((K - i:Nat):Int)>0)=true:=by simp;omega
  have hw:IntKind.i64.wrap (((K - i:Nat):Int) - 1)=((K - (i+1):Nat):Int):=wrap_eq (by omega) (by omega) (by omega)
  have hpl:=hPl i
  have htk:(ts.take (i+1)).map Ty.cells=(ts.take i).map Ty.cells++[(PT (A i)).cells]:=map_take_succ (hti i hlt)
  have hq:(ts.take i).length≤3:=by rw [List.length_take];omega
  rw [htk]
  clear hPl hY hI hTy hSm hDf hlen hti
  generalize PT (A i)=t at *
  generalize ts.take i=Q at *
  repeat' (first
   |(refine ⟨?_,?_⟩;focus ((repeat' (first|refine ⟨?_,?_⟩|refine .inr ?_));all_goals kernel_rfl))
   |(refine okE_app_own jo (by repeat (first|exact Keeps.refl _|refine Keeps.new ?_ (hgf _ _)|refine Keeps.new ?_ (hfr' _ _)|refine Keeps.box ?_ rfl|refine Keeps.box ?_ (by simp only [go_sem, *]))) rfl (by simp only [go_sem, *]<;>omega) (by first|exact hgf0 _ _|exact hfr' _ _) (by simp only [go_sem, *]) (by intro hd;cases hd) ?_;intro v' h' log' jO jK jAg jAb jF;simp only [go_sem, *])
   | (first|refine wp rfl ?_|refine spt rfl ?_|refine spf rfl ?_|(refine spl (fun hc=>?_) fun hc=>?_)<;>(try rw [beq_iff_eq] at hc)<;>try simp only [hc]|(refine gs (fun hb=>?_) fun hb=>?_)<;>try simp only [Bool.not_true,Bool.not_false] at hb|(refine ct (hpl _) ?_ ?_;focus ((simp only [go_sem, *]<;>rfl);done))|refine AR_inv ?_)<;>try simp only [go_sem, *])
  exact jAg ag_
 clear hPl
 obtain rfl:i=K:=by omega
 have hd:decide (((i - i:Nat):Int)>0)=false:=by simp
 have etk:ts.take i=ts:=List.take_of_length_le (by omega)
 rw [etk] at jv
 clear etk jo
 have hw0:IntKind.i64.wrap ((i:Int) - 1)=(i:Int) - 1 - ((0:Nat):Int):=wrap_eq (by omega) (by omega) (by omega)
 refine wq_ ?_
 refine AR_loop_nat (fun j σ=>σ.tm 3=.ptr ⟨gen,1000,0⟩ 0∧σ.tm 4=.ptr ⟨gen,4,2⟩ 0∧σ.tm 5=.sl c5 (ts.map Ty.cells)∧σ.tm 7=.int .i64 ((i:Int) - 1 - (j:Int))∧σ.h ⟨gen,1000,0⟩=some (.box (deckC l (A i))) ∧
  σ.h ⟨gen,4,2⟩=some (.box (allF (ts.drop (i - j)) b).cells)∧Agree h σ.h) i ?_ ?_
 ·have e0:allF (ts.drop (i - 0)) b=b:=by rw [Nat.sub_zero,List.drop_of_length_le (by omega)];rfl
  rw [e0]
  simp only [go_sem, *]
 intro j τ hj ⟨i1,i2,i3,i4,id',ib,iA⟩
 refine AR_gen (fun gm hgm=>?_)
 have hgf:=fresh_of hgm
 have hgf0:∀ r i,h ⟨gm,r,i⟩=none:=fun r i=>agree_fresh iA (hgf r i)
 have hg2:gen<gm:=hgm ⟨gen,4,2⟩ (by simp [ib])
 have eg3:=gen_lt hg2
 have eg4:=gen_lt' hg2
 clear hgm jd jb jA j1 j2 j3 jv
 rcases Nat.lt_or_ge j i with hlt|hge2
 ·have hd2:decide ((i:Int) - 1 - (j:Int)≥0)=true:=by simp;omega
  have hw1:IntKind.i64.wrap ((i:Int) - 1 - (j:Int) - 1)=(i:Int) - 1 - ((j+1:Nat):Int):=wrap_eq (by omega) (by omega) (by omega)
  have hi1:Int.toNat ((i:Int) - 1 - (j:Int))=i - 1 - j:=by omega
  have h0i:(0≤(i:Int) - 1 - (j:Int))=True:=by simp;omega
  have ht:=hti (i - 1 - j) (by omega)
  have hst:=allF_step (f:=b) ht
  have e1:i - 1 - j+1=i - j:=by omega
  have e2:i - (j+1)=i - 1 - j:=by omega
  rw [e1] at hst
  rw [e2,← hst]
  generalize PT (A (i - 1 - j))=t at *
  generalize allF (ts.drop (i - j)) b=f at *
  have hcell:[.int .i64 4,.int .i64 t.kind,.sl .any (t.args.map Ty.cells),.sl .any [],.sl .any [f.cells]]=(fmQ 4 t f).cells:=by rw [fmQ,Fm.mk_cells];rfl
  clear hst hti hY hI hTy hSm hDf hlen e1 e2
  repeat' (first
   |(refine ⟨?_,?_⟩;focus ((repeat' (first|refine ⟨?_,?_⟩|refine .inr ?_));all_goals kernel_rfl))
   | (first|refine wp rfl ?_|refine spt rfl ?_|refine spf rfl ?_|(refine spl (fun hc=>?_) fun hc=>?_)<;>(try rw [beq_iff_eq] at hc)<;>try simp only [hc]|(refine gs (fun hb=>?_) fun hb=>?_)<;>try simp only [Bool.not_true,Bool.not_false] at hb)<;>try simp only [go_sem, *])
  refine AR_weakBox ⟨gen,4,2⟩ (by simp only [go_sem, *];rfl) ?_
  refine AR_inv ?_
  simp only [go_sem, *]
  all_goals exact ag_
 obtain rfl:j=i:=by omega
 have hd2:decide ((j:Int) - 1 - (j:Int)≥0)=false:=by simp;omega
 rw [Nat.sub_self,List.drop_zero] at ib
 have hrl:(rowsI L).length=L.length:=rowsI_len
 have nn:((j:Int) != (j:Int))=false:=by simp
 clear hti
 repeat' (first
  |(refine ⟨?_,?_⟩;focus ((repeat' (first|refine ⟨?_,?_⟩|refine .inr ?_));all_goals kernel_rfl))
  | (first|refine wp rfl ?_|refine spt rfl ?_|refine spf rfl ?_|(refine spl (fun hc=>?_) fun hc=>?_)<;>(try rw [beq_iff_eq] at hc)<;>try simp only [hc]|(refine gs (fun hb=>?_) fun hb=>?_)<;>try simp only [Bool.not_true,Bool.not_false] at hb|(refine ct (hY _) ?_ ?_;focus ((simp only [go_sem, *]<;>rfl);done))|refine cp hI ?_)<;>try simp only [go_sem, *])
 refine ar_ [5,8,72] [] (fun i σ=>Agree h σ.h∧True) (L).length ?_ ?_ ?_
 ·simp only [go_sem, *]
  all_goals exact ag_
 ·
  intro i σ gr2 hgl_gr2 hgn hlt jI jN jS ⟨jA,_⟩
  obtain ⟨jT,jB⟩:=jS
  simp only [go_sem] at jT jB
  have hgf:=fresh_of hgn
  have hgf0:=fun r i=>agree_fresh jA (hgf r i)
  have eg_gen_gr2:=gen_lt (show gen<gr2 by omega)
  have eh_gen_gr2:=gen_lt' (show gen<gr2 by omega)
  have eg_gm_gr2:=gen_lt (show gm<gr2 by omega)
  have eh_gm_gr2:=gen_lt' (show gm<gr2 by omega)
  obtain ⟨x,hx,hxm,hm⟩:=rnx hlt
  clear hgn
  have hxl:=hlen x hxm
  have hri:(rowsI L)[i]? = some [.sl .any (x.map PVl.cells)]:=by rw [rowsI,List.getElem?_map,hx];rfl
  clear hY hI
  refine wq_ ?_
  generalize x=xs at *
  generalize i=i0 at *
  refine ar_ [5,8,10,11,72,73,74] [] (fun i σ=>Agree h σ.h∧True) (xs).length ?_ ?_ ?_
  ·simp only [go_sem, *]
   all_goals exact ag_
  ·
   intro i σ gr3 hgl_gr3 hgn hlt jI jN jS ⟨jA,_⟩
   obtain ⟨jT,jB⟩:=jS
   simp only [go_sem] at jT jB
   have hgf:=fresh_of hgn
   have hgf0:=fun r i=>agree_fresh jA (hgf r i)
   have eg_gen_gr3:=gen_lt (show gen<gr3 by omega)
   have eh_gen_gr3:=gen_lt' (show gen<gr3 by omega)
   have eg_gm_gr3:=gen_lt (show gm<gr3 by omega)
   have eh_gm_gr3:=gen_lt' (show gm<gr3 by omega)
   have eg_gr2_gr3:=gen_lt (show gr2<gr3 by omega)
   have eh_gr2_gr3:=gen_lt' (show gr2<gr3 by omega)
   obtain ⟨x,hx,hxm,hm⟩:=rnx hlt
   clear hgn
   obtain ⟨t,ht⟩:∃ t,ts[i]? = some t:=⟨_,List.getElem?_eq_getElem (by omega)⟩
   have h1:=hTy xs (by assumption) i t x ht hx
   have h2:=hSm t (List.mem_of_getElem? ht)
   have hti2:Int.toNat (i:Int)=i:=rfl
   have h0i2:(0≤(i:Int))=True:=by simp
   clear hTy hSm hDf hlen
   first|refine wq_ ?_|exact wk_
   all_goals exact ag_
  ·clear hTy hSm hlen
   intro σ ga3 hgl_ga3 hgn jS ⟨jA,_⟩
   obtain ⟨jT,jB⟩:=jS
   simp only [go_sem] at jT jB
   have hgf:=fresh_of hgn
   have hgf0:=fun r i=>agree_fresh jA (hgf r i)
   have eg_gen_ga3:=gen_lt (show gen<ga3 by omega)
   have eh_gen_ga3:=gen_lt' (show gen<ga3 by omega)
   have eg_gm_ga3:=gen_lt (show gm<ga3 by omega)
   have eh_gm_ga3:=gen_lt' (show gm<ga3 by omega)
   have eg_gr2_ga3:=gen_lt (show gr2<ga3 by omega)
   have eh_gr2_ga3:=gen_lt' (show gr2<ga3 by omega)
   clear hgn
   refine wq_ ?_
   refine AR_loop_nat (fun k σ=>σ.tm 5=.sl c5 (ts.map Ty.cells)∧σ.tm 8=.sl .any (rowsI L)∧σ.tm 72=.sl .any (rowsI L)∧σ.tm 73=.int .i64 L.length∧σ.tm 74=.int .i64 i0∧σ.tm 10=.int .i64 i0 ∧
    σ.tm 11=.sl .any (xs.map PVl.cells)∧σ.tm 15=.int .i64 k∧Agree h σ.h) i0 ?_ ?_
   ·simp only [go_sem, *]
    all_goals rfl
   intro k ρ hk ⟨l1,l2,l3,l4,l5,l6,l7,l8,lA⟩
   refine AR_gen (fun gk hgk=>?_)
   have hgf:=fresh_of hgk
   have hgf0:∀ r i,h ⟨gk,r,i⟩=none:=fun r i=>agree_fresh lA (hgf r i)
   clear hgk
   rcases Nat.lt_or_ge k i0 with hlt3|hge3
   ·have hd3:decide ((k:Int)<(i0:Int))=true:=by simp;omega
    have hw3:IntKind.i64.wrap ((k:Int)+1)=((k+1:Nat):Int):=wrap_eq (by omega) (by omega) (by omega)
    obtain ⟨y,hy⟩:∃ y,L[k]? = some y:=⟨_,List.getElem?_eq_getElem (by omega)⟩
    have hs:=hDf i0 k xs y (by assumption) hy hlt3
    have hri2:(rowsI L)[k]? = some [.sl .any (y.map PVl.cells)]:=by rw [rowsI,List.getElem?_map,hy];rfl
    have hti3:Int.toNat (k:Int)=k:=rfl
    have h0k:(0≤(k:Int))=True:=by simp
    clear hDf
    repeat' (first
     |(refine ⟨?_,?_⟩;focus ((repeat' (first|refine ⟨?_,?_⟩|refine .inr ?_));all_goals kernel_rfl))
     | (first|refine wp rfl ?_|refine spt rfl ?_|refine spf rfl ?_|(refine spl (fun hc=>?_) fun hc=>?_)<;>(try rw [beq_iff_eq] at hc)<;>try simp only [hc]|(refine gs (fun hb=>?_) fun hb=>?_)<;>try simp only [Bool.not_true,Bool.not_false] at hb|refine cp hs ?_|refine AR_inv ?_)<;>try simp only [go_sem, *])
    all_goals exact ag_
   ·obtain rfl:k=i0:=by omega
    have hd3:decide ((k:Int)<(k:Int))=false:=by simp
    clear hDf
    repeat' (first
     |(refine ⟨?_,?_⟩;focus ((repeat' (first|refine ⟨?_,?_⟩|refine .inr ?_));all_goals kernel_rfl))
     | (first|refine wp rfl ?_|refine spt rfl ?_|refine spf rfl ?_|(refine spl (fun hc=>?_) fun hc=>?_)<;>(try rw [beq_iff_eq] at hc)<;>try simp only [hc]|(refine gs (fun hb=>?_) fun hb=>?_)<;>try simp only [Bool.not_true,Bool.not_false] at hb|refine AR_inv ?_)<;>try simp only [go_sem, *])
    all_goals exact ag_
 ·
  intro σ ga2 hgl_ga2 hgn jS ⟨jA,_⟩
  obtain ⟨jT,jB⟩:=jS
  simp only [go_sem] at jT jB
  have hgf:=fresh_of hgn
  have hgf0:=fun r i=>agree_fresh jA (hgf r i)
  have eg_gen_ga2:=gen_lt (show gen<ga2 by omega)
  have eh_gen_ga2:=gen_lt' (show gen<ga2 by omega)
  have eg_gm_ga2:=gen_lt (show gm<ga2 by omega)
  have eh_gm_ga2:=gen_lt' (show gm<ga2 by omega)
  clear hgn
  exact wk_
end Go.Proofs.YtbfilinnoedfeaaGreatDoor
