/-
 Walks: several parts in one text.
-/
import Derived.Test.YtmnplkmphgkooaaGreatDoorTw
import Derived.Test.YtmnplkmphgkooaaGreatDoorMh
import Derived.Test.YtmnplkmphgkooaaGreatDoorAbsDc
import Derived.Test.YtmnplkmphgkooaaGreatDoorMn
set_option linter.unusedSimpArgs false
set_option linter.unusedVariables false
set_option maxRecDepth 20000
set_option maxHeartbeats 4000000
namespace Go.Proofs.YtmnplkmphgkooaaGreatDoor
open Go GoAbs Go.Proofs
theorem c_tPutF1 (a:Int) (s:Tm) (hs:TmW s) (A B:GoAbs.Id) (t:Tm) (ht:TmW t) (b:Int):PureE Tryz.prog env 142 (.agg t.cells::.int .i64 b::[.ptr A 0,.ptr B 0])
  [(A,.box [.int .i64 a]),(B,.box s.cells)] (.agg (tPut t (addW a b) s).cells):=by
 intro h he
 simp only [List.mem_cons,List.not_mem_nil,or_false,forall_eq_or_imp,forall_eq] at he
 obtain ⟨hA,hB⟩:=he
 have hw:IntKind.i64.wrap (a+b)=addW a b:=rfl
 have hc:=c_tPut t ht (addW a b) s hs
 have hin:∀ S,InV S (V.agg (tPut t (addW a b) s).cells):=fun S=>by simp [InV,InL_Tm]
 generalize addW a b=m at *
 generalize tPut t m s=v at *
 clear ht hs
 refine en_ Tryz.func142 [.cell 6 32] fun g0 w0 gen hrel hfr hfr' hres=>?_
 have f5:=fresh_ne hfr hA
 have f6:=fresh_ne hfr hB
 exact wk_
theorem c_treePutFormula (f:Fm) (hf:FmW f) (a:Int) (s:Tm) (hs:TmW s):Pure Tryz.prog env 90 [.agg f.cells,.int .i64 a,.agg s.cells] (.agg (f.rv (fun t b=>tPut t (addW a b) s) 0).cells):=by
 intro h
 refine en_ Tryz.func90 [.cell 6 36] fun g0 w0 gen hrel hfr hfr' hres=>?_
 have hc:=c_RebuildF (fun t b=>tPut t (addW a b) s) 142 [.ptr ⟨gen,0,1⟩ 0,.ptr ⟨gen,0,2⟩ 0] rfl ⟨gen,0,1⟩ ⟨gen,0,2⟩ _ _ (fun x hx b=>c_tPutF1 a s hs _ _ x hx b) f hf 0
 generalize f.rv (fun t b=>tPut t (addW a b) s) 0=v at *
 clear hs
 repeat' (first
  |exact hin _|exact agf (by assumption)
  | (first|refine wp rfl ?_|(refine Call1_pureE (hc) ?_ ?_;(focus ((simp only [go_sem, *]<;>(repeat (first|assumption|rfl|refine And.intro ?_ ?_)));done)))|refine finF hrel ?_ ?_ ?_)<;>try simp only [go_sem, *])
theorem c_CountF1 (a:Int) (A d:GoAbs.Id) (nA:A≠d) (n:Int) (t:Tm) (ht:TmW t) (b:Int) :
  TurnsE Tryz.prog env 139 (.agg t.cells::.int .i64 b::[.ptr d 0,.ptr A 0]) [(A,.box [.int .i64 a])] d (.box [.int .i64 n]) (.tup []) (.box [.int .i64 (addW n (t.count (addW a b)))]):=by
 intro h he hd
 simp only [List.mem_cons,List.not_mem_nil,or_false,forall_eq] at he
 have n3:(A=d)=False:=by simpa using nA
 have hc:=c_tCount t ht (addW a b)
 have hw:IntKind.i64.wrap (a+b)=addW a b:=rfl
 generalize addW a b=m at *
 have hw2:IntKind.i64.wrap (n+t.count m)=addW n (t.count m):=rfl
 generalize t.count m=q at *
 clear ht nA
 refine en_ Tryz.func139 [] fun g0 w0 gen hrel hfr hfr' hres=>?_
 have f1:=fresh_ne hfr hd
 have f2:=fresh_ne' hfr hd
 have f5:=fresh_ne hfr he
 exact wkT_
theorem c_eachN (F:Tm→Int→Int) (kd:Nat) (cap:List V) (hcap:weakL cap=cap) (A d:GoAbs.Id) (oA:GoAbs.Obj) (nA:A≠d)
  (hdo:∀ x:Tm,TmW x→∀ b n:Int,TurnsE Tryz.prog env kd (.agg x.cells::.int .i64 b::cap) [(A,oA)] d (.box [.int .i64 n]) (.tup []) (.box [.int .i64 (addW n (F x b))])) :
  ∀ f:Fm,FmW f→∀ b n:Int,TurnsE Tryz.prog env 135 [.agg f.cells,.int .i64 b,.fn (.func kd) [] cap] [(A,oA)] d (.box [.int .i64 n]) (.tup []) (.box [.int .i64 (f.sm F b n)]):=by
 intro t
 induction t using Fm.ind with|h t ih=>?_
 intro ht b n h he hd
 simp only [List.mem_cons,List.not_mem_nil,or_false,forall_eq] at he
 have hlen:=ht.len
 have hlen2:=ht.tlen
 have ih':∀ x∈t.args,∀ b n:Int,TurnsE Tryz.prog env 135 [.agg x.cells,.int .i64 b,.fn (.func kd) [] cap] [(A,oA)] d (.box [.int .i64 n]) (.tup []) (.box [.int .i64 (x.sm F b n)]):=fun x hx=>ih x hx (ht.arg hx)
 have ht':∀ x∈t.terms,∀ b n:Int,TurnsE Tryz.prog env kd (.agg x.cells::.int .i64 b::cap) [(A,oA)] d (.box [.int .i64 n]) (.tup []) (.box [.int .i64 (addW n (F x b))]):=fun x hx=>hdo x (ht.term hx)
 have hQ:=c_Quantifier t.kind
 rw [Fm.sm_eq]
 unfold evB
 clear ih hdo ht
 have n3:(A=d)=False:=by simpa using nA
 clear nA
 have hw:IntKind.i64.wrap (b+1)=addW b 1:=rfl
 generalize hb1:(if (decide (t.kind≥4)&&decide (t.kind≤7))=true then addW b 1 else b)=b1
 generalize hm:t.args.foldl (fun n x=>x.sm F b1 n) (t.terms.foldl (fun n t=>addW n (F t b)) n)=m
 refine en_ Tryz.func135 [] fun g0 w0 gen hrel hfr hfr' hres=>?_
 have f1:=fresh_ne hfr hd
 have f2:=fresh_ne' hfr hd
 have f5:=fresh_ne hfr he
 refine wq_ ?_
 refine ar_ [1,2,3,11] [⟨gen,0,0⟩] (fun i σ=>AgreeBut d h σ.h∧σ.h d=some (.box [.int .i64 ((t.terms.take i).foldl (fun n t=>addW n (F t b)) n)])) (t.terms).length ?_ ?_ ?_
 ·simp only [go_sem, *]
  exact ⟨by repeat (first|exact AgreeBut.refl _ _|assumption|refine AgreeBut.new ?_ (hfr' _ _)|refine AgreeBut.set ?_),rfl⟩
 ·clear ih' hm
  intro i σ gr0 hgl_gr0 hgn hlt jI jN jS ⟨jA,js⟩
  obtain ⟨jT,jB⟩:=jS
  simp only [go_sem] at jT jB
  have hgf:=fresh_of hgn
  have hgf0:=agreeBut_fresh' hd jA hgf (fun r i e=>by have:=hfr d (by rw [hd];simp);rw [e] at this;simp at this;omega)
  have fd_gr0:=fresh_ne2 hfr hd (show gen<gr0 by omega)
  have fe_gr0:=fresh_ne2' hfr hd (show gen<gr0 by omega)
  have eg_gen_gr0:=gen_lt (show gen<gr0 by omega)
  have eh_gen_gr0:=gen_lt' (show gen<gr0 by omega)
  obtain ⟨x,hx,hxm,hm⟩:=rnx hlt
  clear hgn
  have hc:=ht' x hxm b ((t.terms.take i).foldl (fun n t=>addW n (F t b)) n)
  have hA':=(jA A (by simpa using n3) (by rw [he];simp)).trans he
  have g5:=fresh_ne2 hfr he hgl_gr0
  have hts:=foldl_take_succ (g:=fun n t=>addW n (F t b)) hx n
  generalize (t.terms.take i).foldl (fun n t=>addW n (F t b)) n=w at *
  clear ht' he
  repeat' (first
   | (first|refine wp rfl ?_|refine spt rfl ?_|refine spf rfl ?_|(refine spl (fun hc=>?_) fun hc=>?_)<;>(try rw [beq_iff_eq] at hc)<;>try simp only [hc]|(refine Call1_turnE (hc) ?_ ?_ ?_;(focus ((simp only [go_sem, *]<;>(repeat (first|assumption|rfl|refine And.intro ?_ ?_)));done));(focus ((simp only [go_sem, *]<;>first|rfl|assumption);done)))|refine AR_inv ?_)<;>try simp only [go_sem, *])
  repeat (first|assumption|refine AgreeBut.new ?_ (hgf0 _ _)|refine AgreeBut.set ?_)
 clear ht'
 intro σ ga0 hgl_ga0 hgn jS ⟨jA,js⟩
 obtain ⟨jT,jB⟩:=jS
 simp only [go_sem] at jT jB
 have hgf:=fresh_of hgn
 have hgf0:=agreeBut_fresh' hd jA hgf (fun r i e=>by have:=hfr d (by rw [hd];simp);rw [e] at this;simp at this;omega)
 have fd_ga0:=fresh_ne2 hfr hd (show gen<ga0 by omega)
 have fe_ga0:=fresh_ne2' hfr hd (show gen<ga0 by omega)
 have eg_gen_ga0:=gen_lt (show gen<ga0 by omega)
 have eh_gen_ga0:=gen_lt' (show gen<ga0 by omega)
 clear hgn
 rw [List.take_length] at js
 generalize t.terms.foldl (fun n t=>addW n (F t b)) n=w at *
 cases hq:(decide (t.kind≥4)&&decide (t.kind≤7)) with
 | true =>
  rw [hq] at hQ hb1
  clear hq
  simp only [if_true] at hb1
  refine wq_ ?_
  refine ar_ [1,2,28] [] (fun i σ=>AgreeBut d h σ.h∧σ.h d=some (.box [.int .i64 ((t.args.take i).foldl (fun n x=>x.sm F b1 n) w)])) (t.args).length ?_ ?_ ?_
  ·simp only [go_sem, *]
   first|exact ⟨jA,rfl⟩|exact jA|rfl
  ·clear hm
   intro i σ gr1 hgl_gr1 hgn hlt jI jN jS ⟨jA,js'⟩
   obtain ⟨jT,jB⟩:=jS
   simp only [go_sem] at jT jB
   have hgf:=fresh_of hgn
   have hgf0:=agreeBut_fresh' hd jA hgf (fun r i e=>by have:=hfr d (by rw [hd];simp);rw [e] at this;simp at this;omega)
   have fd_gr1:=fresh_ne2 hfr hd (show gen<gr1 by omega)
   have fe_gr1:=fresh_ne2' hfr hd (show gen<gr1 by omega)
   have eg_gen_gr1:=gen_lt (show gen<gr1 by omega)
   have eh_gen_gr1:=gen_lt' (show gen<gr1 by omega)
   have eg_ga0_gr1:=gen_lt (show ga0<gr1 by omega)
   have eh_ga0_gr1:=gen_lt' (show ga0<gr1 by omega)
   obtain ⟨x,hx,hxm,hm⟩:=rnx hlt
   clear hgn
   have hc:=ih' x hxm b1 ((t.args.take i).foldl (fun n x=>x.sm F b1 n) w)
   have hA':=(jA A (by simpa using n3) (by rw [he];simp)).trans he
   have g5:=fresh_ne2 hfr he (show gen<gr1 by omega)
   have hts:=foldl_take_succ (g:=fun n x=>x.sm F b1 n) hx w
   generalize (t.args.take i).foldl (fun n x=>x.sm F b1 n) w=w' at *
   clear ih' he
   repeat' (first
    | (first|refine wp rfl ?_|refine spt rfl ?_|refine spf rfl ?_|(refine spl (fun hc=>?_) fun hc=>?_)<;>(try rw [beq_iff_eq] at hc)<;>try simp only [hc]|(refine Call1_turnE (hc) ?_ ?_ ?_;(focus ((simp only [go_sem, *]<;>(repeat (first|assumption|rfl|refine And.intro ?_ ?_)));done));(focus ((simp only [go_sem, *]<;>first|rfl|assumption);done)))|refine AR_inv ?_)<;>try simp only [go_sem, *])
   repeat (first|assumption|refine AgreeBut.new ?_ (hgf0 _ _)|refine AgreeBut.set ?_)
  ·
   intro σ ga1 hgl_ga1 hgn jS ⟨jA,js2⟩
   obtain ⟨jT,jB⟩:=jS
   simp only [go_sem] at jT jB
   have hgf:=fresh_of hgn
   have hgf0:=agreeBut_fresh' hd jA hgf (fun r i e=>by have:=hfr d (by rw [hd];simp);rw [e] at this;simp at this;omega)
   have fd_ga1:=fresh_ne2 hfr hd (show gen<ga1 by omega)
   have fe_ga1:=fresh_ne2' hfr hd (show gen<ga1 by omega)
   have eg_gen_ga1:=gen_lt (show gen<ga1 by omega)
   have eh_gen_ga1:=gen_lt' (show gen<ga1 by omega)
   have eg_ga0_ga1:=gen_lt (show ga0<ga1 by omega)
   have eh_ga0_ga1:=gen_lt' (show ga0<ga1 by omega)
   clear hgn
   rw [List.take_length,hm] at js2
   clear ih' hm
   refine wq_ ?_
   refine AR_fin_turn hrel hd (by simp only [go_sem,and_self]) (by simp only [go_sem,and_self]) (by repeat (first|assumption|refine AgreeBut.new ?_ (hfr' _ _))) (by simp only [go_sem, *]) ?_
   simp only [go_sem, *]
 | false =>
  rw [hq] at hQ hb1
  clear hq
  simp only [Bool.false_eq_true,if_false] at hb1
  subst hb1
  refine wq_ ?_
  refine ar_ [1,2,28] [] (fun i σ=>AgreeBut d h σ.h∧σ.h d=some (.box [.int .i64 ((t.args.take i).foldl (fun n x=>x.sm F b n) w)])) (t.args).length ?_ ?_ ?_
  ·simp only [go_sem, *]
   first|exact ⟨jA,rfl⟩|exact jA|rfl
  ·clear hm
   intro i σ gr1 hgl_gr1 hgn hlt jI jN jS ⟨jA,js'⟩
   obtain ⟨jT,jB⟩:=jS
   simp only [go_sem] at jT jB
   have hgf:=fresh_of hgn
   have hgf0:=agreeBut_fresh' hd jA hgf (fun r i e=>by have:=hfr d (by rw [hd];simp);rw [e] at this;simp at this;omega)
   have fd_gr1:=fresh_ne2 hfr hd (show gen<gr1 by omega)
   have fe_gr1:=fresh_ne2' hfr hd (show gen<gr1 by omega)
   have eg_gen_gr1:=gen_lt (show gen<gr1 by omega)
   have eh_gen_gr1:=gen_lt' (show gen<gr1 by omega)
   have eg_ga0_gr1:=gen_lt (show ga0<gr1 by omega)
   have eh_ga0_gr1:=gen_lt' (show ga0<gr1 by omega)
   obtain ⟨x,hx,hxm,hm⟩:=rnx hlt
   clear hgn
   have hc:=ih' x hxm b ((t.args.take i).foldl (fun n x=>x.sm F b n) w)
   have hA':=(jA A (by simpa using n3) (by rw [he];simp)).trans he
   have g5:=fresh_ne2 hfr he (show gen<gr1 by omega)
   have hts:=foldl_take_succ (g:=fun n x=>x.sm F b n) hx w
   generalize (t.args.take i).foldl (fun n x=>x.sm F b n) w=w' at *
   clear ih' he
   repeat' (first
    | (first|refine wp rfl ?_|refine spt rfl ?_|refine spf rfl ?_|(refine spl (fun hc=>?_) fun hc=>?_)<;>(try rw [beq_iff_eq] at hc)<;>try simp only [hc]|(refine Call1_turnE (hc) ?_ ?_ ?_;(focus ((simp only [go_sem, *]<;>(repeat (first|assumption|rfl|refine And.intro ?_ ?_)));done));(focus ((simp only [go_sem, *]<;>first|rfl|assumption);done)))|refine AR_inv ?_)<;>try simp only [go_sem, *])
   repeat (first|assumption|refine AgreeBut.new ?_ (hgf0 _ _)|refine AgreeBut.set ?_)
  ·
   intro σ ga1 hgl_ga1 hgn jS ⟨jA,js2⟩
   obtain ⟨jT,jB⟩:=jS
   simp only [go_sem] at jT jB
   have hgf:=fresh_of hgn
   have hgf0:=agreeBut_fresh' hd jA hgf (fun r i e=>by have:=hfr d (by rw [hd];simp);rw [e] at this;simp at this;omega)
   have fd_ga1:=fresh_ne2 hfr hd (show gen<ga1 by omega)
   have fe_ga1:=fresh_ne2' hfr hd (show gen<ga1 by omega)
   have eg_gen_ga1:=gen_lt (show gen<ga1 by omega)
   have eh_gen_ga1:=gen_lt' (show gen<ga1 by omega)
   have eg_ga0_ga1:=gen_lt (show ga0<ga1 by omega)
   have eh_ga0_ga1:=gen_lt' (show ga0<ga1 by omega)
   clear hgn
   rw [List.take_length,hm] at js2
   clear ih' hm
   refine wq_ ?_
   refine AR_fin_turn hrel hd (by simp only [go_sem,and_self]) (by simp only [go_sem,and_self]) (by repeat (first|assumption|refine AgreeBut.new ?_ (hfr' _ _))) (by simp only [go_sem, *]) ?_
   simp only [go_sem, *]
theorem c_CountFormula (f:Fm) (hf:FmW f) (a:Int):Pure Tryz.prog env 89 [.agg f.cells,.int .i64 a] (.int .i64 (f.sm (fun t b=>t.count (addW a b)) 0 0)):=by
 intro h
 refine en_ Tryz.func89 [.tmp 4] fun g0 w0 gen hrel hfr hfr' hres=>?_
 have nA:(⟨gen,0,1⟩:GoAbs.Id)≠⟨gen,1,0⟩:=by simp
 have hc:=c_eachN (fun t b=>t.count (addW a b)) 139 [.ptr ⟨gen,1,0⟩ 0,.ptr ⟨gen,0,1⟩ 0] rfl ⟨gen,0,1⟩ ⟨gen,1,0⟩ _ nA (fun x hx b n=>c_CountF1 a _ _ nA n x hx b) f hf 0 0
 generalize f.sm (fun t b=>t.count (addW a b)) 0 0=v at *
 clear nA
 repeat' (first
  |exact hin _|exact agf (by assumption)
  | (first|refine wp rfl ?_|(refine Call1_turnE (hc) ?_ ?_ ?_;(focus ((simp only [go_sem, *]<;>(repeat (first|assumption|rfl|refine And.intro ?_ ?_)));done));(focus ((simp only [go_sem, *]<;>first|rfl|assumption);done)))|refine finF hrel ?_ ?_ ?_)<;>try simp only [go_sem, *])
theorem num0_cells:(numT 0).cells=[.int .i64 4,.int .i64 0,.int .i64 0,.sl .any [],.sl .any []]:=by simp [numT,tm0,Tm.mk_cells,Ty.mk_kind,Ty.mk_args]
theorem numS_cells (n:Nat):(numT (n+1)).cells=[.int .i64 5,.int .i64 0,.int .i64 0,.sl .any [],.sl .any [(numT n).cells]]:=by simp [numT,tm0,Tm.mk_cells,Ty.mk_kind,Ty.mk_args]
theorem c_valnumber (n:Nat) (hn:n≤100000):Pure Tryz.prog env 132 [.int .i64 n] (.agg (numT n).cells):=by
 intro h
 have e0:=num0_cells
 have eS:=numS_cells
 refine en_ Tryz.func132 [.cell 2 32] fun g0 w0 gen hrel hfr hfr' hres=>?_
 refine wq_ ?_
 refine AR_weakBox ⟨gen,1,1⟩ (by simp only [go_sem, *]<;>rfl) ?_
 simp only [go_sem, *]
 refine AR_loop_nat (fun i σ=>σ.tm 4=.int .i64 ((n:Int) - i)∧σ.tm 2=.ptr ⟨gen,0,0⟩ 0∧σ.tm 3=.ptr ⟨gen,1,1⟩ 0∧i≤n ∧
  σ.h ⟨gen,1,1⟩=some (.box (numT i).cells)∧σ.h ⟨gen,0,0⟩=some (.box [.int .i64 0,.int .i64 0,.int .i64 0,.sl .full [],.sl .full []])∧Agree h σ.h) n ?_ ?_
 ·rw [e0]
  clear e0 eS
  simp only [go_sem, *]
  exact ⟨by simp,by omega,ag_⟩
 intro i σ hi ⟨j4,j2,j3,ji,jb,jb0,jA⟩
 refine AR_gen2 (fun gn hgl hgn=>?_)
 have hgf:=fresh_of hgn
 have hgf0:=fun r i=>agree_fresh jA (hgf r i)
 clear hgn e0
 rcases Nat.lt_or_ge i n with hlt|hge
 ·have hd:decide ((n:Int) - (i:Int)>0)=true:=by simp;omega
  have hw1:IntKind.i64.wrap ((n:Int) - (i:Int) - 1)=(n:Int) - (i:Int) - 1:=wrap_eq rfl (by omega) (by omega)
  have e5:(n:Int) - ((i+1:Nat):Int)=(n:Int) - (i:Int) - 1:=by omega
  have e6:i+1≤n:=by omega
  rw [eS]
  clear eS hi ji
  generalize numT i=t at *
  repeat' (first
   | (first|refine wp rfl ?_|refine spt rfl ?_|refine spf rfl ?_|(refine spl (fun hc=>?_) fun hc=>?_)<;>(try rw [beq_iff_eq] at hc)<;>try simp only [hc])<;>try simp only [go_sem, *])
  refine AR_weakBox ⟨gen,1,1⟩ (by simp only [go_sem, *]<;>rfl) ?_
  refine AR_inv ?_
  simp only [go_sem, *]
  exact ag_
 ·have hd:decide ((n:Int) - (i:Int)>0)=false:=by simp;omega
  obtain rfl:i=n:=by omega
  clear eS hge hi
  generalize numT i=t at *
  exact wk_
theorem c_valNumber (n:Nat) (hn:n<4096):Pure Tryz.prog env 230 [.int .i64 n] (.tup [.agg (numT n).cells,.int .i64 0]):=by
 intro h
 have hc:=c_valnumber n (by omega)
 have d1:decide ((n:Int)<0)=false:=by simp
 have d2:decide ((n:Int)≥4096)=false:=by simp;omega
 clear hn
 generalize numT n=t at *
 exact ek_ Tryz.func230 [.cell 2 32,.tmp 3]
theorem c_formulaSize (f:Fm) (hf:FmW f) (gf:FmG true f) (zf:fmSz f≤4096):Pure Tryz.prog env 84 [.agg f.cells] (.tup [.int .i64 (fmSz f),.int .i64 0]):=by
 intro h
 have hc:=c_CheckFormula f hf
 rw [gf.nodes_val (by omega),chk,if_neg (by omega)] at hc
 unfold two at hc
 clear gf zf hf
 generalize fmSz f=n at *
 exact ek_ Tryz.func84 [.tmp 2,.tmp 3]
theorem c_termsSize (t:Tm) (ht:TmW t) (gt:TmG t) (zt:tmSz t≤4096):Pure Tryz.prog env 86 [.agg t.cells] (.tup [.int .i64 (tmSz t),.int .i64 0]):=by
 intro h
 have hc:=c_CheckTerm t ht
 rw [gt.nodes_val (by omega),chk,if_neg (by omega)] at hc
 unfold two at hc
 clear gt zt ht
 generalize tmSz t=n at *
 exact ek_ Tryz.func86 [.tmp 2,.tmp 3]
theorem c_formulaPut (f:Fm) (hf:FmW f) (gf:FmG true f) (zf:fmSz f≤4096) (lf:f.least 536870912=true) (s:Tm) (hs:TmW s) (gs:TmG s) (zs:tmSz s≤4096) (ls:s.least 536870912=true) :
  Pure Tryz.prog env 39 [.agg f.cells,.int .i64 0,.agg s.cells] (fmErrV (putR f s)):=by
 intro h
 have h1:=c_formulaSize f hf gf zf
 have h2:=c_fwithin 0
 rw [show (decide ((0:Int)≥0)&&decide ((0:Int)≤4096))=true from rfl] at h2
 have h3:=c_termsSize s hs gs zs
 have h4:=c_NearFormula f hf lf
 have h5:=c_Near s hs
 rw [near_ok ls] at h5
 have h6:=c_CountFormula f hf 0
 have so:=sm_occ gf (by omega) lf 0 0 (by omega) (by omega) (by omega)
 rw [show ((0:Nat):Int)=0 from rfl,Nat.zero_add] at so
 rw [so] at h6
 have h7:=c_treePutFormula f hf 0 s hs
 rw [rv_put gs (by omega) ls gf (by omega) lf 0 (by omega) (by omega)] at h7
 have hsp:=tmSz_pos s
 have ho:=fmOcc_le f 0
 have hm:fmOcc f 0 * (tmSz s - 1)≤4096 * 4096:=Nat.mul_le_mul (by omega) (by omega)
 have w1:IntKind.i64.wrap ((tmSz s:Int) - 1)=((tmSz s - 1:Nat):Int):=wrap_eq (by omega) (by omega) (by omega)
 have w2:IntKind.i64.wrap ((fmOcc f 0:Int) * ((tmSz s - 1:Nat):Int))=((fmOcc f 0 * (tmSz s - 1):Nat):Int):=wrap_eq (by push_cast;rfl) (by omega) (by omega)
 have w3:IntKind.i64.wrap ((fmSz f:Int)+((fmOcc f 0 * (tmSz s - 1):Nat):Int))=((fmSz f+fmOcc f 0 * (tmSz s - 1):Nat):Int):=wrap_eq (by push_cast;rfl) (by omega) (by omega)
 have n0:((0:Int) != 0)=false:=rfl
 unfold putR
 by_cases hle:fmSz f+fmOcc f 0 * (tmSz s - 1)≤4096
 ·have hd:decide (((fmSz f+fmOcc f 0 * (tmSz s - 1):Nat):Int)>4096)=false:=by simp only [decide_eq_false_iff_not];omega
  rw [if_pos hle]
  clear hle hm ho hsp zs zf gf gs lf ls hf hs so
  generalize fmSz f+fmOcc f 0 * (tmSz s - 1)=a3 at *
  generalize fmOcc f 0 * (tmSz s - 1)=a2 at *
  generalize tmSz s - 1=a1 at *
  generalize fmInn s 0 f 0=v at *
  exact ek_ Tryz.func39 [.cell 6 36,.tmp 7]
 ·have hd:decide (((fmSz f+fmOcc f 0 * (tmSz s - 1):Nat):Int)>4096)=true:=by simp only [decide_eq_true_eq];omega
  rw [if_neg hle]
  have zc:zeroF.cells=[.int .i64 0,.int .i64 0,.sl .any [],.sl .any [],.sl .any []]:=by simp [zeroF,Fm.mk_cells,Ty.mk_kind,Ty.mk_args]
  clear hle hm ho hsp zs zf gf gs lf ls hf hs so
  generalize fmSz f+fmOcc f 0 * (tmSz s - 1)=a3 at *
  generalize fmOcc f 0 * (tmSz s - 1)=a2 at *
  generalize tmSz s - 1=a1 at *
  generalize fmInn s 0 f 0=v at *
  exact ek_ Tryz.func39 [.cell 6 36,.tmp 7]
theorem c_clsBound2 (all:Bool) (q:Tm) (wq:TmW q) (hc:q.count 0=0) (f:Fm) (hf:FmW f) (hb:FmW (bndF all q f)) (he:fmErr (bndF all q f)=0) :
  Pure Tryz.prog env 112 [.agg (bndF all q f).cells] (.tup [.bool all,.agg (tPut q 0 zeroT).cells,.agg f.cells,.bool true]):=by
 intro h
 have h1:=c_fmCheck _ hb
 rw [he] at h1
 have he':(fmErr (bndF all q f) != 0)=false:=by rw [he];rfl
 have h2:=c_bound _ hb (Fm.ok_good he') (by cases all<;>simp [bndF,fmQ,Fm.kind])
 have e1:bndTerm (bndF all q f)=q:=rfl
 have e2:bndBody (bndF all q f)=f:=rfl
 have e3:((bndF all q f).kind==4)=all:=by cases all<;>rfl
 unfold boundV at h2
 rw [if_pos (bndF_bnd hc),e1,e2,e3] at h2
 have h3:=c_tPut q wq 0 zeroT zeroT_W
 rw [zeroT_cells] at h3
 have h4:=c_OwnFormula f hf
 have n0:((0:Int) != 0)=false:=rfl
 clear he he' e1 e2 e3 hc hb wq hf
 generalize bndF all q f=z at *
 generalize tPut q 0 zeroT=t at *
 exact ek_ Tryz.func112 [.tmp 2,.cell 3 32,.cell 4 36,.tmp 5]
end Go.Proofs.YtmnplkmphgkooaaGreatDoor
