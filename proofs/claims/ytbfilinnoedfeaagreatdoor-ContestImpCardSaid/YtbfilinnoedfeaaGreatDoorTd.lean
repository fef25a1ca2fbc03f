/-
 Walks: several parts in one text.
-/
import Derived.Test.YtbfilinnoedfeaaGreatDoorMb
import Derived.Test.YtbfilinnoedfeaaGreatDoorMa
import Derived.Test.YtbfilinnoedfeaaGreatDoorAbsC
set_option linter.unusedSimpArgs false
set_option linter.unusedVariables false
set_option maxRecDepth 20000
set_option maxHeartbeats 4000000
namespace Go.Proofs.YtbfilinnoedfeaaGreatDoor
open Go GoAbs Go.Proofs
theorem c_uniform:∀ t:Fm,FmW t→Pure Tryz.prog env 192 [.agg t.cells] (.bool t.uni):=by
 intro t
 induction t using Fm.ind with|h t ih=>?_
 intro ht h
 have hlen:=ht.len
 have ih':∀ x∈t.args,Pure Tryz.prog env 192 [.agg x.cells] (.bool x.uni):=fun x hx=>ih x hx (ht.arg hx)
 clear ih
 generalize hv:t.uni=v
 cases hk:(t.kind==6||t.kind==7) with
 | true =>
  have hv':true=v:=by rw [← hv,Fm.uni_eq,hk];rfl
  subst hv'
  clear ih' hv
  refine en Tryz.func192 [.tmp 2] rfl rfl fun g0 w0 gen hrel hfr hfr' hres=>?_
  repeat' (first
   |exact hin _|exact agf (by assumption)
   | (first|refine wp rfl ?_|refine spt rfl ?_|refine spf rfl ?_|(refine spl (fun hc=>?_) fun hc=>?_)<;>(try rw [beq_iff_eq] at hc)<;>try simp only [hc]|(refine gs (fun hb=>?_) fun hb=>?_)<;>try simp only [Bool.not_true,Bool.not_false] at hb|refine finF hrel ?_ ?_ ?_)<;>try simp only [go_sem, *])
  all_goals (exfalso;simp_all;done)
 | false =>
 have hv':Fm.uniL t.args=v:=by rw [← hv,Fm.uni_eq,hk];rfl
 have hk6:(t.kind==6)=false:=by cases h6:(t.kind==6)<;>simp_all
 have hk7:(t.kind==7)=false:=by cases h6:(t.kind==7)<;>simp_all
 clear hv hk
 refine en Tryz.func192 [.tmp 2] rfl rfl fun g0 w0 gen hrel hfr hfr' hres=>?_
 repeat' (first
  |exact hin _|exact agf (by assumption)
  | (first|refine wp rfl ?_|refine spt rfl ?_|refine spf rfl ?_|(refine spl (fun hc=>?_) fun hc=>?_)<;>(try rw [beq_iff_eq] at hc)<;>try simp only [hc]|(refine gs (fun hb=>?_) fun hb=>?_)<;>try simp only [Bool.not_true,Bool.not_false] at hb|refine finF hrel ?_ ?_ ?_)<;>try simp only [go_sem, *])
 refine AR_loop_nat (fun i σ=>σ.tm 16=.int .i64 i∧σ.tm 15=.int .i64 t.args.length∧σ.tm 14=.sl .any (t.args.map Fm.cells) ∧
  σ.h ⟨gen,0,0⟩=some (.box t.cells)∧Agree h σ.h∧Fm.uniL (t.args.drop i)=v) t.args.length ?_ ?_
 ·simp only [go_sem, *]
  exact ⟨rfl,by repeat (first|exact Agree.refl _|assumption|refine Agree.new ?_ (hfr' _ _))⟩
 clear hv' hk6 hk7
 intro i σ hi ⟨j1,j2,j3,j4,j5,j7⟩
 refine AR_gen (fun gn hgn=>?_)
 have hgf:=fresh_of hgn
 have hgf0:∀ r i,h ⟨gn,r,i⟩=none:=fun r i=>agree_fresh j5 (hgf r i)
 have e1:=gen_ne hgn j4
 have e2:=gen_ne' hgn j4
 have hw:=wrap_succ (i:=i) (by omega)
 clear hgn
 rcases Nat.lt_or_ge i t.args.length with hlt|hge
 ·have hd:=lt_true hlt
  obtain ⟨x,hx⟩:∃ x,t.args[i]? = some x:=⟨_,List.getElem?_eq_getElem hlt⟩
  rw [drop_get hx,Fm.uniL_cons] at j7
  have hc:=ih' x (List.mem_of_getElem? hx)
  clear ih'
  cases hn:x.uni with
  | true =>
   rw [hn] at hc
   rw [hn,Bool.true_or] at j7
   subst j7
   repeat' (first
    |exact hin _|exact agf (by assumption)
    | (first|refine wp rfl ?_|refine spt rfl ?_|refine spf rfl ?_|(refine spl (fun hc=>?_) fun hc=>?_)<;>(try rw [beq_iff_eq] at hc)<;>try simp only [hc]|(refine gs (fun hb=>?_) fun hb=>?_)<;>try simp only [Bool.not_true,Bool.not_false] at hb|refine cp hc ?_|refine finF hrel ?_ ?_ ?_)<;>try simp only [go_sem, *])
  | false =>
   rw [hn] at hc
   rw [hn,Bool.false_or] at j7
   repeat' (first
    |exact hin _|exact agf (by assumption)
    | (first|refine wp rfl ?_|refine spt rfl ?_|refine spf rfl ?_|(refine spl (fun hc=>?_) fun hc=>?_)<;>(try rw [beq_iff_eq] at hc)<;>try simp only [hc]|(refine gs (fun hb=>?_) fun hb=>?_)<;>try simp only [Bool.not_true,Bool.not_false] at hb|refine AR_inv ?_|refine cp hc ?_|refine finF hrel ?_ ?_ ?_)<;>try simp only [go_sem, *])
   repeat (first|assumption|refine Agree.new ?_ (hgf0 _ _))
 ·have hd:=lt_false hge
  obtain rfl:i=t.args.length:=by omega
  rw [List.drop_length,Fm.uniL_nil] at j7
  subst j7
  clear ih'
  repeat' (first
   |exact hin _|exact agf (by assumption)
   | (first|refine wp rfl ?_|refine spt rfl ?_|refine spf rfl ?_|(refine spl (fun hc=>?_) fun hc=>?_)<;>(try rw [beq_iff_eq] at hc)<;>try simp only [hc]|(refine gs (fun hb=>?_) fun hb=>?_)<;>try simp only [Bool.not_true,Bool.not_false] at hb|refine finF hrel ?_ ?_ ?_)<;>try simp only [go_sem, *])
theorem c_sized (a b:Ty) (ha:TyW a) (hb:TyW b):Pure Tryz.prog env 247 [.agg (bothC a b)] (bothV (sized a b)):=by
 intro h
 have h1:=c_typesCheck a ha
 have h2:=c_typesCheck b hb
 have hin:∀ S,InV S (bothV (sized a b)):=fun S=>by simp [bothV,InV,InL,bothC_in]
 generalize hv:bothV (sized a b)=v at hin ⊢
 refine en Tryz.func247 [.cell 2 160,.tmp 3] rfl rfl fun g0 w0 gen hrel hfr hfr' hres=>?_
 repeat' (first
  |exact hin _|exact agf (by assumption)
  | (first|refine wp rfl ?_|refine spt rfl ?_|refine spf rfl ?_|(refine spl (fun hc=>?_) fun hc=>?_)<;>(try rw [beq_iff_eq] at hc)<;>try simp only [hc]|refine finF hrel ?_ ?_ ?_)<;>try simp only [go_sem, *])
 rw [Ty.cells_eq] at h1 h2
 refine AR_loop_nat (fun i σ=>σ.tm 12=.int .i64 i∧σ.tm 11=.agg (bothC a b)∧σ.tm 1=.ptr ⟨gen,0,0⟩ 0∧σ.tm 2=.ptr ⟨gen,0,1⟩ 0 ∧
  σ.h ⟨gen,0,0⟩=some (.box (bothC a b))∧σ.h ⟨gen,0,1⟩=some (.box [.int .i64 0,.sl .full [],.int .i64 0,.sl .full []])∧Agree h σ.h∧(1≤i→tyErr a=0)∧(2≤i→tyErr b=0)) 2 ?_ ?_
 ·simp only [go_sem, *]
  first|exact ⟨rfl,rfl,by repeat (first|exact Agree.refl _|assumption|refine Agree.new ?_ (hfr' _ _))⟩|(refine ⟨rfl,rfl,?_,by intro q;simp at q,by intro q;simp at q⟩;repeat (first|exact Agree.refl _|assumption|refine Agree.new ?_ (hfr' _ _)))|trace_state
 intro i σ hi ⟨j1,j2,j3,j4,j5,j6,j8,j9,j10⟩
 rw [bothC] at j2
 refine AR_gen (fun gn hgn=>?_)
 have hgf:=fresh_of hgn
 have hgf0:∀ r i,h ⟨gn,r,i⟩=none:=fun r i=>agree_fresh j8 (hgf r i)
 have e1:=gen_ne hgn j5
 have e2:=gen_ne' hgn j5
 clear hgn
 have h02:(0:Int)<((2:Nat):Int):=by decide
 have h12:(1:Int)<((2:Nat):Int):=by decide
 have hd0:decide ((0:Int)<2)=true:=rfl
 have hd1:decide ((1:Int)<2)=true:=rfl
 have hd2:decide ((2:Int)<2)=false:=rfl
 obtain rfl|rfl|rfl:i=0∨i=1∨i=2:=by omega
 ·replace j1:σ.tm 12=.int .i64 0:=j1
  clear h2 j9 j10 hi
  cases he:(tyErr a != 0) with
  | true =>
   repeat' (first
    |exact hin _|exact agf (by assumption)
    | (first|refine wp rfl ?_|refine spt rfl ?_|refine spf rfl ?_|(refine spl (fun hc=>?_) fun hc=>?_)<;>(try rw [beq_iff_eq] at hc)<;>try simp only [hc]|refine cp h1 ?_|refine finF hrel ?_ ?_ ?_)<;>try simp only [go_sem, *])
   all_goals (clear h1;rw [← hv];have he':tyErr a≠0:=(by simpa using he);simp [bothV,sized,he',tZero,bothC,Ty.mk_kind,Ty.mk_args])
  | false =>
   have he':tyErr a=0:=by simpa using he
   clear he
   have hee:((0:Int) != 0)=false:=rfl
   repeat' (first
    | (first|refine wp rfl ?_|refine spt rfl ?_|refine spf rfl ?_|(refine spl (fun hc=>?_) fun hc=>?_)<;>(try rw [beq_iff_eq] at hc)<;>try simp only [hc]|refine cp h1 ?_)<;>try simp only [go_sem, *])
   refine AR_inv ?_
   simp only [go_sem, *]
   first|exact ⟨rfl,rfl,by repeat (first|assumption|refine Agree.new ?_ (hgf0 _ _))⟩|(refine ⟨rfl,rfl,?_,?_⟩;(repeat (first|assumption|refine Agree.new ?_ (hgf0 _ _)));intro q;first|assumption|simp at q)|trace_state
 ·replace j1:σ.tm 12=.int .i64 1:=j1
  have ha':=j9 (by omega)
  clear h1 j9 j10 hi
  cases he:(tyErr b != 0) with
  | true =>
   repeat' (first
    |exact hin _|exact agf (by assumption)
    | (first|refine wp rfl ?_|refine spt rfl ?_|refine spf rfl ?_|(refine spl (fun hc=>?_) fun hc=>?_)<;>(try rw [beq_iff_eq] at hc)<;>try simp only [hc]|refine cp h2 ?_|refine finF hrel ?_ ?_ ?_)<;>try simp only [go_sem, *])
   all_goals (clear h2;rw [← hv];have he':tyErr b≠0:=(by simpa using he);simp [bothV,sized,he',ha',tZero,bothC,Ty.mk_kind,Ty.mk_args])
  | false =>
   have he':tyErr b=0:=by simpa using he
   clear he
   have hee:((0:Int) != 0)=false:=rfl
   repeat' (first
    | (first|refine wp rfl ?_|refine spt rfl ?_|refine spf rfl ?_|(refine spl (fun hc=>?_) fun hc=>?_)<;>(try rw [beq_iff_eq] at hc)<;>try simp only [hc]|refine cp h2 ?_)<;>try simp only [go_sem, *])
   refine AR_inv ?_
   simp only [go_sem, *]
   first|exact ⟨rfl,rfl,by repeat (first|assumption|refine Agree.new ?_ (hgf0 _ _))⟩|(refine ⟨rfl,rfl,?_,?_⟩;(repeat (first|assumption|refine Agree.new ?_ (hgf0 _ _)));intro q;first|assumption|simp at q)|trace_state
 ·replace j1:σ.tm 12=.int .i64 2:=j1
  have ha':=j9 (by omega)
  have hb':=j10 (by omega)
  clear h1 h2 j9 j10 hi
  repeat' (first
   |exact hin _|exact agf (by assumption)
   | (first|refine wp rfl ?_|refine spt rfl ?_|refine spf rfl ?_|(refine spl (fun hc=>?_) fun hc=>?_)<;>(try rw [beq_iff_eq] at hc)<;>try simp only [hc]|refine finF hrel ?_ ?_ ?_)<;>try simp only [go_sem, *])
  all_goals (rw [← hv];simp [bothV,sized,ha',hb',bothC])
theorem c_of:∀ t:Fm,FmW t→t.nodes≠none→Pure Tryz.prog env 193 [.agg t.cells] (bothV t.ch):=by
 intro t
 induction t using Fm.ind with|h t ih=>?_
 intro ht hn h
 have hlen:=ht.len
 have hfd:=formed_len (Fm.nodes_formed hn)
 have ih':∀ x∈t.args,Pure Tryz.prog env 193 [.agg x.cells] (.tup [.agg (bothC x.ch.1.1 x.ch.1.2),.int .i64 x.ch.2]):=fun x hx=>ih x hx (ht.arg hx) (Fm.nodes_arg hn hx)
 clear ih hn
 have hin:∀ S,InV S (bothV t.ch):=fun S=>by simp [bothV,InV,InL,bothC_in]
 have hv:bothV (Fm.chL t.kind t.type [] t.args)=bothV t.ch:=by rw [Fm.ch_eq]
 generalize bothV t.ch=v at hv hin ⊢
 refine en Tryz.func193 [.cell 2 160,.tmp 3] rfl rfl fun g0 w0 gen hrel hfr hfr' hres=>?_
 repeat' (first
  |(refine ⟨?_,?_⟩;focus ((repeat' (first|refine ⟨?_,?_⟩|refine .inr ?_));all_goals kernel_rfl))
  |exact hin _|exact agf (by assumption)
  | (first|refine wp rfl ?_|refine spt rfl ?_|refine spf rfl ?_|(refine spl (fun hc=>?_) fun hc=>?_)<;>(try rw [beq_iff_eq] at hc)<;>try simp only [hc]|refine finF hrel ?_ ?_ ?_)<;>try simp only [go_sem, *])
 refine AR_range [1,2,13] [⟨gen,0,0⟩,⟨gen,0,1⟩] (fun i σ=>Agree h σ.h∧∃ ps:List (Ty × Ty),ps.length=i∧(∀ p∈ps,TyW p.1∧TyW p.2)∧OwnS h σ.h (σ.tm 4) 4 (ps.map bothP)∧bothV (Fm.chL t.kind t.type ps (t.args.drop i))=v) (t.args).length (by first|omega|(simp only [go_sem, *]<;>omega)) ⟨rfl,rfl,rfl⟩ rfl (by simp only [go_sem, *]) (by simp only [go_sem, *]) ?_ (by intro i σ t v ht hK;simp only [List.mem_cons,List.not_mem_nil,or_false] at ht;rcases ht with rfl|rfl|rfl<;>exact hK) ?_ ?_
 ·simp only [go_sem, *]
  exact ⟨by repeat (first|exact Agree.refl _|refine Agree.new ?_ (hfr' _ _)),[],rfl,by simp,.inl rfl,hv⟩
 ·clear hv
  intro i σ gr0 hgl_gr0 hgn hlt jI jN jS ⟨jA,ps,jl,jw,jO0,jv⟩
  obtain ⟨jT,jB⟩:=jS
  simp only [go_sem] at jT jB
  have hgf:=fresh_of hgn
  have hgf0:=fun r i=>agree_fresh jA (hgf r i)
  have eg_gen_gr0:=gen_lt (show gen<gr0 by omega)
  have eh_gen_gr0:=gen_lt' (show gen<gr0 by omega)
  obtain ⟨x,hx⟩:∃ x,(t.args)[i]? = some x:=⟨_,List.getElem?_eq_getElem hlt⟩
  have hxm:=List.mem_of_getElem? hx
  have hm:=min_lt hlt
  clear hgn
  rw [drop_get hx,Fm.chL_cons] at jv
  have hc:=ih' x hxm
  have hxw:=Fm.ch_W x (ht.arg hxm)
  have b1:ps.length≤100000:=by omega
  cases he:(x.ch.2 != 0) with
  | true =>
   have he':(x.ch.2==0)=false:=by simpa [bne] using he
   rw [he'] at jv
   clear ih' hfd
   repeat' (first
    |(refine ⟨?_,?_⟩;focus ((repeat' (first|refine ⟨?_,?_⟩|refine .inr ?_));all_goals kernel_rfl))
    |exact hin _|exact agf (by assumption)
    | (first|refine wp rfl ?_|refine spt rfl ?_|refine spf rfl ?_|(refine spl (fun hc=>?_) fun hc=>?_)<;>(try rw [beq_iff_eq] at hc)<;>try simp only [hc]|refine cp hc ?_|refine finF hrel ?_ ?_ ?_)<;>try simp only [go_sem, *])
   rw [← jv];simp [bothV,bothC,tZero,Ty.mk_kind,Ty.mk_args]
  | false =>
   have he':(x.ch.2==0)=true:=by simpa [bne] using he
   rw [he'] at jv
   simp only [if_true] at jv
   clear ih' hfd
   repeat' (first
    |(refine ⟨?_,?_⟩;focus ((repeat' (first|refine ⟨?_,?_⟩|refine .inr ?_));all_goals kernel_rfl))
    |(refine okE_app_own jO0 (by repeat (first|exact Keeps.refl _|refine Keeps.new ?_ (hgf _ _)|refine Keeps.new ?_ (hfr' _ _)|refine Keeps.box ?_ rfl|refine Keeps.box ?_ (by simp only [go_sem, *]))) rfl (by simp only [go_sem, *]<;>omega) (by first|exact hgf0 _ _|exact hfr' _ _) (by simp only [go_sem, *]) (by intro hd;cases hd) ?_;intro v' h' log' jO jK jAg jAb jF;simp only [go_sem, *])
    | (first|refine wp rfl ?_|refine spt rfl ?_|refine spf rfl ?_|(refine spl (fun hc=>?_) fun hc=>?_)<;>(try rw [beq_iff_eq] at hc)<;>try simp only [hc]|refine cp hc ?_|refine AR_inv ?_)<;>try simp only [go_sem, *])
   refine ⟨jAg (by repeat (first|assumption|refine Agree.new ?_ (hgf0 _ _))),ps++[x.ch.1],by simp [jl],?_,by rw [List.map_append];exact jO,jv⟩
   intro p hp
   rcases List.mem_append.1 hp with hp|hp
   ·exact jw p hp
   ·simp at hp;subst hp;exact hxw
 ·clear hv
  intro σ ga0 hgl_ga0 hgn jS ⟨jA,ps,jl,jw,jO0,jv⟩
  obtain ⟨jT,jB⟩:=jS
  simp only [go_sem] at jT jB
  have hgf:=fresh_of hgn
  have hgf0:=fun r i=>agree_fresh jA (hgf r i)
  have eg_gen_ga0:=gen_lt (show gen<ga0 by omega)
  have eh_gen_ga0:=gen_lt' (show gen<ga0 by omega)
  clear hgn
  rw [List.drop_length,Fm.chL_nil] at jv
  obtain ⟨c,jO⟩:=jO0.val
  have hsz:=c_sized
  unfold bothV at hsz
  rcases kinds5 t.kind with hk|hk|hk|hk|⟨hk2,hk3,hk4,hk5⟩
  ·
   simp only [hk,Int.reduceBEq,Bool.true_or,Bool.or_true,true_implies] at hfd
   obtain ⟨p,q,rfl⟩:=lst2 (show ps.length=2 by omega)
   simp only [hk,chCase,List.getD_cons_zero,List.getD_cons_succ,Int.reduceBEq,if_true,Bool.false_eq_true,if_false,bothV] at jv
   obtain ⟨hp1,hp2⟩:=jw p (by simp)
   obtain ⟨hq1,hq2⟩:=jw q (by simp)
   have htt:=ht.ty
   clear jw hfd ih'
   subst jv
   repeat' (first
    |(refine ⟨?_,?_⟩;focus ((repeat' (first|refine ⟨?_,?_⟩|refine .inr ?_));all_goals kernel_rfl))
    |exact hin _|exact agf (by assumption)
    | (first|refine wp rfl ?_|refine spt rfl ?_|refine spf rfl ?_|(refine spl (fun hc=>?_) fun hc=>?_)<;>(try rw [beq_iff_eq] at hc)<;>try simp only [hc]|refine cp c_chNone ?_|refine cp (c_chPair _ _) ?_|refine cp (c_chFun _ _) ?_|refine cp (hsz _ _ (by repeat (first|assumption|exact tUnit_W|refine chPair_W ?_ ?_|refine chFun_W ?_ ?_)) (by repeat (first|assumption|exact tUnit_W|refine chPair_W ?_ ?_|refine chFun_W ?_ ?_))) ?_|refine finF hrel ?_ ?_ ?_)<;>try simp only [go_sem, *])
  ·
   simp only [hk,Int.reduceBEq,Bool.true_or,Bool.or_true,true_implies] at hfd
   obtain ⟨p,q,rfl⟩:=lst2 (show ps.length=2 by omega)
   simp only [hk,chCase,List.getD_cons_zero,List.getD_cons_succ,Int.reduceBEq,if_true,Bool.false_eq_true,if_false,bothV] at jv
   obtain ⟨hp1,hp2⟩:=jw p (by simp)
   obtain ⟨hq1,hq2⟩:=jw q (by simp)
   have htt:=ht.ty
   clear jw hfd ih'
   subst jv
   repeat' (first
    |(refine ⟨?_,?_⟩;focus ((repeat' (first|refine ⟨?_,?_⟩|refine .inr ?_));all_goals kernel_rfl))
    |exact hin _|exact agf (by assumption)
    | (first|refine wp rfl ?_|refine spt rfl ?_|refine spf rfl ?_|(refine spl (fun hc=>?_) fun hc=>?_)<;>(try rw [beq_iff_eq] at hc)<;>try simp only [hc]|refine cp c_chNone ?_|refine cp (c_chPair _ _) ?_|refine cp (c_chFun _ _) ?_|refine cp (hsz _ _ (by repeat (first|assumption|exact tUnit_W|refine chPair_W ?_ ?_|refine chFun_W ?_ ?_)) (by repeat (first|assumption|exact tUnit_W|refine chPair_W ?_ ?_|refine chFun_W ?_ ?_))) ?_|refine finF hrel ?_ ?_ ?_)<;>try simp only [go_sem, *])
  ·
   simp only [hk,Int.reduceBEq,Bool.true_or,Bool.or_true,true_implies] at hfd
   obtain ⟨p,rfl⟩:=lst1 (show ps.length=1 by omega)
   simp only [hk,chCase,List.getD_cons_zero,List.getD_cons_succ,Int.reduceBEq,if_true,Bool.false_eq_true,if_false,bothV] at jv
   obtain ⟨hp1,hp2⟩:=jw p (by simp)
   have htt:=ht.ty
   clear jw hfd ih'
   subst jv
   repeat' (first
    |(refine ⟨?_,?_⟩;focus ((repeat' (first|refine ⟨?_,?_⟩|refine .inr ?_));all_goals kernel_rfl))
    |exact hin _|exact agf (by assumption)
    | (first|refine wp rfl ?_|refine spt rfl ?_|refine spf rfl ?_|(refine spl (fun hc=>?_) fun hc=>?_)<;>(try rw [beq_iff_eq] at hc)<;>try simp only [hc]|refine cp c_chNone ?_|refine cp (c_chPair _ _) ?_|refine cp (c_chFun _ _) ?_|refine cp (hsz _ _ (by repeat (first|assumption|exact tUnit_W|refine chPair_W ?_ ?_|refine chFun_W ?_ ?_)) (by repeat (first|assumption|exact tUnit_W|refine chPair_W ?_ ?_|refine chFun_W ?_ ?_))) ?_|refine finF hrel ?_ ?_ ?_)<;>try simp only [go_sem, *])
  ·
   simp only [hk,Int.reduceBEq,Bool.true_or,Bool.or_true,true_implies] at hfd
   obtain ⟨p,rfl⟩:=lst1 (show ps.length=1 by omega)
   simp only [hk,chCase,List.getD_cons_zero,List.getD_cons_succ,Int.reduceBEq,if_true,Bool.false_eq_true,if_false,bothV] at jv
   obtain ⟨hp1,hp2⟩:=jw p (by simp)
   have htt:=ht.ty
   clear jw hfd ih'
   subst jv
   repeat' (first
    |(refine ⟨?_,?_⟩;focus ((repeat' (first|refine ⟨?_,?_⟩|refine .inr ?_));all_goals kernel_rfl))
    |exact hin _|exact agf (by assumption)
    | (first|refine wp rfl ?_|refine spt rfl ?_|refine spf rfl ?_|(refine spl (fun hc=>?_) fun hc=>?_)<;>(try rw [beq_iff_eq] at hc)<;>try simp only [hc]|refine cp c_chNone ?_|refine cp (c_chPair _ _) ?_|refine cp (c_chFun _ _) ?_|refine cp (hsz _ _ (by repeat (first|assumption|exact tUnit_W|refine chPair_W ?_ ?_|refine chFun_W ?_ ?_)) (by repeat (first|assumption|exact tUnit_W|refine chPair_W ?_ ?_|refine chFun_W ?_ ?_))) ?_|refine finF hrel ?_ ?_ ?_)<;>try simp only [go_sem, *])
  ·
   simp only [chCase,hk2,hk3,hk4,hk5,Bool.false_eq_true,if_false,bothV] at jv
   clear jw hfd ih'
   subst jv
   repeat' (first
    |(refine ⟨?_,?_⟩;focus ((repeat' (first|refine ⟨?_,?_⟩|refine .inr ?_));all_goals kernel_rfl))
    |exact hin _|exact agf (by assumption)
    | (first|refine wp rfl ?_|refine spt rfl ?_|refine spf rfl ?_|(refine spl (fun hc=>?_) fun hc=>?_)<;>(try rw [beq_iff_eq] at hc)<;>try simp only [hc]|refine cp c_chNone ?_|refine cp (hsz _ _ tUnit_W tUnit_W) ?_|refine finF hrel ?_ ?_ ?_)<;>try simp only [go_sem, *])
theorem c_look (t:Fm) (ht:FmW t):Pure Tryz.prog env 135 [.agg t.cells] (bothV t.look):=by
 intro h
 have h1:=c_fmCheck t ht
 have h2:=c_uniform t ht
 have hin:∀ S,InV S (bothV t.look):=fun S=>by simp [bothV,InV,InL,bothC_in]
 have hv:bothV t.look=bothV t.look:=rfl
 generalize hvv:bothV t.look=v at hin ⊢
 clear hv
 cases he:(fmErr t != 0) with
 | true =>
  have he':(fmErr t==0)=false:=by simpa [bne] using he
  clear h2
  refine en Tryz.func135 [.cell 2 160,.tmp 3] rfl rfl fun g0 w0 gen hrel hfr hfr' hres=>?_
  repeat' (first
   |exact hin _|exact agf (by assumption)
   | (first|refine wp rfl ?_|refine spt rfl ?_|refine spf rfl ?_|(refine spl (fun hc=>?_) fun hc=>?_)<;>(try rw [beq_iff_eq] at hc)<;>try simp only [hc]|refine cp h1 ?_|refine finF hrel ?_ ?_ ?_)<;>try simp only [go_sem, *])
  rw [← hvv,Fm.look,he'];simp [bothV,bothC,tZero,Ty.mk_kind,Ty.mk_args]
 | false =>
  have he':(fmErr t==0)=true:=by simpa [bne] using he
  cases hu:t.uni with
  | true =>
   rw [hu] at h2
   refine en Tryz.func135 [.cell 2 160,.tmp 3] rfl rfl fun g0 w0 gen hrel hfr hfr' hres=>?_
   repeat' (first
    |exact hin _|exact agf (by assumption)
    | (first|refine wp rfl ?_|refine spt rfl ?_|refine spf rfl ?_|(refine spl (fun hc=>?_) fun hc=>?_)<;>(try rw [beq_iff_eq] at hc)<;>try simp only [hc]|refine cp h1 ?_|refine cp h2 ?_|refine finF hrel ?_ ?_ ?_)<;>try simp only [go_sem, *])
   rw [← hvv,Fm.look,he',hu];simp [bothV,bothC,tZero,Ty.mk_kind,Ty.mk_args]
  | false =>
   rw [hu] at h2
   have h3:=c_of t ht (Fm.ok_nodes (by simpa using he'))
   unfold bothV at h3
   have hvv':V.tup [.agg (bothC t.ch.1.1 t.ch.1.2),.int .i64 t.ch.2]=v:=by rw [← hvv,Fm.look,he',hu];rfl
   subst hvv'
   clear hvv
   refine en Tryz.func135 [.cell 2 160,.tmp 3] rfl rfl fun g0 w0 gen hrel hfr hfr' hres=>?_
   repeat' (first
    |exact hin _|exact agf (by assumption)
    | (first|refine wp rfl ?_|refine spt rfl ?_|refine spf rfl ?_|(refine spl (fun hc=>?_) fun hc=>?_)<;>(try rw [beq_iff_eq] at hc)<;>try simp only [hc]|refine cp h1 ?_|refine cp h2 ?_|refine cp h3 ?_|refine finF hrel ?_ ?_ ?_)<;>try simp only [go_sem, *])
theorem c_Witness (t:Fm) (ht:FmW t):Pure Tryz.prog env 102 [.agg t.cells] (tyErrV t.witness):=by
 intro h
 have h1:=c_look t ht
 unfold bothV at h1
 refine en Tryz.func102 [.cell 2 29,.tmp 3] rfl rfl fun g0 w0 gen hrel hfr hfr' hres=>?_
 repeat' (first
  |exact hin _|exact agf (by assumption)
  | (first|refine wp rfl ?_|refine cp h1 ?_|refine finF hrel ?_ ?_ ?_)<;>try simp only [go_sem, *])
theorem c_Challenge (t:Fm) (ht:FmW t):Pure Tryz.prog env 75 [.agg t.cells] (tyErrV t.challenge):=by
 intro h
 have h1:=c_look t ht
 unfold bothV at h1
 refine en Tryz.func75 [.cell 2 29,.tmp 3] rfl rfl fun g0 w0 gen hrel hfr hfr' hres=>?_
 repeat' (first
  |exact hin _|exact agf (by assumption)
  | (first|refine wp rfl ?_|refine cp h1 ?_|refine finF hrel ?_ ?_ ?_)<;>try simp only [go_sem, *])
end Go.Proofs.YtbfilinnoedfeaaGreatDoor
