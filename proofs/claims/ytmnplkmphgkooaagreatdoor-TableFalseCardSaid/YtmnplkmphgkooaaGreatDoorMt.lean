/-
 Walks: several parts in one text.
-/
import Derived.Test.YtmnplkmphgkooaaGreatDoorMe
import Derived.Test.YtmnplkmphgkooaaGreatDoorMf
import Derived.Test.YtmnplkmphgkooaaGreatDoorTw
import Derived.BigRegionIn
set_option linter.unusedSimpArgs false
set_option linter.unusedVariables false
set_option maxRecDepth 100000
set_option maxHeartbeats 4000000
set_option maxRecDepth 20000
namespace Go.Proofs.YtmnplkmphgkooaaGreatDoor
open Go GoAbs Go.Proofs
open Go.RowKit Go.Shelf
theorem nodes_go (l pb po cap:Nat) (a:Option Addr) (K:Nat→World→Prop) (Kx:World→Prop)
  (hal:∀ i W o,K i W→K i (W.alloc o)) (hdr:∀ i W,K i W→K i W.drew)
  (hr:∀ i W,K i W→W.cell? ⟨pb,po,none⟩=some (.int .i64 1)∧W.cell? ⟨pb,po+1,none⟩=some (.slice a 0 cap))
  (hY:∀ W,K 1 W→YieldAt Fence.wide (0 - 1) Tryz.prog l #[.agg #[.int .i64 1,.slice a 0 cap]] W fun e W'=>(e=.returned (.bool true)∧K 0 W')∨(e=.returned (.bool false)∧Kx W'))
  (W:World) (h0:K 1 W) :
  CallsIn Fence.wide 0 Tryz.prog 106 #[.func (.yield l) #[] #[],.pointer (some ⟨pb,po,none⟩)] W fun e W'=>(∃ v,e=.returned v)∧(K 0 W'∨Kx W'):=by
 refine callsIn_of_wp Tryz.func106 rfl trivial ?_ rfl
 simp only [Tryz.ntmps106,List.size_toArray,List.length_cons,List.length_nil,Nat.reduceAdd,Nat.reduceSub,Array.replicate_succ,Array.replicate_zero,List.push_toArray,List.append_toArray,List.nil_append,List.cons_append]
 obtain ⟨c0,c1⟩:=hr _ _ h0
 gi_wp2
 gi_loopw [3] (fun s wr=>(s=.slice (some ⟨W.heap.size,0,none⟩) 1 1∧K 1 wr∧wr.cell? ⟨W.heap.size,0,none⟩=some (.int .i64 1)∧wr.cell? ⟨W.heap.size,1,none⟩=some (.slice a 0 cap)) ∨
  (s=.slice (some ⟨W.heap.size,0,none⟩) 0 1∧K 0 wr)) (fun s _=>match s with | .slice _ n _=>n|_=>0)
 case atStart=>exact .inl ⟨rfl,hal _ _ _ h0,by simp [World.cell?_alloc_new],by simp [World.cell?_alloc_new]⟩
 case round =>
  rcases hrel with ⟨rfl,hJs,d0,d1⟩|⟨rfl,hJs⟩
  ·cases a with
   | none =>
    gi_wp2
    gi_region
    obtain ⟨fn,tmps,assign,body,hy,hR⟩:=hY _ (hdr _ _ (hal _ wr (.cells #[.int .i64 1,.slice none 0 cap] 29) hJs))
    gi_wp2
    refine ⟨rfl,hR.mono ?_⟩
    rintro e W3 (⟨rfl,hJ3⟩|⟨rfl,hJx3⟩)
    ·gi_wp2
     go_roundw
     case rel=>exact .inr ⟨rfl,hJ3⟩
     case measure=>simp
    ·gi_wp2
     refine bodyPost_ret (results_none rfl _ _ _) rfl ?_
     exact ⟨⟨_,rfl⟩,.inr hJx3⟩
   | some ad =>
    gi_wp2
    gi_region
    obtain ⟨fn,tmps,assign,body,hy,hR⟩:=hY _ (hdr _ _ (hal _ wr (.cells #[.int .i64 1,.slice (some ad) 0 cap] 29) hJs))
    gi_wp2
    refine ⟨rfl,hR.mono ?_⟩
    rintro e W3 (⟨rfl,hJ3⟩|⟨rfl,hJx3⟩)
    ·gi_wp2
     go_roundw
     case rel=>exact .inr ⟨rfl,hJ3⟩
     case measure=>simp
    ·gi_wp2
     refine bodyPost_ret (results_none rfl _ _ _) rfl ?_
     exact ⟨⟨_,rfl⟩,.inr hJx3⟩
  ·gi_wp2
   go_end0
   exact ⟨⟨_,rfl⟩,.inl hJs⟩
theorem node_ok:NodeOk Tryz.prog 106 where
 call:=⟨_,Tryz.func106,rfl,by kernel_rfl⟩
 go:=fun l pb po a cap K Kx hal hdr hr hY W h0=>nodes_go l pb po cap a K Kx hal hdr hr hY W h0
theorem c_tyNodes:Pure Tryz.prog env 60 [.agg tNat.cells] (.fn (.func 106) [] [.el [.int .i64 1,.sl .any []] 0]):=by
 refine pure_boxFn2 (ty:=29) ⟨_,Tryz.func60,rfl,by kernel_rfl⟩ (cs:=[.int .i64 1,.sl .any []]) fun vs hvs w=>callsIn_wide.1 (?_:CallsIn Fence.wide 0 _ _ _ _ _)
 obtain ⟨x,y,rfl⟩:∃ x y,vs=#[x,y]:=by
  refine ⟨vs[0]'(by rw [hvs];simp),vs[1]'(by rw [hvs];simp),?_⟩
  apply Array.ext
  ·simpa using hvs
  ·intro i h1 h2
   match i with
   | 0=>rfl
   | 1=>rfl
   | i+2=>exact absurd h2 (by simp)
 refine callsIn_of_wp (n:=0) Tryz.func60 rfl trivial ?_ rfl
 simp only [Tryz.ntmps60,List.size_toArray,List.length_cons,List.length_nil,Nat.reduceAdd,Nat.reduceSub,Array.replicate_succ,Array.replicate_zero,List.push_toArray,List.append_toArray,List.nil_append,List.cons_append]
 gi_wp2
 go_ret
 exact ⟨rfl,rfl⟩
theorem c_Data:Pure Tryz.prog env 26 [.agg tNat.cells] (.tup [.bool true,.int .i64 0]):=by
 intro h
 have hc:=c_typesCheck tNat TyG.nat.1.W
 rw [TyG.nat.err] at hc
 have hn:=c_tyNodes
 have ec:tNat.cells=[.int .i64 1,.sl .any []]:=by rw [ty_cells];rfl
 rw [ec] at hc hn ⊢
 have n0:((0:Int) != 0)=false:=rfl
 clear ec
 refine ret_of_walkX Tryz.func26 rfl (by kernel_rfl) fun g0 w0 gen hrel hfr=>?_
 have hfr':∀ r i,h ⟨gen,r,i⟩=none:=fresh_of hfr
 have hres:Tryz.f26.results.toList=[.cell 2 4,.cell 3 49]:=rfl
 have hl0:∀ b,w0.heap.size≤b→g0.lim b=0:=hrel.limnew
 refine ARX_pieces ?_
 simp only [flatC_seq,flatC_region,flatC_block,flatC_ret,flatC_cond,List.append_assoc,List.cons_append,List.nil_append,List.map_cons,List.map_nil,List.append_nil]
 refine ARX_of_AR (J:=fun σ=>σ.tm 2=.ptr ⟨gen,0,1⟩ 0∧σ.tm 3=.ptr ⟨gen,0,2⟩ 0∧σ.tm 12=.fn (.func 106) [] [.el [.int .i64 1,.sl .any []] 0]∧Agree h σ.h ∧
  σ.h ⟨gen,0,1⟩=some (.box [.bool false])∧σ.h ⟨gen,0,2⟩=some (.box [.int .i64 0])) [_,_,_,_,_] (by kernel_rfl) follows ?_ ?_
 ·simp only [List.map_cons,List.map_nil,List.cons_append,List.nil_append]
  refine wq_ ?_
  exact ag_
 ·rintro σ ⟨j2,j3,j12,jA,jb1,jb2⟩
  refine ARX_block ?_
  refine ARX_node node_ok j12 (of_decide_eq_true (by kernel_rfl))
   (fun i hi=>Agree h hi∧hi ⟨gen,0,1⟩=some (.box [.bool false])∧hi ⟨gen,0,2⟩=some (.box [.int .i64 0])) (fun _ _=>False) ⟨jA,jb1,jb2⟩ ?_ ?_ (fun _ _ _ h=>h.elim)
  ·intro xa xb gr hi oka okb hgr ⟨jA,jb1,jb2⟩ mid fin _
   refine ARX_gen (fun gm hgm=>?_)
   have hgf:∀ r i,hi ⟨gm,r,i⟩=none:=fresh_of hgm
   have hgf0:=fun r i=>agree_fresh jA (hgf r i)
   have hg1:gen<gm:=hgm ⟨gen,0,1⟩ (by simp [jb1])
   have e1:=gen_lt hg1
   have e2:=gen_lt' hg1
   clear hgm
   refine ARX_region oka follows (by kernel_rfl) ?_
   simp only [go_sem, *]
   refine mid _ _ ?_
   clear mid
   repeat' (first
    |(refine ⟨?_,?_⟩;focus ((repeat' (first|refine ⟨?_,?_⟩|refine .inr ?_));all_goals kernel_rfl))
    | (first|refine ARX_seq ?_|refine ARX_region okb follows (by kernel_rfl) ?_|refine ARX_condP ?_|refine ARX_block ?_|refine ARX_exit ?_|refine ARX_skip ?_|refine ARX_ret ?_|refine ARX_block_end ?_|refine ARX_block_pass (by decide) ?_|refine ARX_block_hit ?_|refine ARX_code_exit ?_|refine spt rfl ?_|refine spf rfl ?_)<;>try simp only [go_sem, *])
   exact fin _ _ ⟨by repeat (first|exact jA|refine Agree.new ?_ (hgf0 _ _)),by simp only [go_sem, *],by simp only [go_sem, *]⟩
  ·rintro D h' ⟨jA,jb1,jb2⟩
   have okD:=xD_ok ⟨Tryz.prog,env,Tryz.f26.ntmps,Tryz.f26,g0,w0,h,.tup [.bool true,.int .i64 0],h⟩ D
   repeat' (first
    |(refine ⟨?_,?_⟩;focus ((repeat' (first|refine ⟨?_,?_⟩|refine .inr ?_));all_goals kernel_rfl))
    |exact agf (by assumption)
    | (first|refine ARX_seq ?_|refine ARX_region okD follows (by kernel_rfl) ?_|refine ARX_condP ?_|refine ARX_block ?_|refine ARX_exit ?_|refine ARX_skip ?_|refine ARX_ret ?_|refine ARX_block_end ?_|refine ARX_block_pass (by decide) ?_|refine ARX_block_hit ?_|refine ARX_code_exit ?_|refine spt rfl ?_|refine spf rfl ?_|refine ARX_doneD follows hl0 ?_|refine finF hrel ?_ ?_ ?_)<;>try simp only [go_sem, *])
def numVal (n:Nat):List V:=[.int .i64 1,.int .i64 n,.sl .any [],.sl .any []]
def noVal:List V:=[.int .i64 0,.int .i64 0,.sl .any [],.sl .any []]
theorem c_plainNum (n:Nat):Pure Tryz.prog env 65 [intV n] (.agg (numVal n)):=by
 intro h
 unfold intV numVal
 exact ek_ Tryz.func65 [.cell 2 40]
theorem ev_num {most f u':Nat} {t:Tm} {r:Res} {o:Bool} (hm:most≤65536) (h:ev most f 0 t []=some (r,u',o)) (ht:TmW t) (hty:HasTy TyG [] t tNat) (d:GoAbs.Id) :
  EvT2 d most 0 u' o t .nilp (intV r.num)∧(o=false→r=numR r.num):=by
 obtain ⟨v,h1,h2⟩:=ev_C2 (K:=0) hm (by omega) f d 0 0 t [] .nilp [] tNat r u' o h (Nat.le_refl _) (by omega) ht (by simp) (by simp) hty .nil
 cases o with
 | true=>exact ⟨h1,fun e=>by cases e⟩
 | false =>
  have:=h2 rfl
  cases this with
  | num=>exact ⟨h1,fun _=>rfl⟩
def evalVp (x:Nat × Nat × Bool):V:=if x.2.2 then .tup [.agg noVal,.int .i64 0,.int .i64 5] else .tup [.agg (numVal x.1),.int .i64 x.2.1,.int .i64 0]
theorem c_machCall {most f u':Nat} {t:Tm} {r:Res} {o:Bool} (hm:most≤65536) (hev:ev most f 0 t []=some (r,u',o)) (ht:TmW t) (hty:HasTy TyG [] t tNat) (he:tmErr t=0) (hb:tmSz t≤1000000) :
  Pure Tryz.prog env 29 [.agg t.cells,.sl .any [],.int .i64 most] (evalVp (r.num,u',o)):=by
 intro h
 have h1:=c_termsTypeOf t tNat hty ht he hb
 have h2:=c_Data
 have hT:=fun d=>(ev_num hm hev ht hty d).1
 have h4:=c_plainNum r.num
 have h3:∀ (d:GoAbs.Id) (v:V),IsI v→Turns Tryz.prog env 64 [.ptr d 0,v,.sl .any []] d (mb u' most) (evR false v) (mb u' most):=fun d v hv=>c_callS' (l:=[]) .nil (by simp) (fun _=>hv) hv
 have h5:∀ d,Turns Tryz.prog env 64 [.ptr d 0,intV r.num,.sl .any []] d (mb u' most) (evR false (intV r.num)) (mb u' most):=fun d=>h3 d _ (intI _)
 have ec:tNat.cells=[.int .i64 1,.sl .any []]:=by rw [ty_cells];rfl
 rw [ec] at h1 h2
 have d1:decide ((most:Int)<0)=false:=by simp
 have d2:decide ((most:Int)>65536)=false:=by simp;omega
 have n0:((0:Int) != 0)=false:=rfl
 clear hm hev ht hty he hb h3 ec
 unfold EvT2 at hT
 unfold evalVp
 unfold evR mb at *
 unfold outV at *
 simp only [show ((0:Nat):Int)=0 from rfl] at hT
 simp only [Bool.false_eq_true,if_false,Bool.not_false] at h5
 cases o with
 | true =>
  simp only [if_true,Bool.not_true] at hT ⊢
  unfold noVal intV at *
  refine en_ Tryz.func29 [.cell 6 40,.tmp 7,.tmp 8] fun g0 w0 gen hrel hfr hfr' hres=>?_
  refine wq_ ?_
  refine ar_ [2,3,6,9,30] [⟨gen,0,0⟩,⟨gen,0,1⟩] (fun i σ=>Agree h σ.h∧σ.h ⟨gen,1,5⟩=some (.box [.int .i64 1,.sl .any []])∧σ.tm 11=.sl .full []) (([]:List Int)).length ?_ ?_ ?_
  ·simp only [go_sem, *]
   exact ag_
  ·
   intro i σ gr0 hgl_gr0 hgn hlt jI jN jS ⟨jA,jb,jt⟩
   obtain ⟨jT,jB⟩:=jS
   simp only [go_sem] at jT jB
   obtain ⟨hgf,hgf0,eg_gen_gr0,eh_gen_gr0⟩:=rnd hgn hgl_gr0 jA
   obtain ⟨x,hx,hxm,hm⟩:=rnx hlt
   clear hgn
   exact absurd hlt (by simp)
  ·
   intro σ ga0 hgl_ga0 hgn jS ⟨jA,jb,jt⟩
   obtain ⟨jT,jB⟩:=jS
   simp only [go_sem] at jT jB
   obtain ⟨hgf,hgf0,eg_gen_ga0,eh_gen_ga0⟩:=rnd hgn hgl_ga0 jA
   clear hgn
   repeat' (first
    |(refine ⟨?_,?_⟩;focus ((repeat' (first|refine ⟨?_,?_⟩|refine .inr ?_));all_goals kernel_rfl))
    |exact hin _|exact agf (by assumption)
    | (first|refine wp rfl ?_|refine spt rfl ?_|refine spf rfl ?_|(refine spl (fun hc=>?_) fun hc=>?_)<;>(try rw [beq_iff_eq] at hc)<;>try simp only [hc]|(refine gs (fun hb=>?_) fun hb=>?_)<;>try simp only [Bool.not_true,Bool.not_false] at hb|refine cp h2 ?_|(refine ct (hT _) ?_ ?_;focus ((simp only [go_sem, *]<;>rfl);done))|refine finF hrel ?_ ?_ ?_)<;>try simp only [go_sem, *])
 | false =>
  simp only [Bool.false_eq_true,if_false,Bool.not_false] at hT ⊢
  unfold numVal intV at *
  refine en_ Tryz.func29 [.cell 6 40,.tmp 7,.tmp 8] fun g0 w0 gen hrel hfr hfr' hres=>?_
  refine wq_ ?_
  refine ar_ [2,3,6,9,30] [⟨gen,0,0⟩,⟨gen,0,1⟩] (fun i σ=>Agree h σ.h∧σ.h ⟨gen,1,5⟩=some (.box [.int .i64 1,.sl .any []])∧σ.tm 11=.sl .full []) (([]:List Int)).length ?_ ?_ ?_
  ·simp only [go_sem, *]
   exact ag_
  ·
   intro i σ gr0 hgl_gr0 hgn hlt jI jN jS ⟨jA,jb,jt⟩
   obtain ⟨jT,jB⟩:=jS
   simp only [go_sem] at jT jB
   obtain ⟨hgf,hgf0,eg_gen_gr0,eh_gen_gr0⟩:=rnd hgn hgl_gr0 jA
   obtain ⟨x,hx,hxm,hm⟩:=rnx hlt
   clear hgn
   exact absurd hlt (by simp)
  ·
   intro σ ga0 hgl_ga0 hgn jS ⟨jA,jb,jt⟩
   obtain ⟨jT,jB⟩:=jS
   simp only [go_sem] at jT jB
   obtain ⟨hgf,hgf0,eg_gen_ga0,eh_gen_ga0⟩:=rnd hgn hgl_ga0 jA
   clear hgn
   repeat' (first
    |(refine ⟨?_,?_⟩;focus ((repeat' (first|refine ⟨?_,?_⟩|refine .inr ?_));all_goals kernel_rfl))
    |exact hin _|exact agf (by assumption)
    | (first|refine wp rfl ?_|refine spt rfl ?_|refine spf rfl ?_|(refine spl (fun hc=>?_) fun hc=>?_)<;>(try rw [beq_iff_eq] at hc)<;>try simp only [hc]|(refine gs (fun hb=>?_) fun hb=>?_)<;>try simp only [Bool.not_true,Bool.not_false] at hb|refine cp h2 ?_|(refine ct (hT _) ?_ ?_;focus ((simp only [go_sem, *]<;>rfl);done))|(refine ct (h5 _) ?_ ?_;focus ((simp only [go_sem, *]<;>rfl);done))|refine cp h4 ?_|refine finF hrel ?_ ?_ ?_)<;>try simp only [go_sem, *])
theorem c_machEval {most f u':Nat} {t:Tm} {r:Res} {o:Bool} (hm:most≤65536) (hev:ev most f 0 t []=some (r,u',o)) (ht:TmW t) (hty:HasTy TyG [] t tNat) (he:tmErr t=0) (hb:tmSz t≤1000000) :
  Pure Tryz.prog env 31 [.agg t.cells,.int .i64 most] (evalVp (r.num,u',o)):=by
 intro h
 have h1:=c_machCall hm hev ht hty he hb
 clear hm hev ht hty he hb
 unfold evalVp numVal noVal at *
 cases o with
 | true =>
  simp only [if_true] at h1 ⊢
  exact ek_ Tryz.func31 [.cell 4 40,.tmp 5,.tmp 6]
 | false =>
  simp only [Bool.false_eq_true,if_false] at h1 ⊢
  exact ek_ Tryz.func31 [.cell 4 40,.tmp 5,.tmp 6]
end Go.Proofs.YtmnplkmphgkooaaGreatDoor
