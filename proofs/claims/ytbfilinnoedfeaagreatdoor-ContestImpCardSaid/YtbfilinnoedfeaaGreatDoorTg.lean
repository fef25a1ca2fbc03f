/-
 Walks: several parts in one text.
-/
import Derived.Test.YtbfilinnoedfeaaGreatDoorTd
import Derived.Test.YtbfilinnoedfeaaGreatDoorNy
import Derived.Test.YtbfilinnoedfeaaGreatDoorAbsD
set_option linter.unusedSimpArgs false
set_option linter.unusedVariables false
set_option maxRecDepth 20000
set_option maxHeartbeats 4000000
namespace Go.Proofs.YtbfilinnoedfeaaGreatDoor
open Go GoAbs Go.Proofs
theorem c_r23Pair (a b:Ty):Pure Tryz.prog env 196 [.agg a.cells,.agg b.cells] (.agg (tPair a b).cells):=by
 intro h
 refine en Tryz.func196 [.cell 4 29] rfl rfl fun g0 w0 gen hrel hfr hfr' hres=>?_
 repeat' (first
  |exact hin _|exact agf (by assumption)
  | (first|refine wp rfl ?_|refine finF hrel ?_ ?_ ?_)<;>try simp only [go_sem, *])
 all_goals simp [tPair,Ty.mk_cells]
theorem c_r28none (t:Ty):Pure Tryz.prog env 55 [.agg t.cells] (.bool (t.kind==5)):=by
 intro h
 refine en Tryz.func55 [.tmp 2] rfl rfl fun g0 w0 gen hrel hfr hfr' hres=>?_
 repeat' (first
  |exact hin _|exact agf (by assumption)
  | (first|refine wp rfl ?_|refine finF hrel ?_ ?_ ?_)<;>try simp only [go_sem, *])
theorem c_r28Pair (a b:Ty):Pure Tryz.prog env 146 [.agg a.cells,.agg b.cells] (.agg (chPair a b).cells):=by
 intro h
 have hin:∀ S,InV S (V.agg (chPair a b).cells):=fun S=>by simp [InV,InL_Ty]
 have h1:=c_r28none a
 have h2:=c_r28none b
 have h3:=c_r23Pair a b
 unfold chPair at hin ⊢
 generalize tPair a b=p at *
 generalize (a.kind==5)=q1 at *
 generalize (b.kind==5)=q2 at *
 cases q1<;>cases q2<;>simp only [if_true,Bool.false_eq_true,if_false] at hin ⊢
 all_goals
  refine en Tryz.func146 [.cell 4 29] rfl rfl fun g0 w0 gen hrel hfr hfr' hres=>?_
  repeat' (first
   |exact hin _|exact agf (by assumption)
   | (first|refine wp rfl ?_|refine spt rfl ?_|refine spf rfl ?_|(refine spl (fun hc=>?_) fun hc=>?_)<;>(try rw [beq_iff_eq] at hc)<;>try simp only [hc]|refine cp h1 ?_|refine cp h2 ?_|refine cp h3 ?_|refine finF hrel ?_ ?_ ?_)<;>try simp only [go_sem, *])
theorem c_r28Fun (a b:Ty):Pure Tryz.prog env 22 [.agg a.cells,.agg b.cells] (.agg (chFun a b).cells):=by
 intro h
 have hin:∀ S,InV S (V.agg (chFun a b).cells):=fun S=>by simp [InV,InL_Ty]
 have h1:=c_r28none a
 have h2:=c_r28none b
 have h3:=c_ref23Fun a b
 have h4:=c_ref23Unit
 unfold chFun at hin ⊢
 generalize tFun a b=p at *
 generalize tUnit=u at *
 generalize (a.kind==5)=q1 at *
 generalize (b.kind==5)=q2 at *
 cases q1<;>cases q2<;>simp only [if_true,Bool.false_eq_true,if_false] at hin ⊢
 all_goals
  refine en Tryz.func22 [.cell 4 29] rfl rfl fun g0 w0 gen hrel hfr hfr' hres=>?_
  repeat' (first
   |exact hin _|exact agf (by assumption)
   | (first|refine wp rfl ?_|refine spt rfl ?_|refine spf rfl ?_|(refine spl (fun hc=>?_) fun hc=>?_)<;>(try rw [beq_iff_eq] at hc)<;>try simp only [hc]|refine cp h1 ?_|refine cp h2 ?_|refine cp h3 ?_|refine cp h4 ?_|refine finF hrel ?_ ?_ ?_)<;>try simp only [go_sem, *])
theorem c_r24Unit:Pure Tryz.prog env 61 [] (.agg (tm0 13 []).cells):=by
 intro h
 refine en Tryz.func61 [.cell 0 36] rfl rfl fun g0 w0 gen hrel hfr hfr' hres=>?_
 repeat' (first
  |exact hin _|exact agf (by assumption)
  | (first|refine wp rfl ?_|refine finF hrel ?_ ?_ ?_)<;>try simp only [go_sem, *])
 all_goals simp [tm0,Tm.mk_cells,Ty.mk_kind,Ty.mk_args]
theorem c_r24Node (k:Int) (l:List Tm):Pure Tryz.prog env 56 [.int .i64 k,.sl .any (l.map Tm.cells)] (.agg (tm0 k l).cells):=by
 intro h
 refine en Tryz.func56 [.cell 4 36] rfl rfl fun g0 w0 gen hrel hfr hfr' hres=>?_
 repeat' (first
  |exact hin _|exact agf (by assumption)
  | (first|refine wp rfl ?_|refine finF hrel ?_ ?_ ?_)<;>try simp only [go_sem, *])
 all_goals simp [tm0,Tm.mk_cells,Ty.mk_kind,Ty.mk_args]
theorem c_r24App (f a:Tm):Pure Tryz.prog env 62 [.agg f.cells,.agg a.cells] (.agg (tm0 3 [f,a]).cells):=by
 intro h
 have h1:=c_r24Node 3 [f,a]
 simp only [List.map_cons,List.map_nil] at h1
 have hin:∀ S,InV S (V.agg (tm0 3 [f,a]).cells):=fun S=>by simp [InV,InL_Tm]
 generalize tm0 3 [f,a]=x at *
 refine en Tryz.func62 [.cell 4 36] rfl rfl fun g0 w0 gen hrel hfr hfr' hres=>?_
 repeat' (first
  |exact hin _|exact agf (by assumption)
  | (first|refine wp rfl ?_|refine cp h1 ?_|refine finF hrel ?_ ?_ ?_)<;>try simp only [go_sem, *])
theorem c_r28Call (a b:Ty) (f t:Tm):Pure Tryz.prog env 24 [.agg a.cells,.agg b.cells,.agg f.cells,.agg t.cells] (.agg (chCall a b f t).cells):=by
 intro h
 have h1:=c_r28none a
 have h2:=c_r28none b
 have h3:=c_r24App f t
 have h4:=c_r24Unit
 have hin:∀ S,InV S (V.agg (chCall a b f t).cells):=fun S=>by simp [InV,InL_Tm]
 unfold chCall at hin ⊢
 generalize tm0 3 [f,t]=p at *
 generalize tm0 13 []=u at *
 generalize (a.kind==5)=q1 at *
 generalize (b.kind==5)=q2 at *
 cases q1<;>cases q2<;>simp only [if_true,Bool.false_eq_true,if_false] at hin ⊢
 all_goals
  refine en Tryz.func24 [.cell 8 36] rfl rfl fun g0 w0 gen hrel hfr hfr' hres=>?_
  repeat' (first
   |exact hin _|exact agf (by assumption)
   | (first|refine wp rfl ?_|refine spt rfl ?_|refine spf rfl ?_|(refine spl (fun hc=>?_) fun hc=>?_)<;>(try rw [beq_iff_eq] at hc)<;>try simp only [hc]|refine cp h1 ?_|refine cp h2 ?_|refine cp h3 ?_|refine cp h4 ?_|refine finF hrel ?_ ?_ ?_)<;>try simp only [go_sem, *])
theorem c_r28uniform:∀ t:Fm,FmW t→Pure Tryz.prog env 98 [.agg t.cells] (.bool t.uni):=by
 intro t
 induction t using Fm.ind with|h t ih=>?_
 intro ht h
 have hlen:=ht.len
 have ih':∀ x∈t.args,Pure Tryz.prog env 98 [.agg x.cells] (.bool x.uni):=fun x hx=>ih x hx (ht.arg hx)
 clear ih
 generalize hv:t.uni=v
 cases hk:(t.kind==6||t.kind==7) with
 | true =>
  have hv':true=v:=by rw [← hv,Fm.uni_eq,hk];rfl
  subst hv'
  clear ih' hv
  refine en Tryz.func98 [.tmp 2] rfl rfl fun g0 w0 gen hrel hfr hfr' hres=>?_
  repeat' (first
   |exact hin _|exact agf (by assumption)
   | (first|refine wp rfl ?_|refine spt rfl ?_|refine spf rfl ?_|(refine spl (fun hc=>?_) fun hc=>?_)<;>(try rw [beq_iff_eq] at hc)<;>try simp only [hc]|(refine gs (fun hb=>?_) fun hb=>?_)<;>try simp only [Bool.not_true,Bool.not_false] at hb|refine finF hrel ?_ ?_ ?_)<;>try simp only [go_sem, *])
  all_goals (exfalso;simp_all;done)
 | false =>
 have hv':Fm.uniL t.args=v:=by rw [← hv,Fm.uni_eq,hk];rfl
 have hk6:(t.kind==6)=false:=by cases h6:(t.kind==6)<;>simp_all
 have hk7:(t.kind==7)=false:=by cases h6:(t.kind==7)<;>simp_all
 clear hv hk
 refine en Tryz.func98 [.tmp 2] rfl rfl fun g0 w0 gen hrel hfr hfr' hres=>?_
 repeat' (first
  |exact hin _|exact agf (by assumption)
  | (first|refine wp rfl ?_|refine spt rfl ?_|refine spf rfl ?_|(refine spl (fun hc=>?_) fun hc=>?_)<;>(try rw [beq_iff_eq] at hc)<;>try simp only [hc]|(refine gs (fun hb=>?_) fun hb=>?_)<;>try simp only [Bool.not_true,Bool.not_false] at hb|refine finF hrel ?_ ?_ ?_)<;>try simp only [go_sem, *])
 refine AR_loop_nat (fun i σ=>σ.tm 3=.int .i64 i∧σ.tm 1=.ptr ⟨gen,0,0⟩ 0 ∧
  σ.h ⟨gen,0,0⟩=some (.box t.cells)∧Agree h σ.h∧Fm.uniL (t.args.drop i)=v) t.args.length ?_ ?_
 ·simp only [go_sem, *]
  exact ⟨rfl,by repeat (first|exact Agree.refl _|assumption|refine Agree.new ?_ (hfr' _ _))⟩
 clear hv' hk6 hk7
 intro i σ hi ⟨j1,j2,j4,j5,j7⟩
 refine AR_gen (fun gn hgn=>?_)
 have hgf:=fresh_of hgn
 have hgf0:∀ r i,h ⟨gn,r,i⟩=none:=fun r i=>agree_fresh j5 (hgf r i)
 have e1:=gen_ne hgn j4
 have e2:=gen_ne' hgn j4
 have hw:=wrap_succ (i:=i) (by omega)
 clear hgn
 rcases Nat.lt_or_ge i t.args.length with hlt|hge
 ·have hd:=lt_true hlt
  obtain ⟨x,hx⟩:∃ x,t.args[i]? = some x:=⟨_,List.getElem?_eq_getElem hlt⟩
  rw [drop_get hx,Fm.uniL_cons] at j7
  have hc:=ih' x (List.mem_of_getElem? hx)
  clear ih'
  cases hn:x.uni with
  | true =>
   rw [hn] at hc
   rw [hn,Bool.true_or] at j7
   subst j7
   repeat' (first
    |exact hin _|exact agf (by assumption)
    | (first|refine wp rfl ?_|refine spt rfl ?_|refine spf rfl ?_|(refine spl (fun hc=>?_) fun hc=>?_)<;>(try rw [beq_iff_eq] at hc)<;>try simp only [hc]|(refine gs (fun hb=>?_) fun hb=>?_)<;>try simp only [Bool.not_true,Bool.not_false] at hb|refine cp hc ?_|refine finF hrel ?_ ?_ ?_)<;>try simp only [go_sem, *])
  | false =>
   rw [hn] at hc
   rw [hn,Bool.false_or] at j7
   repeat' (first
    |exact hin _|exact agf (by assumption)
    | (first|refine wp rfl ?_|refine spt rfl ?_|refine spf rfl ?_|(refine spl (fun hc=>?_) fun hc=>?_)<;>(try rw [beq_iff_eq] at hc)<;>try simp only [hc]|(refine gs (fun hb=>?_) fun hb=>?_)<;>try simp only [Bool.not_true,Bool.not_false] at hb|refine AR_inv ?_|refine cp hc ?_|refine finF hrel ?_ ?_ ?_)<;>try simp only [go_sem, *])
 ·have hd:=lt_false hge
  obtain rfl:i=t.args.length:=by omega
  rw [List.drop_length,Fm.uniL_nil] at j7
  subst j7
  clear ih'
  repeat' (first
   |exact hin _|exact agf (by assumption)
   | (first|refine wp rfl ?_|refine spt rfl ?_|refine spf rfl ?_|(refine spl (fun hc=>?_) fun hc=>?_)<;>(try rw [beq_iff_eq] at hc)<;>try simp only [hc]|(refine gs (fun hb=>?_) fun hb=>?_)<;>try simp only [Bool.not_true,Bool.not_false] at hb|refine finF hrel ?_ ?_ ?_)<;>try simp only [go_sem, *])
theorem err04_F {t:Ty} (h:TyF t) (hs:tySz t≤1000000):tyErr t=0∨tyErr t=4:=by
 rw [h.err hs];split
 ·exact .inl rfl
 ·exact .inr rfl
theorem sized_vals {A B:Ty} (hA:tyErr A=0∨tyErr A=4) (hB:tyErr B=0∨tyErr B=4):sized A B=if tyErr A==0&&tyErr B==0 then ((A,B),0) else ((tZero,tZero),4):=by
 unfold sized
 rcases hA with h|h<;>rw [h]
 ·rcases hB with h|h<;>rw [h]<;>rfl
 ·rfl
theorem zT_cellsH:tZero.cells=[.int .i64 0,.sl .any []]:=rfl
theorem sized_v {A B:Ty} (hA:tyErr A=0∨tyErr A=4) (hB:tyErr B=0∨tyErr B=4):∃ v,v=V.tup [.agg (sized A B).1.1.cells,.agg (sized A B).1.2.cells,.int .i64 (sized A B).2]∧(∀ S,InV S v) ∧
  ((tyErr A != 0)=true→v=V.tup [.agg [.int .i64 0,.sl .any []],.agg [.int .i64 0,.sl .any []],.int .i64 4]) ∧
  ((tyErr A != 0)=false→(tyErr B != 0)=true→v=V.tup [.agg [.int .i64 0,.sl .any []],.agg [.int .i64 0,.sl .any []],.int .i64 4]) ∧
  ((tyErr A != 0)=false→(tyErr B != 0)=false→v=V.tup [.agg A.cells,.agg B.cells,.int .i64 0]):=by
 refine ⟨_,rfl,fun S=>by simp [InV,InL,InL_Ty],?_⟩
 rw [sized_vals hA hB]
 rcases hA with h|h<;>rw [h]<;>rcases hB with h'|h'<;>rw [h']<;>simp [zT_cellsH]
theorem c_r28Both {f:Fm} (h:FmG false f):FmW f→Pure Tryz.prog env 99 [.agg f.cells] (.tup [.agg f.ch.1.1.cells,.agg f.ch.1.2.cells,.int .i64 f.ch.2]):=by
 have hz:=zT_cellsH
 induction h with
 | @eq x y hx hy =>
  intro hw h
  rw [ch_eqn]
  have hk:(fmEq x y).kind=1:=rfl
  generalize fmEq x y=f at *
  have h1:=c_ref23Unit
  simp only
  refine en Tryz.func99 [.cell 2 29,.cell 3 29,.tmp 4] rfl rfl fun g0 w0 gen hrel hfr hfr' hres=>?_
  repeat' (first
   |(refine ⟨?_,?_⟩;focus ((repeat' (first|refine ⟨?_,?_⟩|refine .inr ?_));all_goals kernel_rfl))
   |exact hin _|exact agf (by assumption)
   | (first|refine wp rfl ?_|refine spt rfl ?_|refine spf rfl ?_|(refine spl (fun hc=>?_) fun hc=>?_)<;>(try rw [beq_iff_eq] at hc)<;>try simp only [hc]|(refine gs (fun hb=>?_) fun hb=>?_)<;>try simp only [Bool.not_true,Bool.not_false] at hb|refine cp h1 ?_|refine finF hrel ?_ ?_ ?_)<;>try simp only [go_sem, *])
 | @two k a b hk ga gb iha ihb =>
  intro hw h
  have hka:(fmTwo k a b).kind=k:=rfl
  have hmap:(fmTwo k a b).args.map Fm.cells=[a.cells,b.cells]:=rfl
  have ca:=iha (hw.arg (show a∈(fmTwo k a b).args by simp [fmTwo,Fm.args]))
  have cb:=ihb (hw.arg (show b∈(fmTwo k a b).args by simp [fmTwo,Fm.args]))
  rw [ch_two]
  generalize fmTwo k a b=f at *
  have oa:=ga.ch
  have ob:=gb.ch
  clear ga gb iha ihb hw
  generalize a.ch=ra at *
  generalize b.ch=rb at *
  obtain ⟨⟨wa,xa⟩,ea⟩:=ra
  obtain ⟨⟨wb,xb⟩,eb⟩:=rb
  simp only at ca cb
  rcases oa with ⟨rfl,ta,ta'⟩|rfl
  case inr =>
   simp only [Int.reduceBEq,Bool.false_eq_true,if_false]
   have n4:((4:Int) != 0)=true:=rfl
   rcases hk with rfl|rfl
   all_goals
    clear ob cb
    refine en Tryz.func99 [.cell 2 29,.cell 3 29,.tmp 4] rfl rfl fun g0 w0 gen hrel hfr hfr' hres=>?_
    repeat' (first
     |(refine ⟨?_,?_⟩;focus ((repeat' (first|refine ⟨?_,?_⟩|refine .inr ?_));all_goals kernel_rfl))
     |exact hin _|exact agf (by assumption)
     | (first|refine wp rfl ?_|refine spt rfl ?_|refine spf rfl ?_|(refine spl (fun hc=>?_) fun hc=>?_)<;>(try rw [beq_iff_eq] at hc)<;>try simp only [hc]|(refine gs (fun hb=>?_) fun hb=>?_)<;>try simp only [Bool.not_true,Bool.not_false] at hb|refine cp ca ?_|refine finF hrel ?_ ?_ ?_)<;>try simp only [go_sem, *])
  rcases ob with ⟨rfl,tb,tb'⟩|rfl
  case inr =>
   simp only [Int.reduceBEq,Bool.false_eq_true,if_false,if_true]
   have n4:((4:Int) != 0)=true:=rfl
   have n0:((0:Int) != 0)=false:=rfl
   rcases hk with rfl|rfl
   all_goals
    refine en Tryz.func99 [.cell 2 29,.cell 3 29,.tmp 4] rfl rfl fun g0 w0 gen hrel hfr hfr' hres=>?_
    repeat' (first
     |(refine ⟨?_,?_⟩;focus ((repeat' (first|refine ⟨?_,?_⟩|refine .inr ?_));all_goals kernel_rfl))
     |exact hin _|exact agf (by assumption)
     | (first|refine wp rfl ?_|refine spt rfl ?_|refine spf rfl ?_|(refine spl (fun hc=>?_) fun hc=>?_)<;>(try rw [beq_iff_eq] at hc)<;>try simp only [hc]|(refine gs (fun hb=>?_) fun hb=>?_)<;>try simp only [Bool.not_true,Bool.not_false] at hb|refine cp ca ?_|refine cp cb ?_|refine finF hrel ?_ ?_ ?_)<;>try simp only [go_sem, *])
  simp only at ta ta' tb tb'
  have z1:=ta.2
  have z2:=ta'.2
  have z3:=tb.2
  have z4:=tb'.2
  have n4:((4:Int) != 0)=true:=rfl
  have n0:((0:Int) != 0)=false:=rfl
  simp only [beq_self_eq_true,if_true]
  rcases hk with rfl|rfl
  ·simp only [chCase,List.getD_cons_zero,List.getD_cons_succ,Int.reduceBEq,if_true]
   have FA:TyF (chPair wa wb):=chPair_F ta.1 tb.1
   have FB:TyF (chPair xa xb):=chPair_F ta'.1 tb'.1
   have eA:=err04_F FA (by have:=chPair_sz (a:=wa) (b:=wb);omega)
   have eB:=err04_F FB (by have:=chPair_sz (a:=xa) (b:=xb);omega)
   have cA:=c_refTyCheck _ FA.W
   have cB:=c_refTyCheck _ FB.W
   have p1:=c_r28Pair wa wb
   have p2:=c_r28Pair xa xb
   generalize chPair wa wb=A at *
   generalize chPair xa xb=B at *
   clear FA FB ta ta' tb tb' z1 z2 z3 z4
   obtain ⟨v,hv,hin,v1,v2,v3⟩:=sized_v eA eB
   rw [← hv]
   clear hv eA eB
   generalize tyErr A=e1 at *
   generalize tyErr B=e2 at *
   refine en Tryz.func99 [.cell 2 29,.cell 3 29,.tmp 4] rfl rfl fun g0 w0 gen hrel hfr hfr' hres=>?_
   repeat' (first
    |(refine ⟨?_,?_⟩;focus ((repeat' (first|refine ⟨?_,?_⟩|refine .inr ?_));all_goals kernel_rfl))
    |exact hin _|exact agf (by assumption)
    | (first|refine wp rfl ?_|refine spt rfl ?_|refine spf rfl ?_|(refine spl (fun hc=>?_) fun hc=>?_)<;>(try rw [beq_iff_eq] at hc)<;>try simp only [hc]|(refine gs (fun hb=>?_) fun hb=>?_)<;>try simp only [Bool.not_true,Bool.not_false] at hb|refine cp ca ?_|refine cp cb ?_|refine cp p1 ?_|refine cp p2 ?_|refine cp cA ?_|refine cp cB ?_|refine finF hrel ?_ ?_ ?_)<;>try simp only [go_sem, *])
   all_goals first|exact (v1 ‹_›).symm|exact (v2 ‹_› ‹_›).symm|exact (v3 ‹_› ‹_›).symm
  ·simp only [chCase,List.getD_cons_zero,List.getD_cons_succ,Int.reduceBEq,if_true,Bool.false_eq_true,if_false]
   have q1:=chFun_sz (a:=wa) (b:=wb)
   have q2:=chFun_sz (a:=xb) (b:=xa)
   have q3:=chFun_sz (a:=wa) (b:=chFun xb xa)
   have FA:TyF (chPair (chFun wa wb) (chFun wa (chFun xb xa))):=chPair_F (chFun_F ta.1 tb.1) (chFun_F ta.1 (chFun_F tb'.1 ta'.1))
   have FB:TyF (chPair wa xb):=chPair_F ta.1 tb'.1
   have eA:=err04_F FA (by have:=chPair_sz (a:=chFun wa wb) (b:=chFun wa (chFun xb xa));omega)
   have eB:=err04_F FB (by have:=chPair_sz (a:=wa) (b:=xb);omega)
   have cA:=c_refTyCheck _ FA.W
   have cB:=c_refTyCheck _ FB.W
   have p1:=c_r28Fun wa wb
   have p2:=c_r28Fun xb xa
   have p3:=c_r28Fun wa (chFun xb xa)
   have p4:=c_r28Pair (chFun wa wb) (chFun wa (chFun xb xa))
   have p5:=c_r28Pair wa xb
   clear q1 q2 q3 FA FB ta ta' tb tb' z1 z2 z3 z4
   generalize chFun wa wb=F1 at *
   generalize chFun xb xa=F2 at *
   generalize chFun wa F2=F3 at *
   generalize chPair F1 F3=A at *
   generalize chPair wa xb=B at *
   obtain ⟨v,hv,hin,v1,v2,v3⟩:=sized_v eA eB
   rw [← hv]
   clear hv eA eB
   generalize tyErr A=e1 at *
   generalize tyErr B=e2 at *
   refine en Tryz.func99 [.cell 2 29,.cell 3 29,.tmp 4] rfl rfl fun g0 w0 gen hrel hfr hfr' hres=>?_
   repeat' (first
    |(refine ⟨?_,?_⟩;focus ((repeat' (first|refine ⟨?_,?_⟩|refine .inr ?_));all_goals kernel_rfl))
    |exact hin _|exact agf (by assumption)
    | (first|refine wp rfl ?_|refine spt rfl ?_|refine spf rfl ?_|(refine spl (fun hc=>?_) fun hc=>?_)<;>(try rw [beq_iff_eq] at hc)<;>try simp only [hc]|(refine gs (fun hb=>?_) fun hb=>?_)<;>try simp only [Bool.not_true,Bool.not_false] at hb|refine cp ca ?_|refine cp cb ?_|refine cp p1 ?_|refine cp p2 ?_|refine cp p3 ?_|refine cp p4 ?_|refine cp p5 ?_|refine cp cA ?_|refine cp cB ?_|refine finF hrel ?_ ?_ ?_)<;>try simp only [go_sem, *])
   all_goals first|exact (v1 ‹_›).symm|exact (v2 ‹_› ‹_›).symm|exact (v3 ‹_› ‹_›).symm
 | @q k t a hk ht ga iha =>
  intro hw h
  have hka:(fmQ k t a).kind=k:=rfl
  have htt:(fmQ k t a).type=t:=rfl
  have hmap:(fmQ k t a).args.map Fm.cells=[a.cells]:=rfl
  have ca:=iha (hw.arg (show a∈(fmQ k t a).args by simp [fmQ,Fm.args]))
  rw [ch_q]
  generalize fmQ k t a=f at *
  have oa:=ga.ch
  clear ga iha hw
  generalize a.ch=ra at *
  obtain ⟨⟨wa,xa⟩,ea⟩:=ra
  simp only at ca
  have hk':k=4∨k=5:=by rcases hk with h|h|⟨h,_⟩<;>first|exact .inl h|exact .inr h|cases h
  clear hk
  have n4:((4:Int) != 0)=true:=rfl
  have n0:((0:Int) != 0)=false:=rfl
  rcases oa with ⟨rfl,ta,ta'⟩|rfl
  case inr =>
   simp only [Int.reduceBEq,Bool.false_eq_true,if_false]
   rcases hk' with rfl|rfl
   all_goals
    refine en Tryz.func99 [.cell 2 29,.cell 3 29,.tmp 4] rfl rfl fun g0 w0 gen hrel hfr hfr' hres=>?_
    repeat' (first
     |(refine ⟨?_,?_⟩;focus ((repeat' (first|refine ⟨?_,?_⟩|refine .inr ?_));all_goals kernel_rfl))
     |exact hin _|exact agf (by assumption)
     | (first|refine wp rfl ?_|refine spt rfl ?_|refine spf rfl ?_|(refine spl (fun hc=>?_) fun hc=>?_)<;>(try rw [beq_iff_eq] at hc)<;>try simp only [hc]|(refine gs (fun hb=>?_) fun hb=>?_)<;>try simp only [Bool.not_true,Bool.not_false] at hb|refine cp ca ?_|refine finF hrel ?_ ?_ ?_)<;>try simp only [go_sem, *])
  simp only at ta ta'
  have z1:=ta.2
  have z2:=ta'.2
  have z3:=ht.2
  simp only [beq_self_eq_true,if_true]
  rcases hk' with rfl|rfl
  ·simp only [chCase,List.getD_cons_zero,List.getD_cons_succ,Int.reduceBEq,if_true,Bool.false_eq_true,if_false]
   have FA:TyF (chFun t wa):=chFun_F ht.1 ta.1
   have FB:TyF (chPair t xa):=chPair_F ht.1 ta'.1
   have eA:=err04_F FA (by have:=chFun_sz (a:=t) (b:=wa);omega)
   have eB:=err04_F FB (by have:=chPair_sz (a:=t) (b:=xa);omega)
   have cA:=c_refTyCheck _ FA.W
   have cB:=c_refTyCheck _ FB.W
   have p1:=c_r28Fun t wa
   have p2:=c_r28Pair t xa
   clear FA FB ta ta' ht z1 z2 z3
   generalize chFun t wa=A at *
   generalize chPair t xa=B at *
   obtain ⟨v,hv,hin,v1,v2,v3⟩:=sized_v eA eB
   rw [← hv]
   clear hv eA eB
   generalize tyErr A=e1 at *
   generalize tyErr B=e2 at *
   refine en Tryz.func99 [.cell 2 29,.cell 3 29,.tmp 4] rfl rfl fun g0 w0 gen hrel hfr hfr' hres=>?_
   repeat' (first
    |(refine ⟨?_,?_⟩;focus ((repeat' (first|refine ⟨?_,?_⟩|refine .inr ?_));all_goals kernel_rfl))
    |exact hin _|exact agf (by assumption)
    | (first|refine wp rfl ?_|refine spt rfl ?_|refine spf rfl ?_|(refine spl (fun hc=>?_) fun hc=>?_)<;>(try rw [beq_iff_eq] at hc)<;>try simp only [hc]|(refine gs (fun hb=>?_) fun hb=>?_)<;>try simp only [Bool.not_true,Bool.not_false] at hb|refine cp ca ?_|refine cp p1 ?_|refine cp p2 ?_|refine cp cA ?_|refine cp cB ?_|refine finF hrel ?_ ?_ ?_)<;>try simp only [go_sem, *])
   all_goals first|exact (v1 ‹_›).symm|exact (v2 ‹_› ‹_›).symm|exact (v3 ‹_› ‹_›).symm
  ·simp only [chCase,List.getD_cons_zero,List.getD_cons_succ,Int.reduceBEq,if_true,Bool.false_eq_true,if_false]
   have FA:TyF (chPair t wa):=chPair_F ht.1 ta.1
   have eA:=err04_F FA (by have:=chPair_sz (a:=t) (b:=wa);omega)
   have eB:=err04_F ta'.1 (by omega)
   have cA:=c_refTyCheck _ FA.W
   have cB:=c_refTyCheck _ ta'.1.W
   have p1:=c_r28Pair t wa
   clear FA ta ta' ht z1 z2 z3
   generalize chPair t wa=A at *
   obtain ⟨v,hv,hin,v1,v2,v3⟩:=sized_v eA eB
   rw [← hv]
   clear hv eA eB
   generalize tyErr A=e1 at *
   generalize tyErr xa=e2 at *
   refine en Tryz.func99 [.cell 2 29,.cell 3 29,.tmp 4] rfl rfl fun g0 w0 gen hrel hfr hfr' hres=>?_
   repeat' (first
    |(refine ⟨?_,?_⟩;focus ((repeat' (first|refine ⟨?_,?_⟩|refine .inr ?_));all_goals kernel_rfl))
    |exact hin _|exact agf (by assumption)
    | (first|refine wp rfl ?_|refine spt rfl ?_|refine spf rfl ?_|(refine spl (fun hc=>?_) fun hc=>?_)<;>(try rw [beq_iff_eq] at hc)<;>try simp only [hc]|(refine gs (fun hb=>?_) fun hb=>?_)<;>try simp only [Bool.not_true,Bool.not_false] at hb|refine cp ca ?_|refine cp p1 ?_|refine cp cA ?_|refine cp cB ?_|refine finF hrel ?_ ?_ ?_)<;>try simp only [go_sem, *])
   all_goals first|exact (v1 ‹_›).symm|exact (v2 ‹_› ‹_›).symm|exact (v3 ‹_› ‹_›).symm
theorem c_r28types {f:Fm} (hf:FmG false f) (hw:FmW f):Pure Tryz.prog env 50 [.agg f.cells] (.tup [.agg f.look.1.1.cells,.agg f.look.1.2.cells,.int .i64 f.look.2]):=by
 intro h
 have hz:=zT_cellsH
 have h1:=c_refFmCheck f hw
 have h2:=c_r28uniform f hw
 have h3:=c_r28Both hf hw
 have he:=hf.err
 have n4:((4:Int) != 0)=true:=rfl
 have n0:((0:Int) != 0)=false:=rfl
 unfold Fm.look
 rw [hf.uni] at h2 ⊢
 clear hf hw
 generalize f.ch=r at *
 obtain ⟨⟨a,b⟩,e⟩:=r
 simp only [Bool.false_eq_true,if_false] at h3 ⊢
 rcases he with he|he<;>rw [he] at h1 ⊢<;>simp only [Int.reduceBEq,if_true,Bool.false_eq_true,if_false]
 all_goals
  refine en Tryz.func50 [.cell 2 29,.cell 3 29,.tmp 4] rfl rfl fun g0 w0 gen hrel hfr hfr' hres=>?_
  repeat' (first
   |exact hin _|exact agf (by assumption)
   | (first|refine wp rfl ?_|refine spt rfl ?_|refine spf rfl ?_|(refine spl (fun hc=>?_) fun hc=>?_)<;>(try rw [beq_iff_eq] at hc)<;>try simp only [hc]|refine cp h1 ?_|refine cp h2 ?_|refine cp h3 ?_|refine finF hrel ?_ ?_ ?_)<;>try simp only [go_sem, *])
theorem c_r28Witness {f:Fm} (hf:FmG false f) (hw:FmW f):Pure Tryz.prog env 16 [.agg f.cells] (.tup [.agg f.look.1.1.cells,.int .i64 f.look.2]):=by
 intro h
 have h1:=c_r28types hf hw
 generalize f.look=r at *
 obtain ⟨⟨a,b⟩,e⟩:=r
 simp only at h1 ⊢
 refine en Tryz.func16 [.cell 2 29,.tmp 3] rfl rfl fun g0 w0 gen hrel hfr hfr' hres=>?_
 repeat' (first
  |exact hin _|exact agf (by assumption)
  | (first|refine wp rfl ?_|refine cp h1 ?_|refine finF hrel ?_ ?_ ?_)<;>try simp only [go_sem, *])
theorem c_r28Challenge {f:Fm} (hf:FmG false f) (hw:FmW f):Pure Tryz.prog env 17 [.agg f.cells] (.tup [.agg f.look.1.2.cells,.int .i64 f.look.2]):=by
 intro h
 have h1:=c_r28types hf hw
 generalize f.look=r at *
 obtain ⟨⟨a,b⟩,e⟩:=r
 simp only at h1 ⊢
 refine en Tryz.func17 [.cell 2 29,.tmp 3] rfl rfl fun g0 w0 gen hrel hfr hfr' hres=>?_
 repeat' (first
  |exact hin _|exact agf (by assumption)
  | (first|refine wp rfl ?_|refine cp h1 ?_|refine finF hrel ?_ ?_ ?_)<;>try simp only [go_sem, *])
end Go.Proofs.YtbfilinnoedfeaaGreatDoor
