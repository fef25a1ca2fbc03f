/-
 Walks: several parts in one text.
-/
import Derived.Test.YtmnplkmphgkooaaGreatDoorMa
import Derived.Test.YtmnplkmphgkooaaGreatDoorAbsDd
import Derived.Test.YtmnplkmphgkooaaGreatDoorAbsC
import Derived.Test.YtmnplkmphgkooaaGreatDoorNx
set_option linter.unusedSimpArgs false
set_option linter.unusedVariables false
set_option maxRecDepth 20000
set_option maxHeartbeats 4000000
namespace Go.Proofs.YtmnplkmphgkooaaGreatDoor
open Go GoAbs Go.Proofs
attribute [local go_sem] Option.map_none
theorem c_conFirst (l:List Tm) (hl:l.length≤100000):Pure Tryz.prog env 148 [.sl .any (l.map Tm.cells)] (.sl .any ((l.take 64).map Tm.cells)):=by
 intro h
 have e2:(l.map Tm.cells).take 64=(l.take 64).map Tm.cells:=by rw [List.map_take]
 rcases Nat.lt_or_ge 64 l.length with hlt|hge
 ·have hm:(64<(l.length:Int))=True:=by simp;omega
  have hm2:(64≤l.length)=True:=by simp;omega
  exact ek_ Tryz.func148 [.tmp 2]
 ·have e:l.take 64=l:=List.take_of_length_le (by omega)
  have hm:(64<(l.length:Int))=False:=by simp;omega
  have e3:(l.map Tm.cells).take l.length=l.map Tm.cells:=List.take_of_length_le (by simp)
  have h4:(0≤l.length)=True:=by simp
  have h5:(l.length≤l.length)=True:=by simp
  rw [e]
  exact ek_ Tryz.func148 [.tmp 2]
theorem c_conCons (a l:Tm):Pure Tryz.prog env 146 [.agg a.cells,.agg l.cells] (.agg (consT a l).cells):=by
 intro h
 have hv:(consT a l).cells=[.int .i64 8,.int .i64 0,.int .i64 0,.sl .any [],.sl .any [a.cells,l.cells]]:=by rw [consT,tm0,Tm.mk_cells];rfl
 rw [hv]
 exact ek_ Tryz.func146 [.cell 4 32]
theorem numsT_succ {i:Nat}:numsT (i+1)=numsT i++[numT (i+1)]:=by
 simp only [numsT]
 rw [List.range_succ,List.map_append];rfl
theorem c_conNumbers (m:Nat) (hm:m≤16):Pure Tryz.prog env 145 [.int .i64 m] (.sl .any ((numsT m).map Tm.cells)):=by
 intro h
 have hwk:weakLL ((numsT m).map Tm.cells)=(numsT m).map Tm.cells:=weakLL_Tm _
 refine en_ Tryz.func145 [.tmp 2] fun g0 w0 gen hrel hfr hfr' hres=>?_
 refine wq_ ?_
 refine AR_weakEls 3 (cc:=.full) (es:=[[.int .i64 4,.int .i64 0,.int .i64 0,.sl .full [],.sl .full []]]) (by simp only [go_sem, *]) ?_
 refine AR_loop_nat (fun i σ=>σ.tm 0=.int .i64 m∧OwnS h σ.h (σ.tm 3) 5 ((numsT i).map Tm.cells)∧Agree h σ.h) m ?_ ?_
 ·simp only [go_sem, *]
  exact ⟨.inl rfl,ag_⟩
 intro i σ hi ⟨j1,j2,j3⟩
 refine AR_gen (fun gn hgn=>?_)
 have hgf:=fresh_of hgn
 have hgf0:∀ r i,h ⟨gn,r,i⟩=none:=fun r i=>agree_fresh j3 (hgf r i)
 clear hgn
 obtain ⟨c0,jv⟩:=j2.val
 rw [jv] at j2
 have hlen:((numsT i).map Tm.cells).length=i+1:=by rw [List.length_map,numsT_len]
 have hlen2:(numsT i).length=i+1:=numsT_len
 rcases Nat.lt_or_ge i m with hlt|hge
 ·have hc1:decide (((i+1:Nat):Int)≤(m:Int))=true:=by simp;omega
  have hw:IntKind.i64.wrap (((i+1:Nat):Int) - 1)=(i:Int):=wrap_eq (by omega) (by omega) (by omega)
  have hx:(numsT i)[i]? = some (numT i):=numsT_get (Nat.le_refl _)
  have hti:Int.toNat (i:Int)=i:=rfl
  have h0i:(0≤(i:Int))=True:=by simp
  have hii:i<i+1:=by omega
  have hst:numsT (i+1)=numsT i++[numT (i+1)]:=numsT_succ
  have hcell:(numT (i+1)).cells=[.int .i64 5,.int .i64 0,.int .i64 0,.sl .any [],.sl .any [(numT i).cells]]:=by rw [numT,tm0,Tm.mk_cells];rfl
  have hwl:weakLL ((numsT i).map Tm.cells)=(numsT i).map Tm.cells:=weakLL_Tm _
  have hwt:weakL (numT i).cells=(numT i).cells:=weakL_Tm _
  generalize numT i=u at *
  generalize numT (i+1)=u' at *
  generalize numsT i=N at *
  generalize numsT (i+1)=N' at *
  subst hst
  repeat' (first
   |(refine okE_app_own j2 (by repeat (first|exact Keeps.refl _|refine Keeps.new ?_ (hgf _ _)|refine Keeps.new ?_ (hfr' _ _)|refine Keeps.box ?_ rfl|refine Keeps.box ?_ (by simp only [go_sem, *]))) rfl (by simp only [go_sem, *]<;>omega) (by first|exact hgf0 _ _|exact hfr' _ _) (by simp only [go_sem, *]) (by intro hd;cases hd) ?_;intro v' h' log' jO jK jAg jAb jF;simp only [go_sem, *])
   | (first|refine wp rfl ?_|refine spt rfl ?_|refine spf rfl ?_|(refine spl (fun hc=>?_) fun hc=>?_)<;>(try rw [beq_iff_eq] at hc)<;>try simp only [hc])<;>try simp only [go_sem, *])
  obtain ⟨c1,rfl⟩:=jO.val
  refine AR_weakEls 3 (cc:=c1) (by simp only [go_sem, *];rfl) ?_
  refine AR_inv ?_
  have jO2:=jO.weakEls
  have e9:weakLL [[V.int .i64 5,V.int .i64 0,V.int .i64 0,.sl .full [],.sl .full [u.cells] ]]=[u'.cells]:=by
   rw [hcell];simp only [weakLL,weakL,weak,hwt]
  have ea:weakLL (N.map Tm.cells++[[V.int .i64 5,V.int .i64 0,V.int .i64 0,.sl .full [],.sl .full [u.cells] ]])=(N++[u']).map Tm.cells:=by
   rw [weakLL_appU,hwl,e9];simp
  rw [ea] at jO2 ⊢
  have jA2:=jAg j3
  clear hcell hwl hwt e9 ea hwk hc1 hw hx hti h0i hii jv hlen hlen2
  simp only [go_sem]
  exact ⟨j1,jO2,jA2⟩
 ·obtain rfl:i=m:=by omega
  have hc1:decide (((i+1:Nat):Int)≤(i:Int))=false:=by simp;omega
  generalize numsT i=N at *
  exact wk_
theorem h5T (l:List Tm):∀ x∈l.map Tm.cells,x.length=5:=by
 intro x hx
 obtain ⟨y,_,rfl⟩:=List.mem_map.1 hx
 exact Tm.cells_len y
theorem c_conSame (a b:Ty) (ha:TyW a) (hb:TyW b):Pure Tryz.prog env 35 [.agg a.cells,.agg b.cells] (.bool (Ty.same a b)):=by
 intro h
 have h1:=c_SameType a ha b hb
 clear ha hb
 exact ek_ Tryz.func35 [.tmp 4]
theorem c_conLam (a b:Ty) (cb:Tm) (d tk q:GoAbs.Id) (es:List Tm) (hl:es.length≤90000) (hn:d≠tk) (hqd:q≠d) :
  Turns2 Tryz.prog env 147 [.agg cb.cells,.ptr d 0,.ptr q 0] [(q,.box (tFun a b).cells)] d (.box [.sl (.own tk) (es.map Tm.cells)]) tk (.tok es.length 5) (.tup [])
   (.box [.sl (.own tk) ((es++[tmT 2 a [cb]]).map Tm.cells)]) (.tok (es.length+1) 5):=by
 intro h hes hd he
 have hq:h q=some (.box (tFun a b).cells):=hes (q,.box (tFun a b).cells) (by simp)
 have hlen:(es.map Tm.cells).length=es.length:=by simp
 have hmap:(es++[tmT 2 a [cb]]).map Tm.cells=es.map Tm.cells++[(tmT 2 a [cb]).cells]:=by simp
 have hcell:(tmT 2 a [cb]).cells=[.int .i64 2,.int .i64 0,.int .i64 a.kind,.sl .any (a.args.map Ty.cells),.sl .any [cb.cells]]:=by rw [tmT,Tm.mk_cells];rfl
 have htk:(tFun a b).kind=4:=rfl
 have hta:(tFun a b).args=[a,b]:=rfl
 have ndt:(d=tk)=False:=eq_false hn
 have ndt':(tk=d)=False:=eq_false (Ne.symm hn)
 have nqd:(q=d)=False:=eq_false hqd
 have nqd':(d=q)=False:=eq_false (Ne.symm hqd)
 have nqt:(q=tk)=False:=obj_ne hq he
 have nqt':(tk=q)=False:=obj_ne' hq he
 rw [hmap]
 clear hes
 generalize tFun a b=t at *
 generalize tmT 2 a [cb]=u at *
 refine en_ Tryz.func147 [] fun g0 w0 gen hrel hfr hfr' hres=>?_
 have f1:=fresh_ne hfr hd
 have f2:=fresh_ne' hfr hd
 have f3:=fresh_ne hfr he
 have f4:=fresh_ne' hfr he
 have f5:=fresh_ne hfr hq
 have f6:=fresh_ne' hfr hq
 repeat' (first
  |refine AR_seq ?_|refine AR_skip ?_|refine AR_block ?_|refine AR_block_end ?_|refine AR_exit ?_|refine AR_code_exit ?_|refine AR_inv_exit ?_|refine AR_block_hit ?_
  |refine AR_block_pass (by decide) ?_|refine AR_ret ?_|refine AR_fall ?_
  |(refine ⟨?_,?_⟩;focus ((repeat' (first|refine ⟨?_,?_⟩|refine .inr ?_));all_goals kernel_rfl))
  |refine AR_cond_t rfl ?_|refine AR_cond_f rfl ?_|(refine AR_cond rfl (fun hc=>?_) (fun hc=>?_)<;>(try rw [beq_iff_eq] at hc)<;>(try simp only [hc]))
  | ((first|refine AR_regionN ?_|(refine guarded_split (fun hb=>?_) (fun hb=>?_)<;>(try simp only [Bool.not_true,Bool.not_false] at hb))|refine AR_fin hrel (by first|exact hin _|simp only [go_sem,and_self]) ag_ ?_)<;>simp only [go_sem, *]))
 refine AR_growB (p:=10) d tk ⟨gen,99,99⟩ (es.map Tm.cells) u.cells (h5T _) (by first|omega|simp only [List.length_map];omega) (Tm.cells_len _) (Tm.cells_one _) (by kernel_rfl) rfl ⟨by kernel_rfl,by kernel_rfl,by kernel_rfl,by kernel_rfl,by kernel_rfl,by kernel_rfl,by kernel_rfl,by kernel_rfl,by kernel_rfl,by kernel_rfl⟩ (ts:=4) (ty:=13) (tn:=12) (tv:=11) (tb:=1) (d5:=14) (d6:=15)
  ⟨⟨_,rfl,rfl,rfl,rfl⟩,⟨_,rfl,rfl,rfl,rfl⟩,⟨_,rfl,rfl,rfl,rfl⟩,⟨_,rfl,rfl,rfl,rfl⟩,ty30,ty32,rfl,rfl,by decide,rfl,rfl,of_decide_eq_true (by kernel_rfl),of_decide_eq_true (by kernel_rfl),by decide,by decide⟩ (by decide) rfl (by decide) ?_
 simp only [go_sem, *]
 repeat' (first
  |(refine ⟨?_,?_⟩;focus ((repeat' (first|refine ⟨?_,?_⟩|refine .inr ?_));all_goals kernel_rfl))
  | (first|fail)<;>try simp only [go_sem, *])
 unfold grownB
 simp only [go_sem, *]
 refine AR_fall ?_
 refine AR_fin_turn2 hrel hn hd he ?_ ?_ ?_ ?_ ?_ ?_
 case refine_2 =>
  rw [← hcell,← hmap]
  simp only [InL,InV,capIn,InLL_Tm,and_true]
  rw [hset_other (Ne.symm hn),hset_same];simp
 all_goals simp only [go_sem, *]
 all_goals try exact (by repeat (first|exact AgreeBut2.refl _ _ _|refine AgreeBut2.set1 ?_|refine AgreeBut2.set2 ?_|refine AgreeBut2.new ?_ (hfr' _ _)))
end Go.Proofs.YtmnplkmphgkooaaGreatDoor
