/-
 Walks: several parts in one text.
-/
import Derived.Test.YtbfilinnoedfeaaGreatDoorMa
import Derived.Test.YtbfilinnoedfeaaGreatDoorAbsDc
import Derived.Test.YtbfilinnoedfeaaGreatDoorAbsC
import Derived.Test.YtbfilinnoedfeaaGreatDoorAbsDd
import Derived.Test.YtbfilinnoedfeaaGreatDoorNx
set_option linter.unusedSimpArgs false
set_option linter.unusedVariables false
set_option maxRecDepth 20000
set_option maxHeartbeats 4000000
namespace Go.Proofs.YtbfilinnoedfeaaGreatDoor
open Go GoAbs Go.Proofs
attribute [local go_sem] Option.map_none
theorem c_conFirst (l:List Tm) (hl:l.length≤100000):Pure Tryz.prog env 82 [.sl .any (l.map Tm.cells)] (.sl .any ((l.take 64).map Tm.cells)):=by
 intro h
 have e2:(l.map Tm.cells).take 64=(l.take 64).map Tm.cells:=by rw [List.map_take]
 rcases Nat.lt_or_ge 64 l.length with hlt|hge
 ·have hm:(64<(l.length:Int))=True:=by simp;omega
  have hm2:(64≤l.length)=True:=by simp;omega
  refine en Tryz.func82 [.tmp 2] rfl rfl fun g0 w0 gen hrel hfr hfr' hres=>?_
  repeat' (first
   |exact hin _|exact agf (by assumption)
   | (first|refine wp rfl ?_|refine finF hrel ?_ ?_ ?_)<;>try simp only [go_sem, *])
 ·have e:l.take 64=l:=List.take_of_length_le (by omega)
  have hm:(64<(l.length:Int))=False:=by simp;omega
  have e3:(l.map Tm.cells).take l.length=l.map Tm.cells:=List.take_of_length_le (by simp)
  have h4:(0≤l.length)=True:=by simp
  have h5:(l.length≤l.length)=True:=by simp
  rw [e]
  refine en Tryz.func82 [.tmp 2] rfl rfl fun g0 w0 gen hrel hfr hfr' hres=>?_
  repeat' (first
   |exact hin _|exact agf (by assumption)
   | (first|refine wp rfl ?_|refine finF hrel ?_ ?_ ?_)<;>try simp only [go_sem, *])
theorem numsT_succ {i:Nat}:numsT (i+1)=numsT i++[numT (i+1)]:=by
 simp only [numsT]
 rw [List.range_succ,List.map_append];rfl
theorem c_conNumbers (m:Nat) (hm:m≤16):Pure Tryz.prog env 78 [.int .i64 m] (.sl .any ((numsT m).map Tm.cells)):=by
 intro h
 have hwk:weakLL ((numsT m).map Tm.cells)=(numsT m).map Tm.cells:=weakLL_Tm _
 refine en Tryz.func78 [.tmp 2] rfl rfl fun g0 w0 gen hrel hfr hfr' hres=>?_
 repeat' (first
  |exact hin _|exact agf (by assumption)
  | (first|refine wp rfl ?_|refine spt rfl ?_|refine spf rfl ?_|(refine spl (fun hc=>?_) fun hc=>?_)<;>(try rw [beq_iff_eq] at hc)<;>try simp only [hc]|refine finF hrel ?_ ?_ ?_)<;>try simp only [go_sem, *])
 refine AR_weakEls 3 (cc:=.full) (es:=[[.int .i64 4,.int .i64 0,.int .i64 0,.sl .full [],.sl .full []]]) (by simp only [go_sem, *]) ?_
 refine AR_loop_nat (fun i σ=>σ.tm 0=.int .i64 m∧OwnS h σ.h (σ.tm 3) 5 ((numsT i).map Tm.cells)∧Agree h σ.h) m ?_ ?_
 ·simp only [go_sem, *]
  exact ⟨.inl rfl,(by repeat (first|exact Agree.refl _|assumption|refine Agree.new ?_ (hgf0 _ _)|refine Agree.new ?_ (hfr' _ _)))⟩
 intro i σ hi ⟨j1,j2,j3⟩
 refine AR_gen (fun gn hgn=>?_)
 have hgf:=fresh_of hgn
 have hgf0:∀ r i,h ⟨gn,r,i⟩=none:=fun r i=>agree_fresh j3 (hgf r i)
 clear hgn
 obtain ⟨c0,jv⟩:=j2.val
 rw [jv] at j2
 have hlen:((numsT i).map Tm.cells).length=i+1:=by rw [List.length_map,numsT_len]
 have hlen2:(numsT i).length=i+1:=numsT_len
 rcases Nat.lt_or_ge i m with hlt|hge
 ·have hc1:decide (((i+1:Nat):Int)≤(m:Int))=true:=by simp;omega
  have hw:IntKind.i64.wrap (((i+1:Nat):Int) - 1)=(i:Int):=wrap_eq (by omega) (by omega) (by omega)
  have hx:(numsT i)[i]? = some (numT i):=numsT_get (Nat.le_refl _)
  have hti:Int.toNat (i:Int)=i:=rfl
  have h0i:(0≤(i:Int))=True:=by simp
  have hii:i<i+1:=by omega
  have hst:numsT (i+1)=numsT i++[numT (i+1)]:=numsT_succ
  have hcell:(numT (i+1)).cells=[.int .i64 5,.int .i64 0,.int .i64 0,.sl .any [],.sl .any [(numT i).cells]]:=by rw [numT,tm0,Tm.mk_cells];rfl
  have hwl:weakLL ((numsT i).map Tm.cells)=(numsT i).map Tm.cells:=weakLL_Tm _
  have hwt:weakL (numT i).cells=(numT i).cells:=weakL_Tm _
  generalize numT i=u at *
  generalize numT (i+1)=u' at *
  generalize numsT i=N at *
  generalize numsT (i+1)=N' at *
  subst hst
  repeat' (first
   |(refine okE_app_own j2 (by repeat (first|exact Keeps.refl _|refine Keeps.new ?_ (hgf _ _)|refine Keeps.new ?_ (hfr' _ _)|refine Keeps.box ?_ rfl|refine Keeps.box ?_ (by simp only [go_sem, *]))) rfl (by simp only [go_sem, *]<;>omega) (by first|exact hgf0 _ _|exact hfr' _ _) (by simp only [go_sem, *]) (by intro hd;cases hd) ?_;intro v' h' log' jO jK jAg jAb jF;simp only [go_sem, *])
   | (first|refine wp rfl ?_|refine spt rfl ?_|refine spf rfl ?_|(refine spl (fun hc=>?_) fun hc=>?_)<;>(try rw [beq_iff_eq] at hc)<;>try simp only [hc])<;>try simp only [go_sem, *])
  obtain ⟨c1,rfl⟩:=jO.val
  refine AR_weakEls 3 (cc:=c1) (by simp only [go_sem, *];rfl) ?_
  refine AR_inv ?_
  have jO2:=jO.weakEls
  have e9:weakLL [[V.int .i64 5,V.int .i64 0,V.int .i64 0,.sl .full [],.sl .full [u.cells] ]]=[u'.cells]:=by
   rw [hcell];simp only [weakLL,weakL,weak,hwt]
  have ea:weakLL (N.map Tm.cells++[[V.int .i64 5,V.int .i64 0,V.int .i64 0,.sl .full [],.sl .full [u.cells] ]])=(N++[u']).map Tm.cells:=by
   rw [weakLL_appU,hwl,e9];simp
  rw [ea] at jO2 ⊢
  have jA2:=jAg j3
  clear hcell hwl hwt e9 ea hwk hc1 hw hx hti h0i hii jv hlen hlen2
  simp only [go_sem]
  exact ⟨j1,jO2,jA2⟩
 ·obtain rfl:i=m:=by omega
  have hc1:decide (((i+1:Nat):Int)≤(i:Int))=false:=by simp;omega
  generalize numsT i=N at *
  repeat' (first
   |exact hin _|exact agf (by assumption)
   | (first|refine wp rfl ?_|refine spt rfl ?_|refine spf rfl ?_|(refine spl (fun hc=>?_) fun hc=>?_)<;>(try rw [beq_iff_eq] at hc)<;>try simp only [hc]|refine finF hrel ?_ ?_ ?_)<;>try simp only [go_sem, *])
end Go.Proofs.YtbfilinnoedfeaaGreatDoor
