/-
 Walks: several parts in one text.
-/
import Derived.Test.YtbfilinnoedfeaaGreatDoorTa
import Derived.Test.YtbfilinnoedfeaaGreatDoorAbsDd
import Derived.Test.YtbfilinnoedfeaaGreatDoorMb
set_option linter.unusedSimpArgs false
set_option linter.unusedVariables false
set_option maxRecDepth 20000
set_option maxHeartbeats 4000000
namespace Go.Proofs.YtbfilinnoedfeaaGreatDoor
open Go GoAbs Go.Proofs
def growL (P N:List Tm) (f:Tm→Tm) (i:Nat):List Tm:=P++(N.take i).map f
theorem growL_succ {P N:List Tm} {f:Tm→Tm} {i:Nat} {x:Tm} (h:N[i]? = some x):growL P N f (i+1)=growL P N f i++[f x]:=by
 simp only [growL,List.take_add_one,h];simp
theorem growL_zero {P N:List Tm} {f:Tm→Tm}:growL P N f 0=P:=by simp [growL]
theorem growL_full {P N:List Tm} {f:Tm→Tm}:growL P N f N.length=P++N.map f:=by simp [growL]
theorem growL_len {P N:List Tm} {f:Tm→Tm} {i:Nat}:(growL P N f i).length≤P.length+N.length:=by simp [growL];omega
theorem growL_map {P N:List Tm} {f:Tm→Tm} {i:Nat} {x:Tm} (h:N[i]? = some x):(growL P N f i).map Tm.cells++[(f x).cells]=(growL P N f (i+1)).map Tm.cells:=by
 rw [growL_succ h];simp
def growF (P N:List Tm) (g:Tm→List Tm) (i:Nat):List Tm:=P++(N.take i).flatMap g
theorem growF_succ {P N:List Tm} {g:Tm→List Tm} {i:Nat} {x:Tm} (h:N[i]? = some x):growF P N g (i+1)=growF P N g i++g x:=by
 simp only [growF,List.take_add_one,h];simp
theorem growF_zero {P N:List Tm} {g:Tm→List Tm}:growF P N g 0=P:=by simp [growF]
theorem growF_full {P N:List Tm} {g:Tm→List Tm}:growF P N g N.length=P++N.flatMap g:=by simp [growF]
theorem growF_len {P N:List Tm} {g:Tm→List Tm} {c:Nat} (hc:∀ x,(g x).length≤c):∀ {i:Nat},(growF P N g i).length≤P.length+i * c
 | 0=>by simp [growF]
 | i+1=>by
  have ih:=@growF_len P N g c hc i
  rcases Nat.lt_or_ge i N.length with h|h
  ·rw [growF_succ (List.getElem?_eq_getElem h),List.length_append,Nat.add_mul]
   have:=hc N[i]
   omega
  ·have e:growF P N g (i+1)=growF P N g i:=by simp only [growF,List.take_of_length_le h,List.take_of_length_le (show N.length≤i+1 by omega)]
   rw [e,Nat.add_mul];omega
theorem c_conOfNat (m:Nat) (hm:m≤16):Pure Tryz.prog env 39 [.agg tNat.cells,.int .i64 m] (.sl .any (((numsT m).take 64).map Tm.cells)):=by
 intro h
 have h1:=c_conNumbers m hm
 have h2:=c_conFirst (numsT m) (by rw [numsT_len];omega)
 have hk:tNat.kind=1:=rfl
 generalize tNat=t at *
 generalize numsT m=N at *
 refine en Tryz.func39 [.tmp 4] rfl rfl fun g0 w0 gen hrel hfr hfr' hres=>?_
 repeat' (first
  |(refine ⟨?_,?_⟩;focus ((repeat' (first|refine ⟨?_,?_⟩|refine .inr ?_));all_goals kernel_rfl))
  |exact hin _|exact agf (by assumption)
  | (first|refine wp rfl ?_|refine spt rfl ?_|refine spf rfl ?_|(refine spl (fun hc=>?_) fun hc=>?_)<;>(try rw [beq_iff_eq] at hc)<;>try simp only [hc]|refine cp h1 ?_|refine cp h2 ?_|refine finF hrel ?_ ?_ ?_)<;>try simp only [go_sem, *])
theorem c_conCandOf (m:Nat) (hm:m≤16) {t:Ty} {L:List Tm} (h:TyW t) (he:tyErr t=0) (h2:Pure Tryz.prog env 39 [.agg t.cells,.int .i64 m] (.sl .any (L.map Tm.cells))) :
  Pure Tryz.prog env 11 [.agg t.cells,.int .i64 m] (.tup [.sl .any (L.map Tm.cells),.int .i64 0]):=by
 intro g
 have h1:=c_typesCheck t h
 rw [he] at h1
 have hc2:decide ((m:Int)<0)=false:=by simp
 have hc3:decide ((m:Int)>16)=false:=by simp;omega
 have n0:((0:Int) != 0)=false:=rfl
 clear h he
 refine en Tryz.func11 [.tmp 4,.tmp 5] rfl rfl fun g0 w0 gen hrel hfr hfr' hres=>?_
 repeat' (first
  |exact hin _|exact agf (by assumption)
  | (first|refine wp rfl ?_|refine spt rfl ?_|refine spf rfl ?_|(refine spl (fun hc=>?_) fun hc=>?_)<;>(try rw [beq_iff_eq] at hc)<;>try simp only [hc]|(refine gs (fun hb=>?_) fun hb=>?_)<;>try simp only [Bool.not_true,Bool.not_false] at hb|refine cp h1 ?_|refine cp h2 ?_|refine finF hrel ?_ ?_ ?_)<;>try simp only [go_sem, *])
end Go.Proofs.YtbfilinnoedfeaaGreatDoor
