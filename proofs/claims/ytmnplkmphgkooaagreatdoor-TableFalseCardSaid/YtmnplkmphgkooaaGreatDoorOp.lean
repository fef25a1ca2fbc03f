/-
 Walks: the terms of plain values (reference).
-/
import Derived.Test.YtmnplkmphgkooaaGreatDoorMc
import Derived.Test.YtmnplkmphgkooaaGreatDoorAbsDc
set_option linter.unusedSimpArgs false
set_option linter.unusedVariables false
set_option maxRecDepth 20000
set_option maxHeartbeats 4000000
namespace Go.Proofs.YtmnplkmphgkooaaGreatDoor
open Go GoAbs Go.Proofs
theorem ints_at {l:List Nat} {i:Nat} {x:Nat} (h:l[i]? = some x):(ints (l.map fun (n:Nat)=>(n:Int)))[i]? = some [.int .i64 (x:Int)]:=by
 rw [ints_get,List.getElem?_map,h];rfl
theorem ints_nat_len (l:List Nat):(ints (l.map fun (n:Nat)=>(n:Int))).length=l.length:=by rw [ints_len,List.length_map]
theorem listT_drop {l:List Nat} {i x:Nat} (h:l[i]? = some x):listT (l.drop i)=tm0 8 [numT x,listT (l.drop (i+1))]:=by rw [drop_get h];rfl
end Go.Proofs.YtmnplkmphgkooaaGreatDoor
