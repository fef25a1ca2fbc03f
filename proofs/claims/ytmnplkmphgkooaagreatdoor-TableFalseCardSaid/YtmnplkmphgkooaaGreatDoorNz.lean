/-
 Walks: several parts in one text.
-/
import Derived.Test.YtmnplkmphgkooaaGreatDoorMc
import Derived.Test.YtmnplkmphgkooaaGreatDoorMb
import Derived.Test.YtmnplkmphgkooaaGreatDoorAbsD
import Derived.Test.YtmnplkmphgkooaaGreatDoorMd
import Derived.Test.YtmnplkmphgkooaaGreatDoorNx
import Derived.Test.YtmnplkmphgkooaaGreatDoorMa
import Derived.Test.YtmnplkmphgkooaaGreatDoorMn
set_option linter.unusedSimpArgs false
set_option linter.unusedVariables false
set_option maxRecDepth 20000
set_option maxHeartbeats 4000000
namespace Go.Proofs.YtmnplkmphgkooaaGreatDoor
open Go GoAbs Go.Proofs
theorem fmTy_parts {g:List Ty} {f:Fm} (h:FmTy TyG g f):(∀ x∈f.terms,HasTy TyG g x tNat)∧(∀ x∈f.args,FmTy TyG (if quant f.kind then g++[f.type] else g) x):=by
 cases h with
 | eq h1 h2=>exact ⟨by intro x hx;simp [fmEq,Fm.terms] at hx;rcases hx with rfl|rfl<;>assumption,by simp [fmEq,Fm.args]⟩
 | @two g k a b hk h1 h2 =>
  have e:quant k=false:=by rcases hk with rfl|rfl<;>rfl
  refine ⟨by simp [fmTwo,Fm.terms],?_⟩
  intro x hx
  simp only [fmTwo,Fm.args,Fm.kind,e,Bool.false_eq_true,if_false,List.mem_cons,List.not_mem_nil,or_false] at hx ⊢
  rcases hx with rfl|rfl<;>assumption
 | @q g k s a hk h1 =>
  have e:quant k=true:=by rcases hk with rfl|rfl|rfl|rfl<;>rfl
  refine ⟨by simp [fmQ,Fm.terms],?_⟩
  intro x hx
  simp only [fmQ,Fm.args,Fm.kind,Fm.type,e,if_true,List.mem_cons,List.not_mem_nil,or_false] at hx ⊢
  subst hx;exact h1
end Go.Proofs.YtmnplkmphgkooaaGreatDoor
