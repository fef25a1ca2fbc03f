/-
 Walks: several parts in one text.
-/
import Derived.Test.YtmnplkmphgkooaaGreatDoorTe
set_option linter.unusedSimpArgs false
set_option linter.unusedVariables false
set_option maxRecDepth 20000
set_option maxHeartbeats 4000000
namespace Go.Proofs.YtmnplkmphgkooaaGreatDoor
open Go GoAbs Go.Proofs
theorem fdp_map {g:Fm→Fm}:∀ l:List Fm,(∀ x∈l,fdp (g x)=fdp x)→fdpL (l.map g)=fdpL l
 | [],_=>rfl
 | x::l,h=>by rw [List.map_cons,fdpL,fdpL,h x (by simp),fdp_map l (fun y hy=>h y (by simp [hy]))]
theorem fdp_ev {F:Tm→Int→Tm}:∀ (f:Fm) (b:Int),fdp (f.ev F b)=fdp f:=by
 intro f
 induction f using Fm.ind with|h f ih=>?_
 intro b
 rw [Fm.ev_eq]
 cases f with|mk k t l a =>
 rw [fdp,fdp]
 simp only [Fm.args] at ih ⊢
 rw [fdp_map a (fun x hx=>ih x hx _)]
theorem mTwo_W {k:Int} {x y:Fm × Int} (hx:FmW x.1) (hy:FmW y.1):FmW (mTwo k x y).1:=by
 unfold mTwo
 repeat' split
 ·exact zeroF_W'
 ·exact zeroF_W'
 ·exact zeroF_W'
 ·exact fmTwo_W hx hy
end Go.Proofs.YtmnplkmphgkooaaGreatDoor
