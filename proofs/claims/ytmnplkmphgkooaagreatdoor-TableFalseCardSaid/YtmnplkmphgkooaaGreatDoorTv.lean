/-
 Walks: several parts in one text.
-/
import Derived.Test.YtmnplkmphgkooaaGreatDoorMc
import Derived.Test.YtmnplkmphgkooaaGreatDoorAbsDd
set_option linter.unusedSimpArgs false
set_option linter.unusedVariables false
set_option maxRecDepth 20000
set_option maxHeartbeats 4000000
namespace Go.Proofs.YtmnplkmphgkooaaGreatDoor
open Go GoAbs Go.Proofs
def ValM (l:List Int) (t:Ty) (n:Nat):Prop:=∀ a,∃ v tm a',IsVl t v tm∧tmSz tm≤n∧∀ d,Turns Tryz.prog env 9 [.ptr d 0,.agg t.cells] d (.box (deckC l a)) (.agg v.cells) (.box (deckC l a'))
theorem c_ValueNat (l:List Int) (hl:l.length≤1000):ValM l tNat 5:=by
 intro a
 have hr:=nextD_range (l:=l) (a:=a) (n:=5) (by omega) (by omega)
 have hX:=c_Next l hl
 generalize hq:nextD l a 5=q at hr
 obtain ⟨c,a1⟩:=q
 have hN:∀ d,Turns Tryz.prog env 22 [.ptr d 0,.int .i64 5] d (.box (deckC l a)) (.int .i64 c) (.box (deckC l a1)):=fun d=>by
  have:=hX d a 5
  rw [hq] at this
  exact this
 clear hX hq hl
 simp only at hr
 obtain ⟨n,rfl⟩:∃ n:Nat,c=n:=⟨c.toNat,by omega⟩
 refine ⟨.mk 1 n [] [],numT n,a1,.num n,by rw [tmSz_num];omega,fun d h hd=>?_⟩
 have ec:tNat.cells=[.int .i64 1,.sl .any []]:=by rw [show tNat=Ty.mk 1 [] from rfl,Ty.cells_eq];rfl
 rw [ec,PVl.mk_cells]
 clear hr
 refine en_ Tryz.func9 [.cell 4 40] fun g0 w0 gen hrel hfr hfr' hres=>?_
 have f1:=fresh_ne hfr hd
 have f2:=fresh_ne' hfr hd
 repeat' (first
  |(refine ⟨?_,?_⟩;focus ((repeat' (first|refine ⟨?_,?_⟩|refine .inr ?_));all_goals kernel_rfl))
  |exact agb (by assumption)
  | (first|refine wp rfl ?_|refine spt rfl ?_|refine spf rfl ?_|(refine spl (fun hc=>?_) fun hc=>?_)<;>(try rw [beq_iff_eq] at hc)<;>try simp only [hc]|(refine ct (hN _) ?_ ?_;focus ((simp only [go_sem, *]<;>rfl);done))|refine finT hrel hd ?_ ?_ ?_ ?_ ?_)<;>try simp only [go_sem, *])
 rfl
end Go.Proofs.YtmnplkmphgkooaaGreatDoor
