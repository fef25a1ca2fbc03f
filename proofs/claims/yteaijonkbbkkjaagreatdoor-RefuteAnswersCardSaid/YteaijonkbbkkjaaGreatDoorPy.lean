/-
 Walks: several parts in one text.
-/
import Derived.Test.YteaijonkbbkkjaaGreatDoorMz
import Derived.Test.YteaijonkbbkkjaaGreatDoorOq
set_option linter.unusedSimpArgs false
set_option linter.unusedVariables false
set_option maxRecDepth 20000
set_option maxHeartbeats 4000000
namespace Go.Proofs.YteaijonkbbkkjaaGreatDoor
open Go GoAbs Go.Proofs
theorem cc5 {a:Ty} {v:PVl} {t:Tm} (hv:V3 a v t):Pure Tryz.prog env 132 [.agg v.cells] (.agg a.cells):=by
 induction hv with
 | num n =>
  intro h;have hc:=ba1;rw [PVl.p9,aq3];rw [aq3] at hc;exact ek_ Tryz.func132 [.cell 2 27]
 | list l =>
  intro h;have hc:=bR3;rw [PVl.p9,aw1];rw [aw1] at hc;generalize l.map (fun (n:Nat)=>(n:Int))=l;have h5:∀ S,Z6 S (ints l):=fun S=>by simp only [go_sem, *]
  exact ek_ Tryz.func132 [.cell 2 27]
 | unit =>
  intro h;rw [PVl.p9,bc6];exact ek_ Tryz.func132 [.cell 2 27]
 | @pair a b x y s t h1 h2 i1 i2 =>
  intro h;rw [PVl.p9,aH3];clear h1 h2;simp only [List.map_cons,List.map_nil];exact ek_ Tryz.func132 [.cell 2 27]
theorem bX2 {a:Ty} {v:PVl} {t:Tm} (hv:V3 a v t) (hz:m7 t≤4096) (ha:TyG a):Pure Tryz.prog env 77 [.agg v.cells] (.tup [.agg a.cells,.int .i64 0]):=by
 intro h;have h1:=bv6 hv hz ha;have h2:=cc5 hv;have n0:((0:Int) != 0)=false:=rfl;clear hz ha hv;exact ek_ Tryz.func77 [.cell 2 27,.tmp 3]
theorem ch2 {g:List Ty} {l:List PVl} {ts:List Tm} (h:T6 g l ts) (hlen:g.length≤100):Pure Tryz.prog env 45 [.sl .any (l.map PVl.cells),.sl .any (g.map Ty.cells)] (.int .i64 0):=by
 have hl:=h.len.1;refine cW0 hl om_ (fun i v t q1 q2=>?_) (fun t ht=>?_)
 ·have hi:i<g.length:=(List.getElem?_eq_some_iff.1 q2).1
  obtain ⟨a,v',t',e1,e2,e3,hv,ha,hz⟩:=h.at i hi;rw [e1] at q2;rw [e2] at q1;cases q1;cases q2;exact bX2 hv hz ha
 ·obtain ⟨i,hi⟩:=List.mem_iff_getElem?.1 ht
  have hi':i<g.length:=(List.getElem?_eq_some_iff.1 hi).1;obtain ⟨a,v',t',e1,e2,e3,hv,ha,hz⟩:=h.at i hi';rw [e1] at hi;cases hi;have:=an0 t ha.1.W t ha.1.W;rwa [Ty.O6] at this
theorem bO5 {w:Int} (h0:0≤w) (h1:w≤65536):Pure Tryz.prog env 42 [.int .i64 w] (.bool true):=by
 intro h;have d0:decide (w≥0)=true:=by simp;omega
 have d1:decide (w≤65536)=true:=by simp;omega
 clear h0 h1;exact ek_ Tryz.func42 [.tmp 2]
end Go.Proofs.YteaijonkbbkkjaaGreatDoor
