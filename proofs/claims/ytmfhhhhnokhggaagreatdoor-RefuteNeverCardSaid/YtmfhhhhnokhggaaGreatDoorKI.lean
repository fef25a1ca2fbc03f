/-
 Walks: several parts in one text.
-/
import Derived.Test.YtmfhhhhnokhggaaGreatDoorKF
set_option linter.unusedSimpArgs false
set_option linter.unusedVariables false
set_option maxRecDepth 20000
set_option maxHeartbeats 4000000
namespace Go.Proofs.YtmfhhhhnokhggaaGreatDoor
open Go GoAbs Go.Proofs
section
variable {l:List Int} (hl:l.length<=1000) {n:Nat} (ih:aR5 l n) {g:List Ty} {hs:List Fm} {a a1:Nat} (c:Plc (n+1) g hs) (hc2:(r8 l a 17).2=a1)
include hl ih c hc2
variable {k K:Int}
theorem bG2 (hk:k=4/\K=8\/k=14/\K=12) (hc1:(r8 l a 17).1=k):PrT l (n+1) g hs a:=by
 obtain ⟨gl,hlh,hz,hw,h10,h11,n0⟩:=prT c;have hN:=s8;obtain ⟨s,as1,ms,ws,Ts⟩:=bq4 l hl 1 a_ a1;have m1:N0 1 s:=ms.up a_;have gs:TyG s:=m1.G a_;rw [show ((1:Nat):Int)=1 from rfl] at Ts;have hB:=aS3 g [s] hs a_ b_ a_ (fun x hx=>(c.hy x hx).fg.toW);rw [show (([s]:List Ty).length:Int)=1 from rfl] at hB;simp only [E0,B7] at hB;obtain ⟨p,ap,gp,wp,Tp⟩:=ih (g++[s]) (hs.map fun x=>x.up 1 0) as1 (c.below m1);have hP:=bP7 K s p ws wp;refine ⟨ae2 K s p,ap,.all a_ m1 gp,bT1 ws wp,?_⟩;generalize ae2 K s p=R at *;clear c ih gl hlh gp wp ms m1 gs ws;unfold sqV at *;rcases hk with ⟨rfl,rfl⟩|⟨rfl,rfl⟩
 all_goals
  intro d h hd;have hdd:=hd;have zq0:=Ts d;have zq1:=Tp d;have hNx:=J2 l hl d;exact n_ Tryz.func15 [.cell 8 34]
theorem bG3 {K2:Int} (hk:k=5/\K=8/\K2=9\/k=15/\K=12/\K2=13) (hc1:(r8 l a 17).1=k):PrT l (n+1) g hs a:=by
 obtain ⟨gl,hlh,hz,hw,h10,h11,n0⟩:=prT c;have hN:=s8;obtain ⟨s,as1,ms,ws,Ts⟩:=bq4 l hl 1 a_ a1;have m1:N0 1 s:=ms.up a_;have gs:TyG s:=m1.G a_;rw [show ((1:Nat):Int)=1 from rfl] at Ts;have hB:=aS3 g [s] hs a_ b_ a_ (fun x hx=>(c.hy x hx).fg.toW);rw [show (([s]:List Ty).length:Int)=1 from rfl] at hB;simp only [E0,B7] at hB;obtain ⟨x,ax,mx,wx,sx,Tx⟩:=aB2 l hl c m1 as1;obtain ⟨p,ap,gp,wp,Tp⟩:=ih (g++[s]) (hs.map fun x=>x.up 1 0) ax (c.below m1);have hP:=bP7 K s p ws wp;have wR:PfW (ae2 K s p):=bT1 ws wp;have gR:PfG (ae2 K s p):=.all a_ m1 gp;have hP2:=cm3 K2 x (ae2 K s p) wx wR;refine ⟨aY4 K2 x (ae2 K s p),ap,.at a_ sx gR,dO7 wx wR,?_⟩;generalize aY4 K2 x (ae2 K s p)=R2 at *;generalize ae2 K s p=R at *;clear c ih gl hlh gp wp ms m1 gs ws mx wx sx wR gR;unfold sqV at *;rcases hk with ⟨rfl,rfl,rfl⟩|⟨rfl,rfl,rfl⟩
 all_goals
  intro d h hd;have hdd:=hd;have zq0:=Ts d;have zq1:=Tx d;have zq2:=Tp d;have hNx:=J2 l hl d;exact n_ Tryz.func15 [.cell 8 34]
end
theorem bG4 {l:List Int} (hl:l.length<=1000) {n:Nat} {g:List Ty} {hs:List Fm} {a a1:Nat} (c:Plc (n+1) g hs) (hc2:(r8 l a 17).2=a1) {k q K:Int} (hk:k=0/\q=5/\K=10\/k=1/\q=7/\K=14) (hc1:(r8 l a 17).1=6) (t:Tm) (at' a2:Nat) (mt:J3 1 g c8 t) (wt:TmW t) (sT:TmS t) (Tt:∀ d,m_ env 39 [.ptr d 0,.sl .any (g.map Ty.cells),.agg c8.cells,.int .i64 1] d (.box (F0 l a1)) (.agg t.cells) (.box (F0 l at'))) (hk1:(r8 l at' 2).1=k) (hk2:(r8 l at' 2).2=a2):PrT l (n+1) g hs a:=by
 obtain ⟨gl,hlh,hz,hw,h10,h11,n0⟩:=prT c;have hN:=s8;have j:=br4 mt c.gg a_;have jQ:=bU2 (k:=q) a_ mt c.gg a_;have wX:FmW (H5 t):=j.fg.toW;have wu:TmW (t.up 1 0):=j.of_eq.2.2.1.toW;have h1:=aX2 t wt wu;have h2:=an8 0;have h3:=bD6 (t.up 1 0) (a9 0) wu (A6 _);have h4:=aK9 q c8 (H5 t) J9 wX;have h5:=as5 t wt;have h6:=bP8 K (fmQ q c8 (H5 t)) t (E9 t) jQ.fg.toW wt (Q2 wt);rw [show u6 (t.up 1 0) (a9 0)=H5 t from rfl] at h3;refine ⟨aA6 K (fmQ q c8 (H5 t)) t (E9 t),a2,.ex a_ ⟨jQ.fg,by have:=jQ.sz;omega,jQ.al⟩ sT (.refl sT),bz3 jQ.fg.toW wt (Q2 wt),?_⟩;generalize aA6 K (fmQ q c8 (H5 t)) t (E9 t)=R2 at *;generalize fmQ q c8 (H5 t)=Q at *;generalize H5 t=X at *;generalize E9 t=R at *;clear c gl hlh j jQ wX wu mt wt sT;unfold sqV at *;rcases hk with ⟨rfl,rfl,rfl⟩|⟨rfl,rfl,rfl⟩
 all_goals
  intro d h hd;have hdd:=hd;have zq0:=Tt d;have hNx:=J2 l hl d;exact n_ Tryz.func15 [.cell 8 34]
end Go.Proofs.YtmfhhhhnokhggaaGreatDoor
