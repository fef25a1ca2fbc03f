/-
 Walks: several parts in one text.
-/
import Derived.Test.YtmfhhhhnokhggaaGreatDoorK2
import Derived.Test.YtmfhhhhnokhggaaGreatDoorK3
set_option linter.unusedSimpArgs false
set_option linter.unusedVariables false
set_option maxRecDepth 20000
set_option maxHeartbeats 4000000
namespace Go.Proofs.YtmfhhhhnokhggaaGreatDoor
open Go GoAbs Go.Proofs
variable {t:Tm}
theorem bO5 (h:TmG t) {n:Int} (ha:arity t.kind=some n):(t.args.length:Int)=n:=by
 cases h with
 | @plain k l a h1 h2=>have:a=n:=Option.some.inj (h1.symm.trans ha);rw [<- this];exact h2
 | var=>have e:arity 1=some 0:=rfl;have:(0:Int)=n:=Option.some.inj (e.symm.trans ha);rw [<- this];rfl
 | @typd k t l a h1 h2=>have:a=n:=Option.some.inj (h1.symm.trans ha);rw [<- this];exact h2
theorem dB8 (h:TmG t) (ha:arity t.kind=some 1):∃ p,t.args=[p]:=dx4 (by have:=bO5 h ha;omega)
theorem dS3 (h:TmG t) (ha:arity t.kind=some 2):∃ p q,t.args=[p,q]:=cO0 (by have:=bO5 h ha;omega)
theorem dB9 (h:TmG t) (ha:arity t.kind=some 3):∃ p q r,t.args=[p,q,r]:=eh6 (by have:=bO5 h ha;omega)
theorem dI7 (t:Tm) (hG:TmG t):c_ env 243 [.agg t.cells] (.bool t.root):=by
 intro h;unfold Tm.root;by_cases k3:t.kind=3
 ·obtain ⟨p,q,e⟩:=dS3 hG (by rw [k3];rfl)
  have e0:ta t 0=p:=ci0 (by rw [e];rfl);rw [k3,e0];clear hG;simp only [ad1,p7];exact d_ Tryz.func243 [.tmp 2]
 by_cases k6:t.kind=6
 ·obtain ⟨p,q,r,e⟩:=dB9 hG (by rw [k6];rfl)
  have e0:ta t 2=r:=ci0 (by rw [e];rfl);have c3:((6:Int)==3)=false:=rfl;rw [k6,e0,c3];clear hG;simp only [ad1,p7,B2,r6];cases h4:(r.kind==4)
  all_goals
   cases h5:(r.kind==5)
   all_goals
    simp only [bj7,aW7,aM0];exact d_ Tryz.func243 [.tmp 2]
 by_cases k9:t.kind=9
 ·obtain ⟨p,q,r,e⟩:=dB9 hG (by rw [k9];rfl)
  have e0:ta t 2=r:=ci0 (by rw [e];rfl);have c3:((9:Int)==3)=false:=rfl;have c6:((9:Int)==6)=false:=rfl;rw [k9,e0,c3,c6];clear hG;simp only [ad1,p7,B2,r6];cases h4:(r.kind==7)
  all_goals
   cases h5:(r.kind==8)
   all_goals
    simp only [bj7,aW7,aM0];exact d_ Tryz.func243 [.tmp 2]
 by_cases k11:t.kind=11
 ·obtain ⟨p,e⟩:=dB8 hG (by rw [k11];rfl)
  have e0:ta t 0=p:=ci0 (by rw [e];rfl);rw [k11,e0];clear hG;simp only [Int.reduceBEq,aM0,p7,B2,r6];exact d_ Tryz.func243 [.tmp 2]
 by_cases k12:t.kind=12
 ·obtain ⟨p,e⟩:=dB8 hG (by rw [k12];rfl)
  have e0:ta t 0=p:=ci0 (by rw [e];rfl);rw [k12,e0];clear hG;simp only [Int.reduceBEq,aW7,p7,B2,r6];exact d_ Tryz.func243 [.tmp 2]
 have c3:(t.kind==3)=false:=by simpa using k3
 have c6:(t.kind==6)=false:=by simpa using k6
 have c9:(t.kind==9)=false:=by simpa using k9
 have c11:(t.kind==11)=false:=by simpa using k11
 have c12:(t.kind==12)=false:=by simpa using k12
 clear k3 k6 k9 k11 k12 hG;simp only [c3,c6,c9,c11,c12,bj7,B2,r6];exact d_ Tryz.func243 [.tmp 2]
variable {g:List Ty} {s:Ty}
theorem cK1 (hT:l7 TyG g t s) (hr:t.root=true) (hw:TmW t):c_ env 245 [.agg t.cells] (.agg t.red.cells):=by
 intro h;cases hT with
 | var=>simp [Tm.root,a9,Tm.kind] at hr
 | lam=>simp [Tm.root,tmT,Tm.kind] at hr
 | n0 hN=>cases hN<;>simp [Tm.root,tmT,Tm.kind] at hr
 | @n1 _ k ty _ a x hN h1 =>
  cases hN with
  | succ=>simp [Tm.root,tmT,Tm.kind] at hr
  | fst =>
   have hk:x.kind=10:=by simpa [Tm.root,tmT,Tm.kind,ta,Tm.args] using hr
   obtain ⟨ty',a',b',y,z,e,rfl,h2,h3⟩:=h1.W9 hk;have e2:(tmT 11 ty [tmT 10 ty' [y,z]]).red=y:=rfl;have f1:(tmT 11 ty [tmT 10 ty' [y,z]]).kind=11:=rfl;have f2:(tmT 11 ty [tmT 10 ty' [y,z]]).args=[tmT 10 ty' [y,z]]:=rfl;have f3:(tmT 10 ty' [y,z]).args=[y,z]:=rfl;rw [e2];clear h1 h2 h3 hr hw hk e e2;generalize tmT 11 ty [tmT 10 ty' [y,z]]=t at *;generalize tmT 10 ty' [y,z]=u at *;exact d_ Tryz.func245 [.cell 2 52]
  | snd =>
   have hk:x.kind=10:=by simpa [Tm.root,tmT,Tm.kind,ta,Tm.args] using hr
   obtain ⟨ty',a',b',y,z,e,rfl,h2,h3⟩:=h1.W9 hk;have e2:(tmT 12 ty [tmT 10 ty' [y,z]]).red=z:=rfl;have f1:(tmT 12 ty [tmT 10 ty' [y,z]]).kind=12:=rfl;have f2:(tmT 12 ty [tmT 10 ty' [y,z]]).args=[tmT 10 ty' [y,z]]:=rfl;have f3:(tmT 10 ty' [y,z]).args=[y,z]:=rfl;rw [e2];clear h1 h2 h3 hr hw hk e e2;generalize tmT 12 ty [tmT 10 ty' [y,z]]=t at *;generalize tmT 10 ty' [y,z]=u at *;exact d_ Tryz.func245 [.cell 2 52]
 | @n2 _ k ty _ a b x y hN h1 h2 =>
  cases hN with
  | app =>
   have hk:x.kind=2:=by simpa [Tm.root,tmT,Tm.kind,ta,Tm.args] using hr
   obtain ⟨a',b',z,e,rfl,h3⟩:=h1.aw2 hk;have wy:TmW y:=hw.arg (by simp [tmT,Tm.args]);have wl:TmW (tmT 2 a' [z]):=hw.arg (by simp [tmT,Tm.args]);have wz:TmW z:=wl.arg (by simp [tmT,Tm.args]);have hI:=cZ4 y wy 0 z wz 0;have e2:(tmT 3 ty [tmT 2 a' [z],y]).red=D6 y 0 z 0:=rfl;have f1:(tmT 3 ty [tmT 2 a' [z],y]).kind=3:=rfl;have f2:(tmT 3 ty [tmT 2 a' [z],y]).args=[tmT 2 a' [z],y]:=rfl;have f3:(tmT 2 a' [z]).args=[z]:=rfl;rw [e2];clear h1 h2 h3 hr hw hk e e2 wy wl wz;generalize tmT 3 ty [tmT 2 a' [z],y]=t at *;generalize tmT 2 a' [z]=u at *;generalize D6 y 0 z 0=v at *;exact d_ Tryz.func245 [.cell 2 52]
  | cons=>simp [Tm.root,tmT,Tm.kind] at hr
  | pair=>simp [Tm.root,tmT,Tm.kind] at hr
 | @n3 _ k ty _ a b c x y z hN h1 h2 h3 =>
  have wx:TmW x:=hw.arg (by simp [tmT,Tm.args]);have wy:TmW y:=hw.arg (by simp [tmT,Tm.args]);have wz:TmW z:=hw.arg (by simp [tmT,Tm.args]);have wt:=hw.ty;cases hN with
  | V8 =>
   have hk:z.kind=4\/z.kind=5:=by simpa [Tm.root,tmT,Tm.kind,ta,Tm.args] using hr
   have e2:(tmT 6 s [x,y,z]).red=if z.kind==4 then x else tm0 3 [tm0 3 [y,ta z 0],tmT 6 s [x,y,ta z 0]]:=rfl
   have f1:(tmT 6 s [x,y,z]).kind=6:=rfl;have f2:(tmT 6 s [x,y,z]).args=[x,y,z]:=rfl;have f3:(tmT 6 s [x,y,z]).type=s:=rfl;rw [e2];rcases hk with hk|hk
   ·rw [hk]
    simp only [ad1,p7];clear h1 h2 h3 hr hw e2 wx wy wz wt;generalize tmT 6 s [x,y,z]=t at *;exact d_ Tryz.func245 [.cell 2 52]
   ·have hk':(z.kind==4)=false:=by rw [hk];rfl
    obtain ⟨ty',m,rfl,hm⟩:=h3.at0 hk;have wm:TmW m:=wz.arg (by simp [tmT,Tm.args]);have em:ta (tmT 5 ty' [m]) 0=m:=rfl;have f4:(tmT 5 ty' [m]).args=[m]:=rfl;have wA:TmW (tm0 3 [y,m]):=G9 wy wm;have wB:TmW (tmT 6 s [x,y,m]):=bj0 wt wx wy wm;have r1:=c_N 3 [y,m] b_ (by simp [wy,wm]);have r2:=c_T 6 s [x,y,m] wt b_ (by simp [wx,wy,wm]);have r3:=c_N 3 [tm0 3 [y,m],tmT 6 s [x,y,m]] b_ (by simp [wA,wB]);simp only [E0,B7] at r1 r2 r3;rw [hk',em];simp only [B2,r6];clear h1 h2 h3 hr hw e2 wx wy wz wt wm hm em wA wB hk;generalize tmT 6 s [x,y,tmT 5 ty' [m]]=t at *;generalize tmT 5 ty' [m]=u at *;generalize tm0 3 [tm0 3 [y,m],tmT 6 s [x,y,m]]=v3 at *;generalize tm0 3 [y,m]=v1 at *;generalize tmT 6 s [x,y,m]=v2 at *;exact d_ Tryz.func245 [.cell 2 52]
  | fold =>
   have hk:z.kind=7\/z.kind=8:=by simpa [Tm.root,tmT,Tm.kind,ta,Tm.args] using hr
   have e2:(tmT 9 s [x,y,z]).red=if z.kind==7 then x else tm0 3 [tm0 3 [tm0 3 [y,ta z 0],ta z 1],tmT 9 s [x,y,ta z 1]]:=rfl
   have f1:(tmT 9 s [x,y,z]).kind=9:=rfl;have f2:(tmT 9 s [x,y,z]).args=[x,y,z]:=rfl;have f3:(tmT 9 s [x,y,z]).type=s:=rfl;rw [e2];rcases hk with hk|hk
   ·rw [hk]
    simp only [ad1,p7];clear h1 h2 h3 hr hw e2 wx wy wz wt;generalize tmT 9 s [x,y,z]=t at *;exact d_ Tryz.func245 [.cell 2 52]
   ·have hk':(z.kind==7)=false:=by rw [hk];rfl
    obtain ⟨ty',m,n,rfl,hm,hn⟩:=h3.as9 hk;have wm:TmW m:=wz.arg (by simp [tmT,Tm.args]);have wn:TmW n:=wz.arg (by simp [tmT,Tm.args]);have em:ta (tmT 8 ty' [m,n]) 0=m:=rfl;have en:ta (tmT 8 ty' [m,n]) 1=n:=rfl;have f4:(tmT 8 ty' [m,n]).args=[m,n]:=rfl;have wA:TmW (tm0 3 [y,m]):=G9 wy wm;have wA2:TmW (tm0 3 [tm0 3 [y,m],n]):=G9 wA wn;have wB:TmW (tmT 9 s [x,y,n]):=bj0 wt wx wy wn;have r1:=c_N 3 [y,m] b_ (by simp [wy,wm]);have r1':=c_N 3 [tm0 3 [y,m],n] b_ (by simp [wA,wn]);have r2:=c_T 9 s [x,y,n] wt b_ (by simp [wx,wy,wn]);have r3:=c_N 3 [tm0 3 [tm0 3 [y,m],n],tmT 9 s [x,y,n]] b_ (by simp [wA2,wB]);simp only [E0,B7] at r1 r1' r2 r3;rw [hk',em,en];simp only [B2,r6];clear h1 h2 h3 hr hw e2 wx wy wz wt wm wn hm hn em en wA wA2 wB hk;generalize tmT 9 s [x,y,tmT 8 ty' [m,n]]=t at *;generalize tmT 8 ty' [m,n]=u at *;generalize tm0 3 [tm0 3 [tm0 3 [y,m],n],tmT 9 s [x,y,n]]=v3 at *;generalize tm0 3 [tm0 3 [y,m],n]=v1' at *;generalize tm0 3 [y,m]=v1 at *;generalize tmT 9 s [x,y,n]=v2 at *;exact d_ Tryz.func245 [.cell 2 52]
theorem cX4 (hT:l7 TyG g t s) (hr:t.root=true) (hw:TmW t):c_ env 244 [.agg t.cells] (.int .i64 t.grow):=by
 have hn:=M3 t hw;have aw:∀ a b:Int,IntKind.i64.wrap (a+b)=o9 a b:=fun _ _=>rfl;have sw:∀ a b:Int,IntKind.i64.wrap (a - b)=K5 a b:=fun _ _=>rfl;have mw:∀ a b:Int,IntKind.i64.wrap (a * b)=bp4 a b:=fun _ _=>rfl;intro h;cases hT with
 | var=>simp [Tm.root,a9,Tm.kind] at hr
 | lam=>simp [Tm.root,tmT,Tm.kind] at hr
 | n0 hN=>cases hN<;>simp [Tm.root,tmT,Tm.kind] at hr
 | @n1 _ k ty _ a x hN h1 =>
  cases hN with
  | succ=>simp [Tm.root,tmT,Tm.kind] at hr
  | fst =>
   have hk:x.kind=10:=by simpa [Tm.root,tmT,Tm.kind,ta,Tm.args] using hr
   obtain ⟨ty',a',b',y,z,e,rfl,h2,h3⟩:=h1.W9 hk;have e2:(tmT 11 ty [tmT 10 ty' [y,z]]).grow=K5 y.szW (tmT 11 ty [tmT 10 ty' [y,z]]).szW:=rfl;have wx:TmW (tmT 10 ty' [y,z]):=hw.arg (by simp [tmT,Tm.args]);have hc:=M3 y (wx.arg (by simp [tmT,Tm.args]));have f1:(tmT 11 ty [tmT 10 ty' [y,z]]).kind=11:=rfl;have f2:(tmT 11 ty [tmT 10 ty' [y,z]]).args=[tmT 10 ty' [y,z]]:=rfl;have f3:(tmT 10 ty' [y,z]).args=[y,z]:=rfl;rw [e2];clear h1 h2 h3 hr hw hk e e2 wx;generalize tmT 11 ty [tmT 10 ty' [y,z]]=t at *;generalize tmT 10 ty' [y,z]=u at *;exact d_ Tryz.func244 [.tmp 2]
  | snd =>
   have hk:x.kind=10:=by simpa [Tm.root,tmT,Tm.kind,ta,Tm.args] using hr
   obtain ⟨ty',a',b',y,z,e,rfl,h2,h3⟩:=h1.W9 hk;have e2:(tmT 12 ty [tmT 10 ty' [y,z]]).grow=K5 z.szW (tmT 12 ty [tmT 10 ty' [y,z]]).szW:=rfl;have wx:TmW (tmT 10 ty' [y,z]):=hw.arg (by simp [tmT,Tm.args]);have hc:=M3 z (wx.arg (by simp [tmT,Tm.args]));have f1:(tmT 12 ty [tmT 10 ty' [y,z]]).kind=12:=rfl;have f2:(tmT 12 ty [tmT 10 ty' [y,z]]).args=[tmT 10 ty' [y,z]]:=rfl;have f3:(tmT 10 ty' [y,z]).args=[y,z]:=rfl;rw [e2];clear h1 h2 h3 hr hw hk e e2 wx;generalize tmT 12 ty [tmT 10 ty' [y,z]]=t at *;generalize tmT 10 ty' [y,z]=u at *;exact d_ Tryz.func244 [.tmp 2]
 | @n2 _ k ty _ a b x y hN h1 h2 =>
  cases hN with
  | app =>
   have hk:x.kind=2:=by simpa [Tm.root,tmT,Tm.kind,ta,Tm.args] using hr
   obtain ⟨a',b',z,e,rfl,h3⟩:=h1.aw2 hk;have wy:TmW y:=hw.arg (by simp [tmT,Tm.args]);have wl:TmW (tmT 2 a' [z]):=hw.arg (by simp [tmT,Tm.args]);have wz:TmW z:=wl.arg (by simp [tmT,Tm.args]);have hc:=M3 y wy;have hc2:=M3 z wz;have hI:=bH5 z wz 0;have e2:(tmT 3 ty [tmT 2 a' [z],y]).grow=K5 (o9 z.szW (bp4 (z.times 0) (K5 y.szW 1))) (tmT 3 ty [tmT 2 a' [z],y]).szW:=rfl;have f1:(tmT 3 ty [tmT 2 a' [z],y]).kind=3:=rfl;have f2:(tmT 3 ty [tmT 2 a' [z],y]).args=[tmT 2 a' [z],y]:=rfl;have f3:(tmT 2 a' [z]).args=[z]:=rfl;rw [e2];clear h1 h2 h3 hr hw hk e e2 wy wl wz;generalize tmT 3 ty [tmT 2 a' [z],y]=t at *;generalize tmT 2 a' [z]=u at *;exact d_ Tryz.func244 [.tmp 2]
  | cons=>simp [Tm.root,tmT,Tm.kind] at hr
  | pair=>simp [Tm.root,tmT,Tm.kind] at hr
 | @n3 _ k ty _ a b c x y z hN h1 h2 h3 =>
  have wx:TmW x:=hw.arg (by simp [tmT,Tm.args]);have wy:TmW y:=hw.arg (by simp [tmT,Tm.args]);have wz:TmW z:=hw.arg (by simp [tmT,Tm.args]);have wt:=hw.ty;cases hN with
  | V8 =>
   have hk:z.kind=4\/z.kind=5:=by simpa [Tm.root,tmT,Tm.kind,ta,Tm.args] using hr
   have hx:=M3 x wx;have hy:=M3 y wy;have e2:(tmT 6 s [x,y,z]).grow=if z.kind==4 then K5 x.szW (tmT 6 s [x,y,z]).szW else
    K5 (K5 (o9 (o9 (o9 2 y.szW) (ta z 0).szW) (tmT 6 s [x,y,z]).szW) 1) (tmT 6 s [x,y,z]).szW:=rfl
   have f1:(tmT 6 s [x,y,z]).kind=6:=rfl;have f2:(tmT 6 s [x,y,z]).args=[x,y,z]:=rfl;have f3:(tmT 6 s [x,y,z]).type=s:=rfl;rw [e2];rcases hk with hk|hk
   ·rw [hk]
    simp only [ad1,p7];clear h1 h2 h3 hr hw e2 wx wy wz wt;generalize tmT 6 s [x,y,z]=t at *;exact d_ Tryz.func244 [.tmp 2]
   ·have hk':(z.kind==4)=false:=by rw [hk];rfl
    obtain ⟨ty',m,rfl,hm⟩:=h3.at0 hk;have wm:TmW m:=wz.arg (by simp [tmT,Tm.args]);have em:ta (tmT 5 ty' [m]) 0=m:=rfl;have f4:(tmT 5 ty' [m]).args=[m]:=rfl;have hm':=M3 m wm;rw [hk',em];simp only [B2,r6];clear h1 h2 h3 hr hw e2 wx wy wz wt wm hm em hk;generalize tmT 6 s [x,y,tmT 5 ty' [m]]=t at *;generalize tmT 5 ty' [m]=u at *;exact d_ Tryz.func244 [.tmp 2]
  | fold =>
   have hk:z.kind=7\/z.kind=8:=by simpa [Tm.root,tmT,Tm.kind,ta,Tm.args] using hr
   have hx:=M3 x wx;have hy:=M3 y wy;have e2:(tmT 9 s [x,y,z]).grow=if z.kind==7 then K5 x.szW (tmT 9 s [x,y,z]).szW else
    K5 (K5 (K5 (o9 (o9 (o9 (o9 3 y.szW) (ta z 0).szW) (ta z 1).szW) (tmT 9 s [x,y,z]).szW) 1) (ta z 0).szW) (tmT 9 s [x,y,z]).szW:=rfl
   have f1:(tmT 9 s [x,y,z]).kind=9:=rfl;have f2:(tmT 9 s [x,y,z]).args=[x,y,z]:=rfl;have f3:(tmT 9 s [x,y,z]).type=s:=rfl;rw [e2];rcases hk with hk|hk
   ·rw [hk]
    simp only [ad1,p7];clear h1 h2 h3 hr hw e2 wx wy wz wt;generalize tmT 9 s [x,y,z]=t at *;exact d_ Tryz.func244 [.tmp 2]
   ·have hk':(z.kind==7)=false:=by rw [hk];rfl
    obtain ⟨ty',m,n,rfl,hm,hn⟩:=h3.as9 hk;have wm:TmW m:=wz.arg (by simp [tmT,Tm.args]);have wn:TmW n:=wz.arg (by simp [tmT,Tm.args]);have em:ta (tmT 8 ty' [m,n]) 0=m:=rfl;have en:ta (tmT 8 ty' [m,n]) 1=n:=rfl;have f4:(tmT 8 ty' [m,n]).args=[m,n]:=rfl;have hm':=M3 m wm;have hn':=M3 n wn;rw [hk',em,en];simp only [B2,r6];clear h1 h2 h3 hr hw e2 wx wy wz wt wm wn hm hn em en hk;generalize tmT 9 s [x,y,tmT 8 ty' [m,n]]=t at *;generalize tmT 8 ty' [m,n]=u at *;exact d_ Tryz.func244 [.tmp 2]
theorem dJ2:∀ (t:Tm),TmG t->TmW t->(∃ g s,l7 TyG g t s)->∀ room:Int,
  c_ env 233 [.agg t.cells,.int .i64 room] (.tup [.agg (t.nx Tm.grow room).1.cells,.bool (t.nx Tm.grow room).2.1,.bool (t.nx Tm.grow room).2.2]):=by
 intro t
 induction t using Tm.ind with|h t ih=>?_
 intro hG hW ⟨g,s,hT⟩ room h;have h1:=dI7 t hG;have hz:I4.cells=[.int .i64 0,.int .i64 0,.int .i64 0,.sl .any [],.sl .any []]:=by simp [I4,Tm.r7,Ty.O0,Ty.N9]
 cases hr:t.root with
 | true =>
  rw [hr] at h1;have h2:=cX4 hT hr hW;have h3:=cK1 hT hr hW;rw [br1 hr];clear ih hG hW hT hr;generalize t.red=r at *;generalize t.grow=n at *;cases q:decide (n>room) with
  | true =>
   simp only [p7,hz];clear h3;exact d_ Tryz.func233 [.cell 4 52,.tmp 5,.tmp 6]
  | false =>
   simp only [B2,r6];exact d_ Tryz.func233 [.cell 4 52,.tmp 5,.tmp 6]
 | false =>
  rw [hr] at h1;rw [dO5 hr];have hlen:=hW.len;have ih':∀ x∈t.args,∀ room:Int,c_ env 233 [.agg x.cells,.int .i64 room] (.tup [.agg (x.nx Tm.grow room).1.cells,.bool (x.nx Tm.grow room).2.1,.bool (x.nx Tm.grow room).2.2]) :=
   fun x hx=>ih x hx (hG.arg hx) (hW.arg hx) (hT.args x hx)
  clear ih hG hT hr hW;generalize hR:Tm.nxL Tm.grow room t.args=R;refine g_ Tryz.func233 [.cell 4 52,.tmp 5,.tmp 6] fun g0 w0 gen g9 hfr e9 n8=>?_;refine e_ ?_;clear h1;refine k_ [1,2,4,23] [⟨gen,0,0⟩,⟨gen,0,1⟩] (fun i σ=>bE9 Tm.grow room t.args i) (t.args) ?_ ?_ ?_
  ·simp only [go_sem, *]
   first|exact ⟨f_,dg4⟩|exact ⟨f_,dg4,trivial⟩
  ·
   intro i x σ gr0 o5 hgf l6 l9 m6 hx hxm hm hlt jI jN jT jA jn;have hc:=ih' x hxm room;clear ih';generalize hp:x.nx Tm.grow room=p at hc;obtain ⟨y,found,fits⟩:=p;simp only at hc;cases found with
   | false =>
    have jn1:=cO4 jn hx (by rw [hp]);clear jn hp hR
    first|refine e_ ?_|exact i_
    all_goals first|exact ⟨by repeat (first|assumption|refine m8.new ?_ (l6 _ _)),jn1⟩|(repeat (first|assumption|refine m8.new ?_ (l6 _ _)))
   | true =>
    have jr:=cs6 jn hx (by rw [hp]);rw [hp,hR] at jr;simp only at jr;subst jr;simp only [nxR];have hmk:(Tm.mk t.kind t.index t.type (t.args.set i y)).cells=[.int .i64 t.kind,.int .i64 t.index,.int .i64 t.type.kind,.sl .any (t.type.args.map Ty.cells),.sl .any ((t.args.set i y).map Tm.cells)]:=by rw [Tm.l4];rfl
    rw [hmk];clear jn hR hp hmk;have hne:t.args.map Tm.cells≠[]:=by intro e;have:=congrArg List.length e;simp at this;rw [this] at hlt;simp at hlt
    have b1:(t.args.map Tm.cells).length * 88<=140737488355328:=by simp;omega
    have b2:(t.args.map Tm.cells).length<=140737488355328:=by simp;omega
    have a5:(t.args.map Tm.cells).all (fun e=>e.length==5)=true:=bt0 _;have f0:0<=(i:Int):=by omega
    have f1:((i:Int)).toNat=i:=by omega
    have eo0:∀ v:V,G8 t.cells 4 [v]=[.int .i64 t.kind,.int .i64 t.index,.int .i64 t.type.kind,.sl .any (t.type.args.map Ty.cells),v]:=fun v=>by rw [Tm.l4];rfl
    have hkT:∀ r∈(t.args.set i y).map Tm.cells,r.length=5:=by intro r hr;obtain ⟨z,_,rfl⟩:=G5.1 hr;exact Tm.w9 z
    have fin:∀ cs:List V,t.args.length * 5<=cs.length->(G8 cs (i * 5) y.cells).take (t.args.length * 5)=((t.args.set i y).map Tm.cells).flatten->i * 5+5<=cs.length/\t.args.length * 5<=(G8 cs (i * 5) y.cells).length:=by
     intro cs h1 h2;refine ⟨a_,?_⟩;have:=congrArg List.length h2;rw [cA5,ae6,List.length_set] at this;omega
    have app:∀ q:Nat,t.args.length * 5<=((t.args.map Tm.cells).flatten++List.replicate q V.undef).length /\
      (G8 ((t.args.map Tm.cells).flatten++List.replicate q V.undef) (i * 5) y.cells).take (t.args.length * 5)=((t.args.set i y).map Tm.cells).flatten:=fun q =>
     ⟨by rw [F8,cA5];omega,ci1 hlt⟩
    repeat' (first
     |refine K8 ?_|refine P8 ?_|refine K7 ?_|refine C8 ?_|refine P7 ?_|refine B5 ?_|refine E4 ?_|refine B4 ?_
     |refine A8 (by decide) ?_|refine Y5 ?_|refine S2 ?_
     |(refine ⟨?_,?_⟩;focus ((repeat' (first|refine ⟨?_,?_⟩|refine .inr ?_));all_goals kernel_rfl))
     |refine K3 rfl ?_|refine K1 rfl ?_|(refine M6 rfl (fun hc=>?_) (fun hc=>?_)<;>(try rw [L1] at hc)<;>(try simp only [hc]))
     |(refine bC9 (id:=11) 2 (by rfl) (by rfl) (by rfl) (by rfl) ?_;simp only [go_sem, *,cx0,List.take_zero,bV2,aQ6];refine ⟨t.args.map Tm.cells,⟨rfl,⟨_,rfl⟩,hne,⟨_,_,rfl,rfl,rfl,rfl,by decide,rfl,a5,by simp;omega,by simp;omega⟩⟩,fun q=>?_⟩;obtain ⟨p1,p2⟩:=app q;clear app;generalize (t.args.map Tm.cells).flatten++List.replicate q V.undef=cs at *;obtain ⟨p3,p4⟩:=fin cs p1 p2;clear fin;simp only [go_sem, *])
     |(refine cj2 (k:=.code (.region 13 _ _)::_) ⟨gr0,11,2⟩ t.args.length 5 ((t.args.set i y).map Tm.cells) [(4,.ptr ⟨gen,0,1⟩ 0),(12,.ptr ⟨gr0,10,1⟩ 0),(11,.bool fits)] [(⟨gen,0,1⟩,[.int .i64 0,.int .i64 0,.int .i64 0,.sl .full [],.sl .full []],[.int .i64 0,.int .i64 0,.int .i64 0,.sl .full [],.sl .full []]),(⟨gr0,10,1⟩,[.int .i64 t.kind,.int .i64 t.index,.int .i64 t.type.kind,.sl .any (t.type.args.map Ty.cells),.slb ⟨gr0,11,2⟩ t.args.length],[.int .i64 t.kind,.int .i64 t.index,.int .i64 t.type.kind,.sl .any (t.type.args.map Ty.cells),.sl .any ((t.args.set i y).map Tm.cells)])] rfl rfl g9 ?_ p2 b_ hkT p4 (l6 _ _) b_ (by repeat (first|exact jA|refine m8.new ?_ (l6 _ _)|refine m8.new ?_ (e9 _ _))) j_ (by intro b hb;simp only [D9,K0,D1] at hb;rcases hb with rfl|rfl;exact ⟨e9 _ _,j_,rfl,(by intro p hp;simp only [be1,be3,be0,D9,K0,D1] at hp;rcases hp with rfl|rfl|rfl|rfl|rfl<;>first|exact .inr (.inl rfl)|exact .inr (.inr ⟨rfl,rfl⟩)),j_⟩;exact ⟨l6 _ _,j_,rfl,(by intro p hp;simp only [be1,be3,be0,D9,K0,D1] at hp;rcases hp with rfl|rfl|rfl|rfl|rfl<;>first|exact .inr (.inl rfl)|exact .inr (.inr ⟨rfl,rfl⟩)),j_⟩) (by intro p hp;simp only [D9,K0,D1] at hp;rcases hp with rfl|rfl|rfl<;>exact ⟨.inr (.inl j_),by simp only [go_sem, *,G4,I7,E8,reduceCtorEq,H9]⟩) ?_;(focus (simp only [go_sem, *];done));simp only [go_sem, *,G4,I7])
     | ((first|refine D2 ?_|(refine A9 (fun hb=>?_) (fun hb=>?_)<;>(try simp only [E7,M9] at hb))|refine y7 (hc) ?_|refine aC5 g9 (by first|exact hin _|simp only [go_sem,L6]) f_ ?_)<;>simp only [go_sem, *]))
  ·clear ih'
   intro σ ga0 q9 hgf l6 l8 m5 jT jA jn;have jr:=dg5 jn;rw [hR] at jr;subst jr;simp only [nxR];clear jn hR;exact i_
def aV5 (p:Tm × Int × Int):V:=.tup [.agg p.1.cells,.int .i64 p.2.1,.int .i64 p.2.2]
theorem bM8:I4.cells=[.int .i64 0,.int .i64 0,.int .i64 0,.sl .any [],.sl .any []]:=by simp [I4,Tm.r7,Ty.O0,Ty.N9]
theorem aR8 (hg:g.length<=5000) (t:Tm) (hT:l7 TyG g t s) (hG:TmG t) (hz:a8 t<=4096) (hw:TmW t) :
  c_ env 214 [.agg t.cells,.int .i64 1000] (aV5 (norm t)):=by
 intro h;have h1:=ag6 t hw;rw [hG.am0 hz] at h1;have h2:=bf6 536870912 t hw;rw [hT.least 536870912 a_ a_] at h2;have n0:((0:Int) != 0)=false:=rfl;have d1:decide ((1000:Int)<0)=false:=rfl;have d2:decide ((1000:Int)>65536)=false:=rfl;have hnn:=norm_eq t;have hin:∀ S,InV S (aV5 (norm t)):=fun S=>by simp [aV5,InV,InL,at6]
 generalize norm t=r at hnn hin ⊢;refine g_ Tryz.func214 [.cell 4 52,.tmp 5,.tmp 6] fun g0 w0 gen g9 hfr e9 n8=>?_;refine e_ ?_;refine E6 (fun i σ=>σ.tm 8=.int .i64 i/\σ.tm 1=.int .i64 1000/\σ.tm 2=.ptr ⟨gen,0,0⟩ 0/\σ.tm 4=.ptr ⟨gen,0,1⟩ 0 /\
  σ.h ⟨gen,0,1⟩=some (.box [.int .i64 0,.int .i64 0,.int .i64 0,.sl .full [],.sl .full []])/\m8 h σ.h/\i<=1000 /\
  ∃ t':Tm,σ.h ⟨gen,0,0⟩=some (.box t'.cells)/\l7 TyG g t' s/\TmG t'/\a8 t'<=4096/\TmW t'/\aE7 1000 (1001 - i) i t'=some r) 1001 ?_ ?_
 ·simp only [go_sem, *]
  exact ⟨rfl,f_,t,rfl,hT,hG,hz,hw,hnn⟩
 clear h1 h2 hT hG hz hw hnn;intro i σ hi ⟨j1,j2,j3,j4,j5,jA,j6,t',j7,j8,j9,j10,j11,j12⟩;refine ai4 (fun gn hgl hgn=>?_);have hgf:=o0 hgn;have l6:=fun r i=>F3 jA (hgf r i);have eg1:=o7 hgl;have eg2:=n6 hgl;clear hgn;have hc:=M3 t' j11;rw [j9.szW a_] at hc;have hw1:IntKind.i64.wrap (4096 - (a8 t':Int))=4096 - (a8 t':Int):=x7 rfl a_ a_;have hw2:=E2 (i:=i) a_;have hN:=dJ2 t' j9 j11 ⟨_,_,j8⟩ (4096 - (a8 t':Int));have wn:=dO4 (gr:=Tm.grow) (room:=4096 - (a8 t':Int)) t' j11;have hcp:=al6 t' j11;have hf:1001 - i=(1000 - i)+1:=by omega
 rw [hf,aE7] at j12;have a1:=dF0 (gr:=Tm.grow) (room:=4096 - (a8 t':Int)) j8 a_;have a2:=cC8 (room:=4096 - (a8 t':Int)) j8 j9 a_;generalize hp:t'.nx Tm.grow (4096 - (a8 t':Int))=p at *;obtain ⟨x,found,fits⟩:=p;simp only at j12 hN wn a1 a2;cases found with
 | false =>
  simp only [M9,p7,S6] at j12;subst j12;unfold aV5 at hin ⊢;clear a1 a2 hp;exact i_
 | true =>
 simp only [E7,B2,r6] at j12;cases k1:((i:Int)==1000) with
 | true =>
  rw [k1] at j12;simp only [p7,S6] at j12;subst j12;have hz:=bM8;unfold aV5 at hin ⊢;simp only [hz] at hin ⊢;clear a1 a2 hp;exact i_
 | false =>
 rw [k1] at j12;simp only [B2,r6] at j12;cases fits with
 | false =>
  simp only [M9,p7,S6] at j12;subst j12;have hz:=bM8;unfold aV5 at hin ⊢;simp only [hz] at hin ⊢;clear a1 a2 hp;exact i_
 | true =>
  simp only [E7,B2,r6] at j12;have b1:=a1 rfl;obtain ⟨b2,b3⟩:=a2 rfl;have hi2:i+1<=1000:=by simp at k1;omega
  have hf2:1001 - (i+1)=1000 - i:=by omega
  have hi3:i<1001:=by omega
  clear a1 a2 hp;refine e_ ?_;exact ⟨by repeat (first|exact jA|refine m8.new ?_ (l6 _ _)|refine m8.new ?_ (e9 _ _)),x,rfl,b1,b2,a_,wn,by simpa using j12⟩
theorem bY2 (hg:g.length<=5000) {s':Ty} (a b:Tm) (ta:l7 TyG g a s) (tb:l7 TyG g b s') (ga:TmG a) (gb:TmG b) (za:a8 a<=4096) (zb:a8 b<=4096) (wa:TmW a) (wb:TmW b) :
  c_ env 210 [.agg a.cells,.agg b.cells,.int .i64 1000] (.int .i64 (au4 11 a b)):=by
 intro h;have h1:=ag6 a wa;have h2:=ag6 b wb;have h3:=bk4 a wa b wb;have h4:=bk4 _ (dg2 wa) _ (dg2 wb);have hA:=aR8 hg a ta ga za wa;have hB:=aR8 hg b tb gb zb wb;rw [ga.am0 za] at h1;rw [gb.am0 zb] at h2;have n0:((0:Int) != 0)=false:=rfl;unfold au4;unfold aV5 at hA hB;clear wa wb ta tb ga gb za zb;generalize norm a=p at *;generalize norm b=q at *;obtain ⟨x,m,e⟩:=p;obtain ⟨y,n,e'⟩:=q;simp only at hA hB h4 ⊢;cases k1:Tm.same a b with
 | true =>
  rw [k1] at h3;simp only [p7];clear hA hB h4;exact d_ Tryz.func210 [.tmp 6]
 | false =>
 rw [k1] at h3;simp only [B2,r6];cases k2:(e != 0) with
 | true =>
  simp only [p7];clear hB h4;exact d_ Tryz.func210 [.tmp 6]
 | false =>
 simp only [B2,r6];cases k3:(e' != 0) with
 | true =>
  simp only [p7];clear h4;exact d_ Tryz.func210 [.tmp 6]
 | false =>
  simp only [B2,r6];cases k4:Tm.same x y
  all_goals
   rw [k4] at h4;simp only [E7,M9,p7,B2,r6];exact d_ Tryz.func210 [.tmp 6]
theorem bu6:∀ t:Fm,FmW t->∀ a:Int,c_ env 191 [.agg t.cells,.int .i64 a] (.bool (t.am4 a)):=by
 intro t
 induction t using Fm.ind with|h t ih=>?_
 intro ht a h;have hlen:=ht.len;have ao0:=ht.au6;have ih':∀ x∈t.args,c_ env 191 [.agg x.cells,.int .i64 (o9 a (u9 t.kind))] (.bool (x.am4 (o9 a (u9 t.kind)))):=fun x hx=>ih x hx (ht.arg hx) _;clear ih;have hB:=aS1 t;have hw:IntKind.i64.wrap (a+u9 t.kind)=o9 a (u9 t.kind):=rfl;have hv0:(((t.a7.drop 0).any fun x=>x.ak8 a)||t.args.any fun x=>x.am4 (o9 a (u9 t.kind)))=t.am4 a:=(t.bq6 a).symm;generalize t.am4 a=v at hv0 ⊢;generalize o9 a (u9 t.kind)=a2 at *;refine g_ Tryz.func191 [.tmp 4] fun g0 w0 gen g9 hfr e9 n8=>?_;refine e_ ?_;refine k_ [1,2,10] [⟨gen,0,0⟩] (fun i σ=>Bool.or ((t.a7.drop i).any fun x=>x.ak8 a) (t.args.any fun x=>x.am4 a2)=v) (t.a7) ?_ ?_ ?_
 ·simp only [go_sem, *]
  exact ⟨f_,by simpa using hv0⟩
 ·clear hv0
  intro i x σ gr0 o5 hgf l6 l9 m6 hx hxm hm hlt jI jN jT jA jv;rw [s9 hx,aZ1] at jv;have hc:=cY5 x (ht.term hxm) a;clear ih';cases hn:x.ak8 a with
  | true =>
   rw [hn] at hc jv;simp only [aM0] at jv;subst jv;exact i_
  | false =>
   rw [hn] at hc jv;simp only [aW4] at jv
   first|refine e_ ?_|exact i_
   all_goals first|exact f_|exact ⟨f_,jv⟩
 clear hv0;intro σ ga0 q9 hgf l6 l8 m5 jT jA jv;rw [y6,bj6,aW4] at jv;have jv:((t.args.drop 0).any fun x=>x.am4 a2)=v:=jv;refine e_ ?_;refine k_ [1,2,21] [⟨gen,0,0⟩] (fun i σ=>((t.args.drop i).any fun x=>x.am4 a2)=v) (t.args) ?_ ?_ ?_
 ·simp only [go_sem, *]
  first|done|exact jv|exact f_|exact ⟨f_,jv⟩
 ·clear jv
  intro i x σ gr1 I2 hgf l6 C1 C6 hx hxm hm hlt jI jN jT jA jv;have z7:=o7 (show gen<gr1 by omega);have z9:=n6 (show gen<gr1 by omega);rw [s9 hx,aZ1] at jv;have hc:=ih' x hxm;clear ih';cases hn:x.am4 a2 with
  | true =>
   rw [hn] at hc jv;simp only [aM0] at jv;subst jv;exact i_
  | false =>
   rw [hn] at hc jv;simp only [aW4] at jv
   first|refine e_ ?_|exact i_
   all_goals first|exact f_|exact ⟨f_,jv⟩
 clear jv;intro σ ga1 I1 hgf l6 C0 C5 jT jA jv;have z6:=o7 (show gen<ga1 by omega);have z8:=n6 (show gen<ga1 by omega);rw [y6,bj6] at jv;subst jv;clear ih';exact i_
theorem bS6 {x y:Tm} {l l':List Tm}:Z6 (x::l) (y::l')=if au4 11 x y != 0 then au4 11 x y else Z6 l l':=by rw [Z6]
theorem bu1 (t t':Fm) (w:FmW t) (w':FmW t') (hT:(t.kind != t'.kind)=false->∀ (i:Nat) (x x':Tm),t.a7[i]? = some x->t'.a7[i]? = some x'->c_ env 210 [.agg x.cells,.agg x'.cells,.int .i64 1000] (.int .i64 (au4 11 x x')))
  (hA:(t.kind != t'.kind)=false->∀ (i:Nat) (x x':Fm),t.args[i]? = some x->t'.args[i]? = some x'->c_ env 183 [.agg x.cells,.agg x'.cells] (.int .i64 (O5 x x')))
  (hl:(t.kind != t'.kind)=false->t.a7.length=t'.a7.length/\t.args.length=t'.args.length) :
  c_ env 183 [.agg t.cells,.agg t'.cells] (.int .i64 (O5 t t')):=by
 intro h;have hlen:=w.len;have ao0:=w.au6;have h1:=U2 t.type w.ty t'.type w'.ty;have hv0:=(bh7 t t').symm;generalize O5 t t'=v at hv0 ⊢;cases k1:(t.kind != t'.kind) with
 | true =>
  rw [k1,aM0,B8 rfl] at hv0;subst hv0;clear hT hA hl;exact d_ Tryz.func183 [.tmp 4]
 | false =>
 cases k2:Ty.same t.type t'.type with
 | false =>
  rw [k1,k2] at hv0;simp only [M9,aW7,p7] at hv0;rw [k2] at h1;subst hv0;clear hT hA hl;exact d_ Tryz.func183 [.tmp 4]
 | true =>
 obtain ⟨l1,l2⟩:=hl k1;replace hT:=hT k1;replace hA:=hA k1;rw [k1,k2] at hv0;simp only [E7,aR2,B2,r6] at hv0;have hv0:(if Z6 (t.a7.drop 0) (t'.a7.drop 0) != 0 then Z6 (t.a7.drop 0) (t'.a7.drop 0) else ab4 t.args t'.args)=v:=hv0;rw [k2] at h1;clear hl;refine g_ Tryz.func183 [.tmp 4] fun g0 w0 gen g9 hfr e9 n8=>?_;refine e_ ?_;refine k_ [2,3] [⟨gen,0,0⟩,⟨gen,0,1⟩] (fun i σ=>(if Z6 (t.a7.drop i) (t'.a7.drop i) != 0 then Z6 (t.a7.drop i) (t'.a7.drop i) else ab4 t.args t'.args)=v) (t.a7) ?_ ?_ ?_
 ·simp only [go_sem, *]
  first|done|exact hv0|exact f_|exact ⟨f_,hv0⟩|exact ⟨f_,by simpa using hv0⟩
 ·clear hv0
  intro i x σ gr0 o5 hgf l6 l9 m6 hx hxm hm hlt jI jN jT jA jv;obtain ⟨x',hx'⟩:∃ x',t'.a7[i]? = some x':=⟨_,W4 a_⟩;have dv0:i<t'.a7.length:=by omega
  rw [s9 hx,s9 hx',bS6] at jv;have hc:=hT i x x' hx hx';clear hT hA;cases hn:(au4 11 x x' != 0) with
  | true =>
   rw [hn] at jv;simp only [p7] at jv;rw [B8 hn] at jv;rw [<- jv];clear jv;exact i_
  | false =>
   rw [hn] at jv;simp only [B2,r6] at jv;exact x_
   all_goals first|exact f_|exact ⟨f_,jv⟩
 clear hv0;intro σ ga0 q9 hgf l6 l8 m5 jT jA jv;rw [y6,l1,y6] at jv;have jv:ab4 (t.args.drop 0) (t'.args.drop 0)=v:=by simpa [Z6] using jv
 refine e_ ?_;refine k_ [2,3] [⟨gen,0,0⟩,⟨gen,0,1⟩] (fun i σ=>ab4 (t.args.drop i) (t'.args.drop i)=v) (t.args) ?_ ?_ ?_
 ·simp only [go_sem, *]
  first|done|exact jv|exact f_|exact ⟨f_,jv⟩
 ·clear jv
  intro i x σ gr1 I2 hgf l6 C1 C6 hx hxm hm hlt jI jN jT jA jv;have z7:=o7 (show gen<gr1 by omega);have z9:=n6 (show gen<gr1 by omega);obtain ⟨x',hx'⟩:∃ x',t'.args[i]? = some x':=⟨_,W4 a_⟩;have dv0:i<t'.args.length:=by omega
  rw [s9 hx,s9 hx',aJ8] at jv;have hc:=hA i x x' hx hx';clear hT hA;cases hn:(O5 x x' != 0) with
  | true =>
   rw [hn] at jv;simp only [p7] at jv;rw [<- jv];clear jv;exact i_
  | false =>
   rw [hn] at jv;simp only [B2,r6] at jv;exact x_
   all_goals first|exact f_|exact ⟨f_,jv⟩
 clear jv;intro σ ga1 I1 hgf l6 C0 C5 jT jA jv;have z6:=o7 (show gen<ga1 by omega);have z8:=n6 (show gen<ga1 by omega);rw [y6,l2,y6,ce5] at jv;subst jv;clear hT hA;exact i_
theorem cY0 (t t':Fm) (w:FmW t) (w':FmW t') (hn:(t.kind != t'.kind||!Ty.same t.type t'.type)=true) :
  c_ env 183 [.agg t.cells,.agg t'.cells] (.int .i64 (O5 t t')):=by
 intro h;have h1:=U2 t.type w.ty t'.type w'.ty;rw [bh7,B8 hn];cases k1:(t.kind != t'.kind) with
 | true =>
  exact d_ Tryz.func183 [.tmp 4]
 | false =>
  rw [k1,aW4] at hn;have k2:Ty.same t.type t'.type=false:=by simpa using hn
  rw [k2] at h1;clear hn;exact d_ Tryz.func183 [.tmp 4]
variable {f:Fm}
theorem cX9 (ty:R4 TyG g f):∀ {f':Fm},R4 TyG g f'->FmG true f->FmG true f'->s6 f<=4096->s6 f'<=4096->g.length+s6 f<=5000 ->
  c_ env 183 [.agg f.cells,.agg f'.cells] (.int .i64 (O5 f f')):=by
 induction ty with
 | @eq g x y h1 h2 =>
  intro f' ty' fg fg' z z' hb;refine bu1 _ _ fg.toW fg'.toW (fun hk i u u' hu hu'=>?_) (fun hk i u u' hu hu'=>by simp [u6,Fm.args] at hu) (fun hk=>?_)
  ·cases ty' with
   | @eq _ x' y' h1' h2' =>
    rw [D7] at z z' hb;have b1:=fg.aC1 (Q7 hu);have b3:=fg'.aC1 (Q7 hu')
    match i,hu,hu' with
    | 0,hu,hu' =>
     simp [u6,Fm.a7] at hu hu';subst hu;subst hu';exact bY2 (g:=g) a_ _ _ h1 h1' b1 b3 a_ a_ b1.toW b3.toW
    | 1,hu,hu' =>
     simp [u6,Fm.a7] at hu hu';subst hu;subst hu';exact bY2 (g:=g) a_ _ _ h2 h2' b1 b3 a_ a_ b1.toW b3.toW
    | i+2,hu,_=>simp [u6,Fm.a7] at hu
   | two=>simp [o8,Fm.a7] at hu'
   | q=>simp [fmQ,Fm.a7] at hu'
  ·cases ty' with
   | eq=>exact ⟨rfl,rfl⟩
   | two hk'=>simp only [u6,o8,Fm.kind,bd9] at hk;omega
   | q hk'=>simp only [u6,fmQ,Fm.kind,bd9] at hk;omega
 | @two g k a b hk h1 h2 i1 i2 =>
  intro f' ty' fg fg' z z' hb;refine bu1 _ _ fg.toW fg'.toW (fun hk2 i u u' hu hu'=>by simp [o8,Fm.a7] at hu) (fun hk2 i u u' hu hu'=>?_) (fun hk2=>?_)
  ·cases ty' with
   | eq=>simp [u6,Fm.args] at hu'
   | @two _ k' a' b' hk' h1' h2' =>
    rw [y8] at z z' hb;have b1:=fg.at7 (Q7 hu);have b3:=fg'.at7 (Q7 hu')
    match i,hu,hu' with
    | 0,hu,hu' =>
     simp [o8,Fm.args] at hu hu';subst hu;subst hu';exact i1 h1' b1 b3 a_ a_ a_
    | 1,hu,hu' =>
     simp [o8,Fm.args] at hu hu';subst hu;subst hu';exact i2 h2' b1 b3 a_ a_ a_
    | i+2,hu,_=>simp [o8,Fm.args] at hu
   | q hk'=>simp only [o8,fmQ,Fm.kind,bd9] at hk2;omega
  ·cases ty' with
   | eq=>simp only [u6,o8,Fm.kind,bd9] at hk2;omega
   | two hk'=>exact ⟨rfl,rfl⟩
   | q hk'=>simp only [o8,fmQ,Fm.kind,bd9] at hk2;omega
 | @q g k s a hk h1 ih =>
  intro f' ty' fg fg' z z' hb;by_cases hs:s=f'.type
  ·refine bu1 _ _ fg.toW fg'.toW (fun hk2 i u u' hu hu'=>by simp [fmQ,Fm.a7] at hu) (fun hk2 i u u' hu hu'=>?_) (fun hk2=>?_)
   ·cases ty' with
    | eq=>simp [u6,Fm.args] at hu'
    | two hk'=>simp only [o8,fmQ,Fm.kind,bd9] at hk2;omega
    | @q _ k' s' a' hk' h1' =>
     obtain rfl:s=s':=hs;rw [G6] at z z' hb;have b1:=fg.at7 (Q7 hu);have b3:=fg'.at7 (Q7 hu')
     match i,hu,hu' with
     | 0,hu,hu' =>
      simp [fmQ,Fm.args] at hu hu';subst hu;subst hu';exact ih h1' b1 b3 a_ a_ (by simp;omega)
     | i+1,hu,_=>simp [fmQ,Fm.args] at hu
   ·cases ty' with
    | eq=>simp only [u6,fmQ,Fm.kind,bd9] at hk2;omega
    | two hk'=>simp only [o8,fmQ,Fm.kind,bd9] at hk2;omega
    | q hk'=>exact ⟨rfl,rfl⟩
  ·exact cY0 _ _ fg.toW fg'.toW (by
    cases e:Ty.same (fmQ k s a).type f'.type with
    | false=>simp
    | true=>exact absurd (Ty.N6 e) hs)
theorem bu7 {f':Fm} (j:Jd g f) (j':Jd g f') (hg:g.length<=100):c_ env 135 [.agg f.cells,.agg f'.cells] (.int .i64 (O5 f f')):=by
 have h1:=aa9 f j.fg.toW;have h2:=aa9 f' j'.fg.toW;rw [j.fg.am0 j.sz] at h1;rw [j'.fg.am0 j'.sz] at h2;have h3:=cX9 j.ty j'.ty j.fg j'.fg j.sz j'.sz (by have:=j.sz;omega);have n0:((0:Int) != 0)=false:=rfl;clear j j' hg;intro h;generalize O5 f f'=v at *;exact d_ Tryz.func135 [.tmp 4]
theorem S5:A0.cells=[.int .i64 0,.int .i64 0,.sl .any [],.sl .any [],.sl .any []]:=by rfl
theorem bf2 (t:Fm) (w:FmW t) (hT:∀ x∈t.a7,c_ env 214 [.agg x.cells,.int .i64 1000] (aV5 (norm x)))
  (hA:∀ x∈t.args,c_ env 192 [.agg x.cells] (P6 (C9 x))) :
  c_ env 192 [.agg t.cells] (P6 (C9 t)):=by
 intro h;have hlen:=w.len;have ao0:=w.au6;have hv0:=congrArg P6 (ce9 t);have hin:∀ S,InV S (P6 (C9 t)):=fun S=>by simp [P6,InV,InL,aC6]
 generalize P6 (C9 t)=v at hv0 hin ⊢;have hz:=S5;by_cases e1:(L0 t.a7).2=0
 ·obtain ⟨q1,q2⟩:=bK4 e1
  rw [e1,q2] at hv0;simp only [bV5,B2,r6] at hv0;have hT2:∀ x∈t.a7,∃ n:Int,c_ env 214 [.agg x.cells,.int .i64 1000] (.tup [.agg (norm x).1.cells,.int .i64 n,.int .i64 0]):=fun x hx=>by
   grind [aV5]
  clear hT q1 q2 e1;have n0:((0:Int) != 0)=false:=rfl;by_cases e2:(H0 t.args).2=0
  ·obtain ⟨q1,q2⟩:=bi0 e2
   rw [e2,q2] at hv0;simp only [bV5,B2,r6] at hv0;have hA2:∀ x∈t.args,c_ env 192 [.agg x.cells] (.tup [.agg (C9 x).1.cells,.int .i64 0]):=fun x hx=>by
    have:=hA x hx
    grind [P6]
   clear hA q1 q2 e2;unfold P6 at hv0;simp only [Fm.r7] at hv0;refine g_ Tryz.func192 [.cell 2 36,.tmp 3] fun g0 w0 gen g9 hfr e9 n8=>?_;refine e_ ?_;refine k_ [1,2,4,20] [⟨gen,0,0⟩,⟨gen,0,1⟩] (fun i σ=>∃ v,σ.h ⟨gen,1,5⟩=some (.box [.int .i64 t.kind,.int .i64 t.type.kind,.sl .any (t.type.args.map Ty.cells),v,.sl .full []])/\Q4 h σ.h v 5 (((t.a7.take i).map fun x=>(norm x).1).map Tm.cells)) (t.a7) ?_ ?_ ?_
   ·simp only [go_sem, *]
    exact ⟨f_,_,rfl,.inl rfl⟩
   ·clear hv0 hA2
    intro i x σ gr0 o5 hgf l6 l9 m6 hx hxm hm hlt jI jN jT jA ⟨v,jb,jO0⟩;obtain ⟨n,hc⟩:=hT2 x hxm;clear hT2;have hts:((t.a7.take (i+1)).map fun x=>(norm x).1).map Tm.cells=((t.a7.take i).map fun x=>(norm x).1).map Tm.cells++[(norm x).1.cells]:=by rw [p9 hx,U0];rfl
    exact p_
   clear hT2;intro σ ga0 q9 hgf l6 l8 m5 jT jA ⟨v1,jb,jO1⟩;rw [L2] at jO1;obtain ⟨c1,rfl⟩:=jO1.val;clear jO1;refine e_ ?_;refine k_ [2,4,44] [⟨gen,0,1⟩] (fun i σ=>∃ v,σ.h ⟨gen,1,5⟩=some (.box [.int .i64 t.kind,.int .i64 t.type.kind,.sl .any (t.type.args.map Ty.cells),.sl c1 ((t.a7.map fun x=>(norm x).1).map Tm.cells),v])/\Q4 h σ.h v 5 (((t.args.take i).map fun x=>(C9 x).1).map Fm.cells)) (t.args) ?_ ?_ ?_
   ·simp only [go_sem, *]
    first|exact ⟨_,rfl,.inl rfl⟩|exact ⟨f_,_,rfl,.inl rfl⟩
   ·clear hv0
    intro i x σ gr1 I2 hgf l6 C1 C6 hx hxm hm hlt jI jN jT jA ⟨v,jb',jO0⟩;have z7:=o7 (show gen<gr1 by omega);have z9:=n6 (show gen<gr1 by omega);have hc:=hA2 x hxm;have hts:((t.args.take (i+1)).map fun x=>(C9 x).1).map Fm.cells=((t.args.take i).map fun x=>(C9 x).1).map Fm.cells++[(C9 x).1.cells]:=by rw [p9 hx,U0];rfl
    clear hA2;exact p_
   ·
    intro σ ga1 I1 hgf l6 C0 C5 jT jA ⟨v,jb',jO0⟩;have z6:=o7 (show gen<ga1 by omega);have z8:=n6 (show gen<ga1 by omega);rw [L2] at jO0;obtain ⟨c,rfl⟩:=jO0.val;clear hA2;subst hv0;exact i_
  ·have hne:((H0 t.args).2 != 0)=true:=by simpa using e2
   rw [B8 hne] at hv0;simp only [P6,hz] at hv0;obtain ⟨E,hE⟩:∃ E,(H0 (t.args.drop 0)).2=E:=⟨_,rfl⟩;have hE':(H0 t.args).2=E:=hE;rw [hE'] at hne hv0;subst hv0;clear e2 hE';refine g_ Tryz.func192 [.cell 2 36,.tmp 3] fun g0 w0 gen g9 hfr e9 n8=>?_;refine e_ ?_;refine k_ [1,2,4,20] [⟨gen,0,0⟩,⟨gen,0,1⟩] (fun i σ=>∃ v,σ.h ⟨gen,1,5⟩=some (.box [.int .i64 t.kind,.int .i64 t.type.kind,.sl .any (t.type.args.map Ty.cells),v,.sl .full []])/\Q4 h σ.h v 5 (((t.a7.take i).map fun x=>(norm x).1).map Tm.cells)) (t.a7) ?_ ?_ ?_
   ·simp only [go_sem, *]
    exact ⟨f_,_,rfl,.inl rfl⟩
   ·clear hA hE
    intro i x σ gr0 o5 hgf l6 l9 m6 hx hxm hm hlt jI jN jT jA ⟨v,jb,jO0⟩;obtain ⟨n,hc⟩:=hT2 x hxm;clear hT2;have hts:((t.a7.take (i+1)).map fun x=>(norm x).1).map Tm.cells=((t.a7.take i).map fun x=>(norm x).1).map Tm.cells++[(norm x).1.cells]:=by rw [p9 hx,U0];rfl
    exact p_
   clear hT2;intro σ ga0 q9 hgf l6 l8 m5 jT jA ⟨v1,jb,jO1⟩;rw [L2] at jO1;obtain ⟨c1,rfl⟩:=jO1.val;clear jO1;refine e_ ?_;refine k_ [2,4,44] [⟨gen,0,1⟩] (fun i σ=>∃ v,σ.h ⟨gen,1,5⟩=some (.box [.int .i64 t.kind,.int .i64 t.type.kind,.sl .any (t.type.args.map Ty.cells),.sl c1 ((t.a7.map fun x=>(norm x).1).map Tm.cells),v])/\Q4 h σ.h v 5 (((t.args.take i).map fun x=>(C9 x).1).map Fm.cells)/\(H0 (t.args.drop i)).2=E) (t.args) ?_ ?_ ?_
   ·simp only [go_sem, *]
    first|exact ⟨_,rfl,.inl rfl,by simpa using hE⟩|exact ⟨f_,_,rfl,.inl rfl,by simpa using hE⟩
   ·clear hE
    intro i x σ gr1 I2 hgf l6 C1 C6 hx hxm hm hlt jI jN jT jA ⟨v,jb',jO0,jE⟩;have z7:=o7 (show gen<gr1 by omega);have z9:=n6 (show gen<gr1 by omega);have hc:=hA x hxm;clear hA;rw [s9 hx,bc6] at jE;rw [P6] at hc;by_cases e3:(C9 x).2=0
    ·rw [e3] at hc jE
     have jE:(H0 (t.args.drop (i+1))).2=E:=by simpa using jE
     have hts:((t.args.take (i+1)).map fun x=>(C9 x).1).map Fm.cells=((t.args.take i).map fun x=>(C9 x).1).map Fm.cells++[(C9 x).1.cells]:=by rw [p9 hx,U0];rfl
     clear e3;exact p_
    ·rw [B8 (by simpa using e3)] at jE
     rw [jE] at hc;clear e3 jE;exact i_
   ·
    intro σ ga1 I1 hgf l6 C0 C5 jT jA ⟨v,jb',jO0,jE⟩;have z6:=o7 (show gen<ga1 by omega);have z8:=n6 (show gen<ga1 by omega);rw [y6,aK0] at jE;subst jE;cases hne
 ·have hne:((L0 t.a7).2 != 0)=true:=by simpa using e1
  rw [B8 hne] at hv0;simp only [P6,hz] at hv0;obtain ⟨E,hE⟩:∃ E,(L0 (t.a7.drop 0)).2=E:=⟨_,rfl⟩;have hE':(L0 t.a7).2=E:=hE;rw [hE'] at hne hv0;subst hv0;clear e1 hE' hA;refine g_ Tryz.func192 [.cell 2 36,.tmp 3] fun g0 w0 gen g9 hfr e9 n8=>?_;refine e_ ?_;refine k_ [1,2,4,20] [⟨gen,0,0⟩,⟨gen,0,1⟩] (fun i σ=>∃ v,σ.h ⟨gen,1,5⟩=some (.box [.int .i64 t.kind,.int .i64 t.type.kind,.sl .any (t.type.args.map Ty.cells),v,.sl .full []])/\Q4 h σ.h v 5 (((t.a7.take i).map fun x=>(norm x).1).map Tm.cells)/\(L0 (t.a7.drop i)).2=E) (t.a7) ?_ ?_ ?_
  ·simp only [go_sem, *]
   first|exact ⟨f_,_,rfl,.inl rfl,by simpa using hE⟩|exact ⟨_,rfl,.inl rfl,by simpa using hE⟩
  ·clear hE
   intro i x σ gr0 o5 hgf l6 l9 m6 hx hxm hm hlt jI jN jT jA ⟨v,jb',jO0,jE⟩;have hc:=hT x hxm;clear hT;rw [s9 hx,bm8] at jE;rw [aV5] at hc;by_cases e3:(norm x).2.2=0
   ·rw [e3] at hc jE
    have jE:(L0 (t.a7.drop (i+1))).2=E:=by simpa using jE
    have n0:((0:Int) != 0)=false:=rfl;have hts:((t.a7.take (i+1)).map fun x=>(norm x).1).map Tm.cells=((t.a7.take i).map fun x=>(norm x).1).map Tm.cells++[(norm x).1.cells]:=by rw [p9 hx,U0];rfl
    clear e3;exact p_
   ·rw [B8 (by simpa using e3)] at jE
    rw [jE] at hc;clear e3 jE;exact i_
  ·
   intro σ ga0 q9 hgf l6 l8 m5 jT jA ⟨v,jb',jO0,jE⟩
   grind [L0]
theorem cJ1 (ty:R4 TyG g f):FmG true f->s6 f<=4096->g.length+s6 f<=5000 ->
  c_ env 192 [.agg f.cells] (P6 (C9 f)):=by
 induction ty with
 | @eq g x y h1 h2 =>
  intro fg z hb;have b1:=fg.aC1 (x:=x) (by simp [u6,Fm.a7]);have b2:=fg.aC1 (x:=y) (by simp [u6,Fm.a7]);rw [D7] at z hb;refine bf2 _ fg.toW (fun u hu=>?_) (fun u hu=>by simp [u6,Fm.args] at hu);simp only [u6,Fm.a7,D9,K0,D1] at hu;rcases hu with rfl|rfl
  ·exact aR8 (g:=g) a_ _ h1 b1 a_ b1.toW
  ·exact aR8 (g:=g) a_ _ h2 b2 a_ b2.toW
 | @two g k a b hk h1 h2 i1 i2 =>
  intro fg z hb;have b1:=fg.at7 (x:=a) (by simp [o8,Fm.args]);have b2:=fg.at7 (x:=b) (by simp [o8,Fm.args]);rw [y8] at z hb;refine bf2 _ fg.toW (fun u hu=>by simp [o8,Fm.a7] at hu) (fun u hu=>?_);simp only [o8,Fm.args,D9,K0,D1] at hu;rcases hu with rfl|rfl
  ·exact i1 b1 a_ a_
  ·exact i2 b2 a_ a_
 | @q g k s a hk h1 ih =>
  intro fg z hb;have b1:=fg.at7 (x:=a) (by simp [fmQ,Fm.args]);rw [G6] at z hb;refine bf2 _ fg.toW (fun u hu=>by simp [fmQ,Fm.a7] at hu) (fun u hu=>?_);simp only [fmQ,Fm.args,D9,K0,D1] at hu;subst hu;exact ih b1 a_ (by simp;omega)
def mb (u most:Nat):GoAbs.Obj:=.box [.int .i64 u,.int .i64 most]
def ak9 (o:Bool) (v:V):V:=if o then .L3 else v
def evR (o:Bool) (v:V):V:=.tup [ak9 o v,.bool (!o)]
def ag5 (d:GoAbs.Id) (most u u':Nat) (o:Bool) (t:Tm) (ve v:V):Prop :=
 m_ env 282 [.ptr d 0,.agg t.cells,ve] d (mb u most) (evR o v) (mb u' most)
def cn6 (t:Tm) (ve:V):V:=.iface 310 (.el (t.cells++[ve]) 0)
inductive af0 (d:GoAbs.Id) (most:Nat):Nat->V->List V->Nat->Bool->V->Prop
 | nil {u:Nat} {fv:V}:af0 d most u fv [] u false fv
 | stop {u u':Nat} {t:Tm} {ve a w:V} {l:List V}:ag5 d most u u' true t (.el [a,ve] 0) w->IsI a->IsE ve->af0 d most u (cn6 t ve) (a::l) u' true w
 | step {u u1 u':Nat} {t:Tm} {ve a fv w:V} {l:List V} {o:Bool}:ag5 d most u u1 false t (.el [a,ve] 0) fv->IsI a->IsE ve->J5 fv=fv->af0 d most u1 fv l u' o w->af0 d most u (cn6 t ve) (a::l) u' o w
theorem af0.cons {d:GoAbs.Id} {most u u':Nat} {fv a w:V} {l:List V} {o:Bool} (h:af0 d most u fv (a::l) u' o w) :
  ∃ (t:Tm) (ve:V),fv=cn6 t ve/\IsI a/\IsE ve/\((o=true/\ag5 d most u u' true t (.el [a,ve] 0) w)\/∃ u1 fv1,ag5 d most u u1 false t (.el [a,ve] 0) fv1/\J5 fv1=fv1/\af0 d most u1 fv1 l u' o w):=by
 cases h with
 | stop h1 h2 h3=>exact ⟨_,_,rfl,h2,h3,.inl ⟨rfl,h1⟩⟩
 | step h1 h2 h3 h4 h5=>exact ⟨_,_,rfl,h2,h3,.inr ⟨_,_,h1,h4,h5⟩⟩
variable {d:GoAbs.Id} {most u u':Nat} {fv w:V} {o:Bool}
theorem af0.none (h:af0 d most u fv [] u' o w):u'=u/\o=false/\w=fv:=by cases h;exact ⟨rfl,rfl,rfl⟩
variable {l:List V}
theorem cz1 (h0:af0 d most u fv l u' o w) (hl:l.length<=100) (hin:∀ S,InV S w) (hw:J5 w=w) (hwf:J5 fv=fv) :
  m_ env 283 [.ptr d 0,fv,.sl .any (l.map fun v=>[v])] d (mb u most) (evR o w) (mb u' most):=by
 intro h hd;unfold mb at hd ⊢;refine g_ Tryz.func283 [.tmp 6,.tmp 7] fun g0 w0 gen g9 hfr e9 n8=>?_;have f1:=n9 hfr hd;have f2:=p6 hfr hd;refine e_ ?_;refine v_ [0,13] [] (fun i σ=>a6 d h σ.h/\∃ (ui:Nat) (fi:V),σ.tm 1=fi/\J5 fi=fi/\σ.h d=some (mb ui most)/\af0 d most ui fi (l.drop i) u' o w) (l).length ?_ ?_ ?_
 ·simp only [go_sem, *]
  exact ⟨a6.refl _ _,u,fv,rfl,hwf,rfl,h0⟩
 ·clear h0
  intro i σ gr0 o5 hgn hlt jI jN jS ⟨jA,ui,fi,jf,jw,js,jk⟩;obtain ⟨jT,jB⟩:=jS;simp only [go_sem] at jT jB;have hgf:=o0 hgn;have l6:=p5 hd jA hgf (fun r i e=>by have:=hfr d (by rw [hd];simp);rw [e] at this;simp at this;omega);have aO3:=u5 hfr hd (show gen<gr0 by omega);have aO5:=D4 hfr hd (show gen<gr0 by omega);have l9:=o7 (show gen<gr0 by omega);have m6:=n6 (show gen<gr0 by omega);obtain ⟨x,hx,hxm,hm⟩:=rnx hlt;clear hgn;rw [s9 hx] at jk;obtain ⟨t,ve,rfl,⟨xt,xv,rfl,wa,ia⟩,we,hk⟩:=jk.cons;have hc:=Tm.l4 t;unfold mb at js;unfold cn6 at jf;rw [hc] at jf;simp only [R9,Q3] at jf;clear jk hw hin;rcases hk with ⟨rfl,hE⟩|⟨u1,fv1,hE,wf1,hk⟩
  ·unfold ag5 mb evR ak9 at hE
   simp only [p7,E7] at hE;rw [hc] at hE;unfold evR ak9;simp only [p7,E7];clear hc;generalize t.kind=k1 at *;generalize t.index=k2 at *;generalize t.type=k3 at *;generalize t.args=k4 at *;rcases we with rfl|⟨vc,rfl,we,ie⟩
   all_goals
    exact ah3
  ·unfold ag5 mb evR ak9 at hE
   simp only [B2,r6,M9] at hE;rw [hc] at hE;clear hc;generalize t.kind=k1 at *;generalize t.index=k2 at *;generalize t.type=k3 at *;generalize t.args=k4 at *;rcases we with rfl|⟨vc,rfl,we,ie⟩
   all_goals
    refine e_ ?_;exact ⟨by repeat (first|exact jA|refine a6.new ?_ (l6 _ _)|refine a6.set ?_),u1,fv1,rfl,wf1,rfl,hk⟩
 ·clear h0
  intro σ ga0 q9 hgn jS ⟨jA,ui,fi,jf,jw,js,jk⟩;obtain ⟨jT,jB⟩:=jS;simp only [go_sem] at jT jB;have hgf:=o0 hgn;have l6:=p5 hd jA hgf (fun r i e=>by have:=hfr d (by rw [hd];simp);rw [e] at this;simp at this;omega);have aO2:=u5 hfr hd (show gen<ga0 by omega);have aO4:=D4 hfr hd (show gen<ga0 by omega);have l8:=o7 (show gen<ga0 by omega);have m5:=n6 (show gen<ga0 by omega);clear hgn;rw [y6] at jk;obtain ⟨rfl,rfl,rfl⟩:=jk.none;unfold mb at js;unfold evR ak9;simp only [B2,r6,M9];have en7:=hin (fun id=>p8 h d (.box [.int .i64 u',.int .i64 most]) id≠none);exact ah3
def cf2 (vs:List V):List V:=vs++List.replicate (3 - vs.length) .L3
inductive bp1 (d:GoAbs.Id) (most:Nat) (ve:V):Nat->List Tm->Nat->Bool->List V->Prop
 | nil {u:Nat}:bp1 d most ve u [] u false []
 | stop {u u':Nat} {t:Tm} {w:V} {l:List Tm}:ag5 d most u u' true t ve w->bp1 d most ve u (t::l) u' true []
 | step {u u1 u':Nat} {t:Tm} {v:V} {l:List Tm} {o:Bool} {vs:List V}:ag5 d most u u1 false t ve v->IsI v->bp1 d most ve u1 l u' o vs->bp1 d most ve u (t::l) u' o (v::vs)
theorem bp1.cons {d:GoAbs.Id} {most u u':Nat} {ve:V} {t:Tm} {l:List Tm} {o:Bool} {vs:List V} (h:bp1 d most ve u (t::l) u' o vs) :
  (o=true/\vs=[]/\∃ w,ag5 d most u u' true t ve w)\/∃ u1 v vs',vs=v::vs'/\ag5 d most u u1 false t ve v/\IsI v/\bp1 d most ve u1 l u' o vs':=by
 cases h with
 | stop h1=>exact .inl ⟨rfl,rfl,_,h1⟩
 | step h1 h2 h3=>exact .inr ⟨_,_,_,rfl,h1,h2,h3⟩
theorem bp1.none {ve:V} {vs:List V} (h:bp1 d most ve u [] u' o vs):u'=u/\o=false/\vs=[]:=by cases h;exact ⟨rfl,rfl,rfl⟩
theorem bS8:cf2 []=[.L3,.L3,.L3]:=rfl
variable {a:V}
theorem bS9:cf2 [a]=[a,.L3,.L3]:=rfl
theorem bT0 {b:V}:cf2 [a,b]=[a,b,.L3]:=rfl
theorem dO6 {b c:V}:cf2 [a,b,c]=[a,b,c]:=rfl
theorem dI9 {ve:V} {l:List Tm} {vs:List V} (h0:bp1 d most ve u l u' o vs) (hl:l.length<=3) (hve:IsE ve) :
  m_ env 288 [.ptr d 0,.sl .any (l.map Tm.cells),ve] d (mb u most) (.tup [.agg (cf2 vs),.bool (!o)]) (mb u' most):=by
 intro h hd;unfold mb at hd ⊢;refine g_ Tryz.func288 [.cell 6 313,.tmp 7] fun g0 w0 gen g9 hfr e9 n8=>?_;have f1:=n9 hfr hd;have f2:=p6 hfr hd;have wve:J5 ve=ve:=by
  rcases hve with rfl|⟨c,rfl,h,_⟩
  ·rfl
  ·simp [J5,h]
 refine e_ ?_;refine v_ [0,2,6,8,13] [⟨gen,0,0⟩] (fun i σ=>a6 d h σ.h/\∃ (ui:Nat) (vi rest:List V),σ.h d=some (mb ui most)/\σ.h ⟨gen,1,0⟩=some (.box (cf2 vi))/\vi.length=i/\(∀ v∈vi,IsI v)/\vs=vi++rest/\bp1 d most ve ui (l.drop i) u' o rest) (l).length ?_ ?_ ?_
 ·simp only [go_sem, *]
  exact ⟨by repeat (first|exact a6.refl _ _|assumption|refine a6.new ?_ (e9 _ _)|refine a6.set ?_),u,[],vs,rfl,rfl,rfl,b_,rfl,h0⟩
 ·clear h0
  intro i σ gr0 o5 hgn hlt jI jN jS ⟨jA,ui,vi,rest,js,jb,jn,jw,jv,jk⟩;obtain ⟨jT,jB⟩:=jS;simp only [go_sem] at jT jB;have hgf:=o0 hgn;have l6:=p5 hd jA hgf (fun r i e=>by have:=hfr d (by rw [hd];simp);rw [e] at this;simp at this;omega);have aO3:=u5 hfr hd (show gen<gr0 by omega);have aO5:=D4 hfr hd (show gen<gr0 by omega);have l9:=o7 (show gen<gr0 by omega);have m6:=n6 (show gen<gr0 by omega);obtain ⟨x,hx,hxm,hm⟩:=rnx hlt;clear hgn;rw [s9 hx] at jk;unfold mb at js;rcases jk.cons with ⟨rfl,rfl,w,hE⟩|⟨u1,v,vs',rfl,hE,wv,hk⟩
  ·unfold ag5 mb evR ak9 at hE
   simp only [p7,E7] at hE ⊢;rw [ae7] at jv;subst jv;clear jk
   match vs,jn with
   | [],e =>
    obtain rfl:i=0:=by simpa using e.symm
    rw [bS8] at jb ⊢;exact ah3
   | [a],e =>
    obtain rfl:i=1:=by simpa using e.symm
    obtain ⟨a1,a2,rfl,wa,ia⟩:=jw a b_;clear jw;rw [bS9] at jb ⊢;exact ah3
   | [a,b],e =>
    obtain rfl:i=2:=by simpa using e.symm
    obtain ⟨a1,a2,rfl,wa,ia⟩:=jw a b_;obtain ⟨b1,b2,rfl,wb,ib⟩:=jw b b_;clear jw;rw [bT0] at jb ⊢;exact ah3
   | _::_::_::_,e=>simp at e;omega
  ·unfold ag5 mb evR ak9 at hE
   simp only [B2,r6,M9] at hE;obtain ⟨c1,c2,rfl,wc,ic⟩:=wv;clear jk
   match vi,jn with
   | [],e =>
    obtain rfl:i=0:=by simpa using e.symm
    rw [bS8] at jb;have z1:((0:Int)<((3:Nat):Int))=True:=by simp
    replace jI:σ.tm 15=.int .i64 0:=jI;clear jw
    repeat' (first
     | (first|refine wp rfl ?_|refine spt rfl ?_|refine spf rfl ?_|(refine spl (fun hc=>?_) fun hc=>?_)<;>(try rw [L1] at hc)<;>try simp only [hc]|(refine ct (hE) ?_ ?_;focus ((simp only [go_sem, *]<;>rfl);done))|refine D3 ?_)<;>try simp only [go_sem, *])
    exact ⟨by rfl,by repeat (first|exact jA|refine a6.new ?_ (l6 _ _)|refine a6.new ?_ (e9 _ _)|refine a6.set ?_),u1,[.iface c1 c2],vs',rfl,rfl,rfl,fun v hv=>by simp at hv;subst hv;exact ⟨_,_,rfl,wc,ic⟩,rfl,hk⟩
   | [a],e =>
    obtain rfl:i=1:=by simpa using e.symm
    obtain ⟨a1,a2,rfl,wa,ia⟩:=jw a b_;rw [bS9] at jb;have z1:((1:Int)<((3:Nat):Int))=True:=by simp
    replace jI:σ.tm 15=.int .i64 1:=jI;clear jw
    repeat' (first
     | (first|refine wp rfl ?_|refine spt rfl ?_|refine spf rfl ?_|(refine spl (fun hc=>?_) fun hc=>?_)<;>(try rw [L1] at hc)<;>try simp only [hc]|(refine ct (hE) ?_ ?_;focus ((simp only [go_sem, *]<;>rfl);done))|refine D3 ?_)<;>try simp only [go_sem, *])
    exact ⟨by rfl,by repeat (first|exact jA|refine a6.new ?_ (l6 _ _)|refine a6.new ?_ (e9 _ _)|refine a6.set ?_),u1,[.iface a1 a2,.iface c1 c2],vs',rfl,rfl,rfl,fun v hv=>by
     simp at hv;rcases hv with rfl|rfl
     ·exact ⟨_,_,rfl,wa,ia⟩
     ·exact ⟨_,_,rfl,wc,ic⟩,rfl,hk⟩
   | [a,b],e =>
    obtain rfl:i=2:=by simpa using e.symm
    obtain ⟨a1,a2,rfl,wa,ia⟩:=jw a b_;obtain ⟨b1,b2,rfl,wb,ib⟩:=jw b b_;rw [bT0] at jb;have z1:((2:Int)<((3:Nat):Int))=True:=by simp
    replace jI:σ.tm 15=.int .i64 2:=jI;clear jw
    repeat' (first
     | (first|refine wp rfl ?_|refine spt rfl ?_|refine spf rfl ?_|(refine spl (fun hc=>?_) fun hc=>?_)<;>(try rw [L1] at hc)<;>try simp only [hc]|(refine ct (hE) ?_ ?_;focus ((simp only [go_sem, *]<;>rfl);done))|refine D3 ?_)<;>try simp only [go_sem, *])
    exact ⟨by rfl,by repeat (first|exact jA|refine a6.new ?_ (l6 _ _)|refine a6.new ?_ (e9 _ _)|refine a6.set ?_),u1,[.iface a1 a2,.iface b1 b2,.iface c1 c2],vs',rfl,rfl,rfl,fun v hv=>by
     simp at hv;rcases hv with rfl|rfl|rfl
     ·exact ⟨_,_,rfl,wa,ia⟩
     ·exact ⟨_,_,rfl,wb,ib⟩
     ·exact ⟨_,_,rfl,wc,ic⟩,rfl,hk⟩
   | _::_::_::_,e=>simp at e;omega
 ·clear h0
  intro σ ga0 q9 hgn jS ⟨jA,ui,vi,rest,js,jb,jn,jw,jv,jk⟩;obtain ⟨jT,jB⟩:=jS;simp only [go_sem] at jT jB;have hgf:=o0 hgn;have l6:=p5 hd jA hgf (fun r i e=>by have:=hfr d (by rw [hd];simp);rw [e] at this;simp at this;omega);have aO2:=u5 hfr hd (show gen<ga0 by omega);have aO4:=D4 hfr hd (show gen<ga0 by omega);have l8:=o7 (show gen<ga0 by omega);have m5:=n6 (show gen<ga0 by omega);clear hgn;rw [y6] at jk;obtain ⟨rfl,rfl,rfl⟩:=jk.none;rw [ae7] at jv;subst jv;unfold mb at js;simp only [M9];clear jk
  match vs,jn,hl with
  | [],e,_ =>
   clear e;rw [bS8] at jb ⊢;exact ah3
  | [a],e,_ =>
   obtain ⟨a1,a2,rfl,wa,ia⟩:=jw a b_;clear jw;clear e;rw [bS9] at jb ⊢;exact ah3
  | [a,b],e,_ =>
   obtain ⟨a1,a2,rfl,wa,ia⟩:=jw a b_;obtain ⟨b1,b2,rfl,wb,ib⟩:=jw b b_;clear jw;clear e;rw [bT0] at jb ⊢;exact ah3
  | [a,b,c],e,_ =>
   obtain ⟨a1,a2,rfl,wa,ia⟩:=jw a b_;obtain ⟨b1,b2,rfl,wb,ib⟩:=jw b b_;obtain ⟨c1,c2,rfl,wc,ic⟩:=jw c b_;clear jw;clear e;rw [dO6] at jb ⊢;exact ah3
  | _::_::_::_::_,e,hl=>simp at e;omega
def an7 (n:Nat):V:=.iface 3 (.int .i64 n)
inductive bp2 (d:GoAbs.Id) (most:Nat) (sv:V):Nat->Nat->Nat->V->Nat->Bool->V->Prop
 | nil {k u:Nat} {rv:V}:bp2 d most sv k 0 u rv u false rv
 | stop {k m u u':Nat} {rv w:V}:af0 d most u sv [an7 k,rv] u' true w->bp2 d most sv k (m+1) u rv u' true w
 | step {k m u u1 u':Nat} {rv rv1 w:V} {o:Bool}:af0 d most u sv [an7 k,rv] u1 false rv1->IsI rv1->bp2 d most sv (k+1) m u1 rv1 u' o w->bp2 d most sv k (m+1) u rv u' o w
theorem bp2.cons {d:GoAbs.Id} {most k m u u':Nat} {sv rv w:V} {o:Bool} (h:bp2 d most sv k (m+1) u rv u' o w) :
  (o=true/\af0 d most u sv [an7 k,rv] u' true w)\/∃ u1 rv1,af0 d most u sv [an7 k,rv] u1 false rv1/\IsI rv1/\bp2 d most sv (k+1) m u1 rv1 u' o w:=by
 cases h with
 | stop h=>exact .inl ⟨rfl,h⟩
 | step h1 h2 h3=>exact .inr ⟨_,_,h1,h2,h3⟩
theorem bp2.none {k:Nat} {sv rv:V} (h:bp2 d most sv k 0 u rv u' o w):u'=u/\o=false/\w=rv:=by cases h;exact ⟨rfl,rfl,rfl⟩
theorem af0.dead {w':V} (h:af0 d most u fv l u' true w) (hh:∀ (t:Tm) (ve v:V) (u u':Nat),ag5 d most u u' true t ve v->ag5 d most u u' true t ve w'):af0 d most u fv l u' true w':=by
 generalize ho:true=o at h
 induction h with
 | nil=>cases ho
 | stop h1 h2 h3=>exact .stop (hh _ _ _ _ _ h1) h2 h3
 | step h1 h2 h3 h4 _ ih=>exact .step h1 h2 h3 h4 (ih ho)
theorem ay0 (h0:af0 d most u fv l u' o w) (hl:l.length<=100) (hw:o=false->IsI w) (hf:IsI fv) :
  m_ env 283 [.ptr d 0,fv,.sl .any (l.map fun v=>[v])] d (mb u most) (evR o w) (mb u' most):=by
 obtain ⟨f1,f2,rfl,f3,_⟩:=hf;have wf:J5 (.iface f1 f2)=.iface f1 f2:=by simp [J5,f3]
 cases o with
 | false =>
  obtain ⟨t,x,rfl,h1,h2⟩:=hw rfl;exact cz1 h0 hl (fun S=>by simp [InV,h2]) (by simp [J5,h1]) wf
 | true =>
  have:=cz1 (h0.dead (w':=.L3) (fun _ _ _ _ _ h=>h)) hl (fun S=>by simp [InV]) rfl wf;exact this
theorem dJ5 {N:Nat} {zv sv:V} (h0:bp2 d most sv 0 N u zv u' o w) (hz:IsI zv) (hs:IsI sv) (hN:N<=100000) :
  m_ env 289 [.ptr d 0,.agg [zv,sv,an7 N]] d (mb u most) (evR o w) (mb u' most):=by
 intro h hd;unfold mb at hd ⊢;have x0:((0:Int)<((3:Nat):Int))=True:=by simp
 have x1:((1:Int)<((3:Nat):Int))=True:=by simp
 have x2:((2:Int)<((3:Nat):Int))=True:=by simp
 have hsI:=hs;obtain ⟨s1,s2,rfl,ws,is⟩:=hs;refine g_ Tryz.func289 [.tmp 4,.tmp 5] fun g0 w0 gen g9 hfr e9 n8=>?_;have f1:=n9 hfr hd;have f2:=p6 hfr hd;unfold an7;obtain ⟨z1,z2,rfl,wz,iz⟩:=id hz;refine e_ ?_;refine E6 (fun i σ2=>σ2.tm 8=.int .i64 i/\σ2.tm 0=.ptr d 0/\σ2.tm 3=.ptr ⟨gen,0,0⟩ 0/\σ2.h ⟨gen,0,0⟩=some (.box [.iface z1 z2,.iface s1 s2,.iface 3 (.int .i64 N)])/\a6 d h σ2.h/\i<=N /\
  ∃ (uj:Nat) (rj:V) (oj:Bool),σ2.h d=some (.box [.int .i64 uj,.int .i64 most])/\σ2.tm 6=rj/\σ2.tm 7=.bool (!oj)/\(oj=true->rj=.L3/\u'=uj/\o=true) /\
   (oj=false->IsI rj/\bp2 d most (.iface s1 s2) i (N - i) uj rj u' o w)) N ?_ ?_
 ·simp only [go_sem, *]
  exact ⟨rfl,by repeat (first|exact a6.refl _ _|refine a6.new ?_ (e9 _ _)),u,_,false,rfl,rfl,rfl,(fun e=>by cases e),fun _=>⟨hz,h0⟩⟩
 clear h0 hz;intro i σ2 hi ⟨j1,j2,j3,j4,jA,j5,uj,rj,oj,j6,j7,j8,j9,j10⟩;refine ai4 (fun gn hgl hgn=>?_);have hgf:=o0 hgn;have l6:=p5 hd jA hgf (fun r i e=>by have:=hfr d (by rw [hd];simp);rw [e] at this;simp at this;omega);have eg1:=o7 hgl;have eg2:=n6 hgl;have fd:=u5 hfr hd hgl;have fe:=D4 hfr hd hgl;clear hgn;cases oj with
 | true =>
  obtain ⟨rfl,rfl,rfl⟩:=j9 rfl;clear j9 j10;simp only [E7] at j8;unfold evR ak9;simp only [p7,E7];exact ah3
 | false =>
 obtain ⟨jI,jr⟩:=j10 rfl;clear j9 j10;simp only [M9] at j8;rcases R0 i N with hlt|hge
 ·have dv0:=Z5 hlt
  have hsu:=E2 (i:=i) a_;rw [show N - i=(N - (i+1))+1 by omega] at jr;obtain ⟨r1,r2,rfl,wr,ir⟩:=id jI;rcases jr.cons with ⟨rfl,hk⟩|⟨u1,rv1,hk,hI1,hr1⟩
  ·have hT:=ay0 hk b_ (fun e=>by cases e) hsI
   unfold evR ak9 mb an7 at hT;simp only [p7,E7,E0,B7] at hT;clear jr hk hsI jI;refine e_ ?_;exact ⟨by repeat (first|exact jA|refine a6.new ?_ (l6 _ _)|refine a6.set ?_),a_,u',_,true,rfl,rfl,rfl,(fun _=>by simp),fun e=>by cases e⟩
  ·have hT:=ay0 hk b_ (fun _=>hI1) hsI
   unfold evR ak9 mb an7 at hT;simp only [B2,r6,M9,E0,B7] at hT;clear jr hk hsI jI;obtain ⟨q1,q2,rfl,wq,iq⟩:=id hI1;refine e_ ?_;exact ⟨by repeat (first|exact jA|refine a6.new ?_ (l6 _ _)|refine a6.set ?_),a_,u1,_,false,rfl,rfl,rfl,(fun e=>by cases e),fun _=>⟨hI1,hr1⟩⟩
 ·have dv0:=T5 hge
  rw [show N - i=0 by omega] at jr;obtain ⟨rfl,rfl,rfl⟩:=jr.none;obtain ⟨q1,q2,rfl,wq,iq⟩:=id jI;unfold evR ak9;simp only [B2,r6,M9];clear jr jI hsI;exact ah3
end Go.Proofs.YtmfhhhhnokhggaaGreatDoor
