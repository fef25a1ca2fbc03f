/-
 Walks: several parts in one text.
-/
import Derived.Test.YtmfhhhhnokhggaaGreatDoorKF
set_option linter.unusedSimpArgs false
set_option linter.unusedVariables false
set_option maxRecDepth 20000
set_option maxHeartbeats 4000000
namespace Go.Proofs.YtmfhhhhnokhggaaGreatDoor
open Go GoAbs Go.Proofs
section
variable {l:List Int} (hl:l.length<=1000) {n:Nat} (ih:aR5 l n) {g:List Ty} {hs:List Fm} {a a1:Nat} (c:Plc (n+1) g hs) (hc2:(r8 l a 17).2=a1)
include hl ih c hc2
theorem cH9 (hc1:(r8 l a 17).1=7):PrT l (n+1) g hs a:=by
 refine be9 hl ih c hc2 a_ hc1 fun p ap f u gp wp Tp hI sI=>?_;obtain ⟨s,as1,m1,ws,Ts⟩:=bq4 l hl 1 a_ ap;rw [show ((1:Nat):Int)=1 from rfl] at Ts;have hr:=H8 (l:=l) (a:=as1) (n:=2) a_ a_;generalize hk1:(r8 l as1 2).1=k at hr;generalize hk2:(r8 l as1 2).2=a2;obtain ⟨q,K,hk⟩:∃ q K:Int,k=0/\q=5/\K=10\/k=1/\q=7/\K=14:=by
  rcases (show k=0\/k=1 by omega) with rfl|rfl
  ·exact ⟨_,_,.inl ⟨rfl,rfl,rfl⟩⟩
  ·exact ⟨_,_,.inr ⟨rfl,rfl,rfl⟩⟩
 clear hr;obtain ⟨gl,hlh,hz,hw,h10,h11,n0⟩:=prT c;have hN:=s8;have gs:TyG s:=m1.G a_;have wf:=sI.jd.fg.toW;have ju:=sI.jd.up (m:=[s]) a_ b_;rw [show (([s]:List Ty).length:Int)=1 from rfl] at ju;have h1:=ap2 1 f wf 0;have wu:=ju.fg.toW;have h2:=aK9 q s (f.up 1 0) ws wu;have wQ:FmW (fmQ q s (f.up 1 0)):=bI4 ws wu;have sQ:FmS (fmQ q s (f.up 1 0)):=⟨.q (by rcases hk with ⟨_,rfl,_⟩|⟨_,rfl,_⟩<;>simp) gs ju.fg,by rw [G6];have:=ju.sz;omega,.q (fun e=>by omega) ju.al⟩;obtain ⟨x,ax,mx,wx,sx,Tx⟩:=aB2 l hl c m1 a2;have h3:=bP8 K (fmQ q s (f.up 1 0)) x p wQ wx wp;refine ⟨aA6 K (fmQ q s (f.up 1 0)) x p,ax,.ex a_ sQ sx gp,bz3 wQ wx wp,?_⟩;generalize aA6 K (fmQ q s (f.up 1 0)) x p=R2 at *;generalize fmQ q s (f.up 1 0)=Q at *;generalize f.up 1 0=F1 at *;clear c ih gl hlh gp wp sI gs wf ju wu wQ sQ mx wx sx m1 ws;unfold sqV at *;rcases hk with ⟨rfl,rfl,rfl⟩|⟨rfl,rfl,rfl⟩
 all_goals
  intro d h hd;have hdd:=hd;have zq0:=Tp d;have zq1:=Ts d;have zq2:=Tx d;have hNx:=J2 l hl d;exact n_ Tryz.func15 [.cell 8 34]
theorem cI0 (hc1:(r8 l a 17).1=8):PrT l (n+1) g hs a:=by
 obtain ⟨gl,hlh,hz,hw,h10,h11,n0⟩:=prT c;have hN:=s8;obtain ⟨p,ap,gp,wp,Tp⟩:=cY1 l hl c a1 ih;refine ⟨p,ap,gp,wp,?_⟩;clear c ih gl hlh gp wp hw;unfold sqV at *;intro d h hd;have hdd:=hd;have zq0:=Tp d;have hNx:=J2 l hl d;exact n_ Tryz.func15 [.cell 8 34]
theorem bG5 {k K:Int} {T:Ty} (hk:k=9/\K=16/\T=c8\/k=10/\K=17/\T=r5) (mT:N0 1 T) (hc1:(r8 l a 17).1=k):PrT l (n+1) g hs a:=by
 refine be9 hl ih c hc2 a_ hc1 fun p ap f u gp wp Tp hI sI=>?_;obtain ⟨gl,hlh,hz,hw,h10,h11,n0⟩:=prT c;have hN:=s8;have wf:=sI.jd.fg.toW;have ju:=sI.jd.up (m:=[T]) a_ b_;rw [show (([T]:List Ty).length:Int)=1 from rfl] at ju;have h1:=ap2 1 f wf 0;have wu:=ju.fg.toW;have hLi:=B9;have h4:=bq1 0;obtain ⟨x,ax,mx,wx,sx,Tx⟩:=aB2 l hl c (t:=T) mT ap;have h3:=cz4 K (f.up 1 0) x p (ae3 0) wu wx wp aB7;refine ⟨aB8 K (f.up 1 0) x p (ae3 0),ax,.ind a_ ⟨ju.fg,by have:=ju.sz;omega,ju.al⟩ sx gp (.hyp a_),cD7 wu wx wp aB7,?_⟩;generalize aB8 K (f.up 1 0) x p (ae3 0)=R2 at *;generalize f.up 1 0=F1 at *;clear mT c ih gl hlh gp wp sI wf ju wu mx wx sx;unfold sqV at *;rcases hk with ⟨rfl,rfl,rfl⟩|⟨rfl,rfl,rfl⟩
 all_goals
  intro d h hd;have hdd:=hd;have zq0:=Tp d;have zq1:=Tx d;have hNx:=J2 l hl d;exact n_ Tryz.func15 [.cell 8 34]
theorem cl1 (hc1:(r8 l a 17).1=11):PrT l (n+1) g hs a:=by
 have _:=ih;obtain ⟨gl,hlh,hz,hw,h10,h11,n0⟩:=prT c;have hN:=s8;obtain ⟨x,ax,mx,wx,sx,Tx⟩:=aB2 l hl c .nat a1;have h1:=dq0 x wx;have wZ:PfW (bB6 x):=dB1 wx;refine ⟨bB6 x,ax,dB0 sx,wZ,?_⟩;generalize bB6 x=R at *;clear c ih gl hlh mx wx sx wZ;unfold sqV at *;intro d h hd;have hdd:=hd;have zq0:=Tx d;have hNx:=J2 l hl d;exact n_ Tryz.func15 [.cell 8 34]
theorem cl2 (hc1:(r8 l a 17).1=12):PrT l (n+1) g hs a:=by
 have _:=ih;obtain ⟨gl,hlh,hz,hw,h10,h11,n0⟩:=prT c;have hN:=s8;obtain ⟨x,ax,mx,wx,sx,Tx⟩:=aB2 l hl c .nat a1;obtain ⟨y,ay,my,wy,sy,Ty'⟩:=aB2 l hl c .nat ax;obtain ⟨_,hy,zy⟩:=bh8 my c.gg .nat;obtain ⟨_,gu⟩:=dl0 hy sy.g a_ a_;have wu:TmW (y.up 1 0):=gu.toW;have h1:=aX2 y wy wu;have h2:=bD6 (y.up 1 0) (y.up 1 0) wu wu;have h3:=as5 x wx;have h4:=as5 y wy;have h5:=bH4 (u6 (y.up 1 0) (y.up 1 0)) (E9 x) (E9 y) (ap5 wu wu) (Q2 wx) (Q2 wy);refine ⟨ai8 (u6 (y.up 1 0) (y.up 1 0)) (E9 x) (E9 y),ay,.subst ⟨.eq gu gu,by rw [D7,aq9];omega,.eq⟩ (.refl sx) (.refl sy),aT8 (ap5 wu wu) (Q2 wx) (Q2 wy),?_⟩;generalize ai8 (u6 (y.up 1 0) (y.up 1 0)) (E9 x) (E9 y)=R2 at *;generalize E9 x=Rx at *;generalize E9 y=Ry at *;generalize u6 (y.up 1 0) (y.up 1 0)=Q at *;clear c ih gl hlh mx wx sx my wy sy hy zy gu wu;unfold sqV at *;intro d h hd;have hdd:=hd;have zq0:=Tx d;have zq1:=Ty' d;have hNx:=J2 l hl d;exact n_ Tryz.func15 [.cell 8 34]
theorem cl3 (hc1:(r8 l a 17).1=13):PrT l (n+1) g hs a:=by
 have _:=ih;obtain ⟨gl,hlh,hz,hw,h10,h11,n0⟩:=prT c;have hN:=s8;obtain ⟨s,as1,ms,ws,Ts⟩:=bq4 l hl 0 a_ a1;have m1:N0 1 s:=ms.up a_;have gs:TyG s:=m1.G a_;rw [show ((0:Nat):Int)=0 from rfl] at Ts;have hB:=aS3 g [s] hs a_ b_ a_ (fun x hx=>(c.hy x hx).fg.toW);rw [show (([s]:List Ty).length:Int)=1 from rfl] at hB;simp only [E0,B7] at hB;obtain ⟨t,at',mt,wt,Tt,_⟩:=cY9 l hl (c.below m1) as1;obtain ⟨sT,_,_⟩:=bh8 mt (c.below m1).gg .nat;have jQ:=bU2 (k:=5) (.inl rfl) mt (c.below m1).gg (by simp;omega);have wS:PfW (V6 10 5 t):=bz3 jQ.fg.toW wt (Q2 wt);have gS:PfG (V6 10 5 t):=.ex (.inl rfl) ⟨jQ.fg,by have:=jQ.sz;omega,jQ.al⟩ sT (.refl sT);have h1:=bP7 8 s (V6 10 5 t) ws wS;have wA:PfW (ae2 8 s (V6 10 5 t)):=bT1 ws wS;have gA:PfG (ae2 8 s (V6 10 5 t)):=.all a_ m1 gS;have h2:=bu5 20 [ae2 8 s (V6 10 5 t)] b_ (by simp [wA]);simp only [E0,B7] at h2;refine ⟨pfK 20 [ae2 8 s (V6 10 5 t)],at',.one a_ gA,bK7 b_ (by simp [wA]),?_⟩;generalize pfK 20 [ae2 8 s (V6 10 5 t)]=R2 at *;generalize ae2 8 s (V6 10 5 t)=RA at *;generalize V6 10 5 t=RS at *;clear c ih gl hlh ms m1 gs ws mt wt sT jQ wS gS wA gA;unfold sqV at *;intro d h hd;have hdd:=hd;have zq0:=Ts d;have zq1:=Tt d;have hNx:=J2 l hl d;exact n_ Tryz.func15 [.cell 8 34]
theorem cl4 (hc1:(r8 l a 17).1=16):PrT l (n+1) g hs a:=by
 have _:=ih;obtain ⟨gl,hlh,hz,hw,h10,h11,n0⟩:=prT c;have hN:=s8;obtain ⟨q,aq,gq,wq,hT⟩:=bi2 l hl c a1;refine ⟨q,aq,gq,wq,?_⟩;clear c ih gl hlh gq wq;unfold aR6 at hT;unfold sqV at *;intro d h hd;have hdd:=hd;refine g_ Tryz.func15 [.cell 8 34] fun g0 w0 gen g9 hfr e9 n8=>?_;have f1:=n9 hfr hd;have f2:=p6 hfr hd;change AR _ _ [.code (.seq (K4 [false] (x8 Tryz.f15)) (.seq (K4 [true,false] (x8 Tryz.f15)) (.seq (K4 [true,true,false] (x8 Tryz.f15)) (K4 [true,true,true] (x8 Tryz.f15)))))] _ _;generalize K4 [true,true,true] (x8 Tryz.f15)=C4 at hT ⊢
 conv=>arg 3;simp only [K4,x8,Tryz.f15,aa7]
 repeat' (first
  |refine K8 ?_|refine P8 ?_|refine K7 ?_|refine C8 ?_|refine P7 ?_|refine B5 ?_|refine E4 ?_|refine B4 ?_
  |refine A8 (by decide) ?_|refine Y5 ?_|refine S2 ?_
  |(refine ⟨?_,?_⟩;focus ((repeat' (first|refine ⟨?_,?_⟩|refine .inr ?_));all_goals kernel_rfl))
  |refine K3 rfl ?_|refine K1 rfl ?_|(refine M6 rfl (fun hc=>?_) (fun hc=>?_)<;>(try rw [L1] at hc)<;>(try simp only [hc]))
  | ((first|refine D2 ?_|(refine A9 (fun hb=>?_) (fun hb=>?_)<;>(try simp only [E7,M9] at hb))|refine y7 (hN) ?_|refine y7 (hN) ?_|refine L7 (J2 l hl d _ _) q_ ?_)<;>simp only [go_sem, *]))
 refine hT d h _ g0 w0 gen _ hdd g9 hfr ⟨j_,j_,j_,j_,j_,j_,j_,j_,j_,?_⟩;simp only [go_sem, *]
 repeat (first|exact a6.refl _ _|assumption|refine a6.new ?_ (e9 _ _)|refine a6.set ?_)
end
end Go.Proofs.YtmfhhhhnokhggaaGreatDoor
