/-
 Walks: the truth of a decidable formula.
-/
import Derived.Test.YteaijonkbbkkjaaGreatDoorMi
set_option linter.unusedSimpArgs false
set_option linter.unusedVariables false
set_option maxRecDepth 20000
set_option maxHeartbeats 4000000
namespace Go.Proofs.YteaijonkbbkkjaaGreatDoor
open Go GoAbs Go.Proofs
theorem bG3 {m:Nat} {t:Tm} (hm:m≤65536) (gt:TmG t) (ht:w7 TyG [] t r5) (zt:m7 t≤4096):bj0 m t (evN m t):=by
 obtain ⟨r,u,o,h1,h2,h3⟩:=bj6 (m:=m) ht;unfold bj0;rw [h2];exact bC4 hm h1 gt.toW ht (gt.aj7 zt) om_
def aQ4 (lim:Nat) (a:Ans):Prop:=a.2.1≤lim∧(a.1=true→a.2.2=0)
theorem dc2 {d:GoAbs.Id} {lim w:Nat} {x y:Tm} (hl:lim≤65536) (hw:w≤lim) (gx:TmG x) (gy:TmG y) (tx:w7 TyG [] x r5) (ty:w7 TyG [] y r5) (zx:m7 x≤4096) (zy:m7 y≤4096) :
  TrT d lim (M3 x y) w (dE lim w x y).1 (dE lim w x y).2.1 (dE lim w x y).2.2∧aQ4 lim (dE lim w x y):=by
 obtain ⟨bx,_⟩:=bm4 (m:=lim - w) tx gx.toW om_;have by':∀ v,(evN (lim - v) y).2.1≤lim - v:=fun v=>(bm4 ty gy.toW om_).1
 have h:=cQ3 d lim w x y (evN (lim - w) x) (evN (lim - (w+(evN (lim - w) x).2.1)) y) hl hw (bG3 om_ gx tx zx) bx
  (fun _=>⟨bG3 om_ gy ty zy,by have:=by' (w+(evN (lim - w) x).2.1);omega⟩)
 have hy:=by' (w+(evN (lim - w) x).2.1)
 have e:eqR w (evN (lim - w) x) (evN (lim - (w+(evN (lim - w) x).2.1)) y)=dE lim w x y:=by
  unfold eqR dE dN;cases h1:(evN (lim - w) x).2.2 with
  | true=>simp
  | false =>
   simp only [Bool.false_eq_true,if_false];cases h2:(evN (lim - (w+(evN (lim - w) x).2.1)) y).2.2 with
   | true=>simp
   | false=>simp
 rw [e] at h;refine ⟨h,?_⟩;rw [← e];unfold eqR aQ4;split
 ·exact ⟨hw,sp_⟩
 ·split
  ·exact ⟨by simp only;omega,sp_⟩
  ·exact ⟨by simp only;omega,sp_⟩
theorem co5 {d:GoAbs.Id} {lim:Nat} {all:Bool} {a:Fm} (D:Nat→Fm→Ans) (hl:lim≤65536) (da:Dc [r5] a) (za:z6 a≤4096)
  (hD:∀ f w,Dc [] f→z6 f≤4096→fdp f=fdp a→w≤lim→TrT d lim f w (D w f).1 (D w f).2.1 (D w f).2.2∧aQ4 lim (D w f)) :
  ∀ n k w,w≤lim→aM8 d lim all a n k w (dB D lim all a n k w).1 (dB D lim all a n k w).2.1 (dB D lim all a n k w).2.2∧aQ4 lim (dB D lim all a n k w)
 | 0,k,w,hw=>⟨.done,hw,fun _=>rfl⟩
 | n+1,k,w,hw=>by
  rw [dB];by_cases hlt:lim≤w
  ·rw [if_pos hlt]
   exact ⟨.limit hlt,hw,sp_⟩
  rw [if_neg hlt];have hp:aF7 d lim a k (w+1) (dW D a k (w+1)).1 (dW D a k (w+1)).2.1 (dW D a k (w+1)).2.2∧aQ4 lim (dW D a k (w+1)):=by
   unfold dW;by_cases hk:4096≤k
   ·rw [if_pos hk]
    exact ⟨cf0 d lim a k (w+1) hk,by simp only [aQ4];exact ⟨om_,sp_⟩⟩
   rw [if_neg hk];have zk:m7 (C5 k)=k+1:=S4 k;have hP:=aL2 a (da.G (u:=true)).toW (da.G (u:=true)) za (da.least (by simp;omega)) (C5 k) (az7 k) (at6 k) om_ ((w7.num (Q:=TyG) (g:=[]) k).least _ om_ (by simp;omega));unfold Y5 at hP;cases hz:((H3 a (C5 k)).2 != 0) with
   | true =>
    simp only [if_true];exact ⟨bY3 d lim a k (w+1) om_ _ _ hz hP,by simp only [aQ4];exact ⟨om_,sp_⟩⟩
   | false =>
    have hz':(H3 a (C5 k)).2=0:=by simpa using hz
    simp only [Bool.false_eq_true,if_false];obtain ⟨p1,p2,p3⟩:=da.put za (by omega:k<4096) hz';obtain ⟨t1,t2⟩:=hD _ (w+1) p1 p2 p3 om_;rw [hz'] at hP;exact ⟨cr2 d lim a k (w+1) om_ _ hP t1,t2⟩
  generalize dW D a k (w+1)=p at hp;obtain ⟨hp1,hp2⟩:=hp;cases hs:(p.2.2 != 0||p.1 != all) with
  | true =>
   simp only [if_true];exact ⟨.stop om_ hp1 hs,hp2⟩
  | false =>
   simp only [Bool.false_eq_true,if_false];simp only [Bool.or_eq_false_iff,bne_eq_false_iff_eq] at hs;obtain ⟨s1,s2⟩:=hs;rw [s1,s2] at hp1;obtain ⟨r1,r2⟩:=co5 D hl da za hD n (k+1) p.2.1 hp2.1;exact ⟨.step om_ hp1 r1,r2⟩
theorem bj5 {d:GoAbs.Id} {lim:Nat} (hl:lim≤65536):∀ (n:Nat) (f:Fm) (w:Nat),fdp f≤n→Dc [] f→z6 f≤4096→w≤lim →
  TrT d lim f w (dT lim n w f).1 (dT lim n w f).2.1 (dT lim n w f).2.2∧aQ4 lim (dT lim n w f)
 | 0,f,w,hn,_,_,_=>by have:=aC8 f;omega
 | n + 1,f,w,hn,hf,zf,hw=>by
  generalize hg:([]:List Ty)=g at hf;cases hf with
  | @eq _ x y gx gy tx ty =>
   subst hg;rw [V6] at zf;rw [ck7];exact dc2 hl hw gx gy tx ty om_ om_
  | @two _ k a b hk da db =>
   subst hg;rw [O0] at zf;rw [aJ0] at hn;obtain ⟨a1,a2⟩:=bj5 hl n a w om_ da om_ hw;rcases hk with rfl|rfl
   ·rw [bk0]
    obtain ⟨b1,b2⟩:=bj5 hl n b (dT lim n w a).2.1 om_ db om_ a2.1;refine ⟨cA4 d lim w a b _ _ a1 a2.2 (fun _=>b1),?_⟩;split
    ·exact b2
    ·exact a2
   ·rw [bl7]
    obtain ⟨b1,b2⟩:=bj5 hl n b (dT lim n w a).2.1 om_ db om_ a2.1;have:=cF9 d lim w a b (dT lim n w a) (dT lim n (dT lim n w a).2.1 b) a1 (fun _ _=>b1);refine ⟨this,?_⟩;split
    ·exact ⟨a2.1,sp_⟩
    ·exact b2
  | @bnd _ all q a gq tq oq da =>
   subst hg;rw [an2] at zf;rw [aU4] at hn;rw [bC1];obtain ⟨gt,tt,zt⟩:=br8 gq tq oq om_;obtain ⟨u1,u2⟩:=bm4 (m:=lim - w) tt gt.toW om_;have hN:=aO9 d w lim (Q5 q 0 C6) (evN (lim - w) (Q5 q 0 C6)) hw hl om_ (bG3 om_ gt tt om_);have hc:q.count 0=0:=by
    rw [gq.am2 om_ (tq.least _ om_ (by simp;omega)) om_ om_,oq];rfl
   have hB:FmG true (J0 all q a):=bn0 gq da.G;have hO:=cI4 all q gq.toW hc a (da.G (u:=true)).toW hB.toW (hB.aj7 (by rw [an2];omega));have wk:H2 (.agg (.bool all::((Q5 q 0 C6).cells++a.cells)))=.agg (.bool all::((Q5 q 0 C6).cells++a.cells)):=by
    rw [H2,C7,am9,az9,ay5,H2]
   unfold dN;cases ho:(evN (lim - w) (Q5 q 0 C6)).2.2 with
   | true =>
    rw [ho] at hN;simp only [if_true,Bool.not_true] at hN ⊢;exact ⟨⟨_,_,275,hO,wk,by kernel_rfl,bY1 d lim w all _ a hN⟩,hw,sp_⟩
   | false =>
    rw [ho] at hN;simp only [Bool.false_eq_true,if_false,Bool.not_false,bne_self_eq_false] at hN ⊢;obtain ⟨s1,s2⟩:=co5 (d:=d) (all:=all) (fun w f=>dT lim n w f) hl da om_ (fun f w df zf hd hw=>bj5 hl n f w om_ df zf hw)
     (evN (lim - w) (Q5 q 0 C6)).1 0 (w+(evN (lim - w) (Q5 q 0 C6)).2.1) om_
    exact ⟨⟨_,_,275,hO,wk,by kernel_rfl,cy5 d lim w _ _ _ all _ _ _ a (by have:=u2 ho;omega) hl hN s1⟩,s2⟩
theorem cZ0 (n:Nat) (hn:n≤65536):Pure Tryz.prog env 130 [.int .i64 n] (.bool true):=by
 intro h;have d1:decide ((n:Int)≥0)=true:=by simp
 have d2:decide ((n:Int)≤65536)=true:=by simp;omega
 have dt:decide True=true:=rfl;clear hn;exact ek_ Tryz.func130 [.tmp 2]
theorem cN5 {f:Fm} (hf:Dc [] f) (zf:z6 f≤4096):Pure Tryz.prog env 129 [.sl .any [],.agg f.cells,.bool true] (.int .i64 0):=by
 intro h;have h1:=ao9 [] sp_ sp_ f hf.ty ((hf.G (u:=true)).aj7 zf) zf (hf.G (u:=true)).toW;have h2:=ax8 f (hf.G (u:=true)).toW;have e:f.has 4=(true,0):=by
  unfold Fm.has;rw [(hf.G (u:=true)).aj7 zf,hf.fld (by simp;omega)]
  rfl
 rw [e] at h2;unfold az1 at h2;simp only [List.map_nil] at h1 h2;have n0:((0:Int) != 0)=false:=rfl;clear hf zf e;exact ek_ Tryz.func129 [.tmp 6]
def ag3 (a:Ans):V:=if a.2.2 != 0 then .tup [.bool false,.int .i64 0,.int .i64 a.2.2] else .tup [.bool a.1,.int .i64 a.2.1,.int .i64 0]
theorem bH1 {f:Fm} (hf:Dc [] f) (zf:z6 f≤4096) (lim:Nat) (hl:lim≤65536):Pure Tryz.prog env 76 [.agg f.cells,.int .i64 lim] (ag3 (dT lim (fdp f) 0 f)):=by
 intro h;have h1:=cZ0 lim hl;have h2:=cN5 hf zf;have hT:=fun d=>(bj5 (d:=d) hl (fdp f) f 0 (Nat.le_refl _) hf zf om_).1;generalize dT lim (fdp f) 0 f=a at *;obtain ⟨b,w',e⟩:=a;simp only at hT;have n0:((0:Int) != 0)=false:=rfl;have z0:((0:Nat):Int)=0:=rfl;unfold ag3;clear hf zf hl;cases he:(e != 0) with
 | true =>
  simp only [if_true];refine en_ Tryz.func76 [.tmp 4,.tmp 5,.tmp 6] fun g0 w0 gen b7 hfr c6 m0=>?_;obtain ⟨T1,u1,k1,p1,q1,m1,t1⟩:=hT ⟨gen,4,2⟩;unfold eb at t1;rw [z0] at t1;clear hT
  repeat' (first
   |(refine ⟨?_,?_⟩;focus ((repeat' (first|refine ⟨?_,?_⟩|refine .inr ?_));all_goals kernel_rfl))
   |exact hin _|exact agf as_
   | (first|refine wp rfl ?_|refine spt rfl ?_|refine spf rfl ?_|(refine spl (fun hc=>?_) fun hc=>?_)<;>(try rw [beq_iff_eq] at hc)<;>try simp only [hc]|refine cp h1 ?_|refine cp h2 ?_|refine cp p1 ?_|refine U7 (m1) ?_|(refine ct (t1) ?_ ?_;focus ((simp only [go_sem, *]<;>rfl);done))|refine A9 b7 ?_ ?_ ?_)<;>try simp only [go_sem, *])
 | false =>
  obtain rfl:e=0:=by simpa using he
  simp only [Bool.false_eq_true,if_false];refine en_ Tryz.func76 [.tmp 4,.tmp 5,.tmp 6] fun g0 w0 gen b7 hfr c6 m0=>?_;obtain ⟨T1,u1,k1,p1,q1,m1,t1⟩:=hT ⟨gen,4,2⟩;unfold eb at t1;rw [z0] at t1;clear hT
  repeat' (first
   |(refine ⟨?_,?_⟩;focus ((repeat' (first|refine ⟨?_,?_⟩|refine .inr ?_));all_goals kernel_rfl))
   |exact hin _|exact agf as_
   | (first|refine wp rfl ?_|refine spt rfl ?_|refine spf rfl ?_|(refine spl (fun hc=>?_) fun hc=>?_)<;>(try rw [beq_iff_eq] at hc)<;>try simp only [hc]|refine cp h1 ?_|refine cp h2 ?_|refine cp p1 ?_|refine U7 (m1) ?_|(refine ct (t1) ?_ ?_;focus ((simp only [go_sem, *]<;>rfl);done))|refine A9 b7 ?_ ?_ ?_)<;>try simp only [go_sem, *])
end Go.Proofs.YteaijonkbbkkjaaGreatDoor
