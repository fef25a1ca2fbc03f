/-
 Walks: several parts in one text.
-/
import Derived.Test.YtmfhhhhnokhggaaGreatDoorKB
set_option linter.unusedSimpArgs false
set_option linter.unusedVariables false
set_option maxRecDepth 20000
set_option maxHeartbeats 4000000
namespace Go.Proofs.YtmfhhhhnokhggaaGreatDoor
open Go GoAbs Go.Proofs
variable {g:List Ty} {hs:List Fm} {a:Pf}
theorem ct5 {f:Fm} {t:Tm} {b:Pf} (c:ak7 g hs) (hf:FmS f) (ht:TmS t) (ha:Inf g hs a)
  (hb:g.length+2<=16->hs.length+1<=16->Jd (g++[r5]) f->Inf (g++[c8,r5]) ((hs.map fun x=>x.up 2 0)++[f.up 1 1]) b):aU2 141 g hs (aB8 17 f t a b):=by
 obtain ⟨P,hP⟩:∃ P,aB8 17 f t a b=P:=⟨_,rfl⟩;have p1:P.kind=17:=by rw [<- hP];rfl
 have p2:P.a7.map Tm.cells=[t.cells]:=by rw [<- hP];rfl
 have p3:P.N5.map Fm.cells=[f.cells]:=by rw [<- hP];rfl
 have p4:P.args.map Pf.cells=[a.cells,b.cells]:=by rw [<- hP];rfl
 rw [hP];clear hP;have hz:=S5;have hi:ints []=[]:=rfl;have n0:((0:Int) != 0)=false:=rfl;have n3:((3:Int) != 0)=true:=rfl;have hgl:=c.gl;have hhl:=c.hl;obtain ⟨e0,h0,j0⟩:=ba7 (g++[r5]) (fun y hy=>by rcases Q8.1 hy with hy|hy;exact c.gg y hy;simp at hy;subst hy;exact TyG.list) (by simp;omega) f hf;rw [U0] at h0;simp only [E0,B7] at h0;have hN:=s8;have hL:=B9;have hwg:=aN3 g r5;have b1:(g.length+1) * 32<=140737488355328:=by omega
 have b2:g.length+1<=140737488355328:=by omega
 have t1:(0:Int)<=(g.length:Int):=by omega
 have t2:((g.length:Int)).toNat=g.length:=aA4 _;have t3:List.take g.length (g.map Ty.cells)=g.map Ty.cells:=ak6 b_;have t4:0<=g.length:=by omega
 have t5:g.length<=g.length:=w7 _;have mn:∀ (f:Operand->V),Option.map f none=none:=fun _=>rfl;by_cases he0:e0=0
 ·subst he0
  have jf:=j0 rfl;obtain ⟨e1,h1,j1⟩:=aX6 g hs c.gg c.gl t ht 2 (by decide);by_cases he1:e1=0
  ·subst he1
   obtain ⟨hT,zt⟩:=j1 rfl;have hT:l7 TyG g t r5:=hT;have cZ:=c_N 7 [] b_ b_;simp only [B7] at cZ;have gz:TmG (tm0 7 []):=.plain (a:=0) rfl rfl rfl b_;obtain ⟨up,ep,h5,kp,jp⟩:=aS7 c ha jf (t:=tm0 7 []) (.n0 (ty:=.mk 0 []) .nil) ⟨gz,by decide⟩ (by decide);by_cases hep:ep=0
   ·subst hep
    obtain ⟨z0,sz0,r1,r2⟩:=jp rfl;have h2:=aN6 g hs c.gl c.hl 2 1 a_ a_;by_cases hl:g.length+2<=16/\hs.length+1<=16
    ·rw [B8 hl] at h2
     have c2:ak7 (g++[c8,r5]) (hs.map fun x=>x.up 2 0):=c.below (m:=[c8,r5]) hl.1 (by simp [TyG.nat,TyG.list]);have jh:Jd (g++[c8,r5]) (f.up 1 1):=by have:=jf.cQ8 (m:=[c8]) a_ b_;simpa using this
     have c3:=c2.with (f:=f.up 1 1) (by simpa using hl.2) jh
     have hb:=hb hl.1 hl.2 jf;have h3:=aR9 g [c8,r5] hs c.gl b_ c.hl (fun x hx=>(c.hy x hx).fg.toW);have e1:((([c8,r5]:List Ty).length:Nat):Int)=2:=rfl;rw [e1] at h3;simp only [E0,B7] at h3;have h4:=aZ8 (g++[c8,r5]) (hs.map fun x=>x.up 2 0) (by simpa using c.hl) (f.up 1 1);have u1:=ap2 1 f hf.g.toW 1;have u2:=ap2 2 f hf.g.toW 1;have v0:=an8 0;have v1:=an8 1;have gv:TmG (a9 0):=.var a_;have gw:TmG (a9 1):=.var a_;have cS:=c_N 8 [a9 1,a9 0] b_ (by simp [gv.toW,gw.toW]);simp only [E0,B7] at cS;have gs:TmG (tm0 8 [a9 1,a9 0]):=.plain (a:=2) rfl rfl rfl (by simp [gv,gw]);have ts:l7 TyG (g++[c8,r5]) (tm0 8 [a9 1,a9 0]) r5:=by rw [show g++[c8,r5]=g++[c8]++[r5] by simp];exact .n2 (ty:=.mk 0 []) .cons br9 aK6
     have jn:Jd (g++[c8,r5]++[r5]) (f.up 2 1):=jf.cQ8 (m:=[c8,r5]) a_ b_;obtain ⟨uq,eq,h6,kq,jq⟩:=aS7 c3 hb jn ts ⟨gs,by decide⟩ (by decide);by_cases heq:eq=0
     ·subst heq
      obtain ⟨z1,sz1,s1,s2⟩:=jq rfl;have h7:=aS0 f jf.fg.toW t ht.g.toW;have h8:=bp9 c.gl hT ht.g zt;have kt:=aa8.term hT;have h9:=al7 c.gl kt kp;have h10:=aS4 2 uq a_ (by have:=kq.len;simp at this;omega) (kq.rng (by simp;omega));have ko:aa8 g (aj3 2 uq):=aa8.out (m:=[c8,r5]) kq;have h11:=al7 c.gl (kt.union kp) ko;refine ⟨(D8 f 0 t).1,V9 (V9 (aF6 t) up) (aj3 2 uq),(D8 f 0 t).2,?_,cD9 jf c.gl hT ht.g zt,(kt.union kp).union ko,fun h=>?_⟩
      ·unfold P6 at h7
       generalize (D8 f 0 t).1=w at *;generalize (D8 f 0 t).2=ew at *;clear hz c hi j0 hf ht ha hb jf hgl hhl hT zt gz kp jp sz0 r1 r2 hl c2 jh c3 e1 gv gw gs ts jn kq jq sz1 s1 s2 kt ko;intro h;unfold ckV at h1 h2 h3 h4 h5 h6 ⊢;exact d_ Tryz.func141 [.cell 4 36,.tmp 5,.tmp 6]
      ·have:=Sq.lists c.cx (by have:=hl.1;omega) jf hT ht.g zt sz0 r1 r2 sz1 s1 s2 h
       exact ⟨this.S,fun _=>this⟩
     ·have hne:(eq != 0)=true:=by simpa using heq
      refine ⟨A0,[],eq,?_,U8,.nil,fun h=>absurd h heq⟩;rw [hz,hi];clear hz c hi j0 hf ht ha hb jf hgl hhl hT zt gz kp jp sz0 r1 r2 hl c2 jh c3 e1 gv gw gs ts jn kq jq heq;intro h;unfold ckV at h1 h2 h3 h4 h5 h6 ⊢;exact d_ Tryz.func141 [.cell 4 36,.tmp 5,.tmp 6]
    ·rw [y9 hl] at h2
     refine ⟨A0,[],3,?_,U8,.nil,fun h=>by cases h⟩;rw [hz,hi];clear hz c hi j0 hf ht ha hb jf hgl hhl hT zt gz kp jp sz0 r1 r2 hl;intro h;unfold ckV at h1 h2 h5 ⊢;exact d_ Tryz.func141 [.cell 4 36,.tmp 5,.tmp 6]
   ·have hne:(ep != 0)=true:=by simpa using hep
    refine ⟨A0,[],ep,?_,U8,.nil,fun h=>absurd h hep⟩;rw [hz,hi];clear hz c hi j0 hf ht ha hb jf hgl hhl hT zt gz kp jp hep;intro h;unfold ckV at h1 h5 ⊢;exact d_ Tryz.func141 [.cell 4 36,.tmp 5,.tmp 6]
  ·have hne:(e1 != 0)=true:=by simpa using he1
   refine ⟨A0,[],e1,?_,U8,.nil,fun h=>absurd h he1⟩;rw [hz,hi];clear hz c hi j0 hf ht ha hb jf hgl hhl j1 he1;intro h;unfold ckV at h1 ⊢;exact d_ Tryz.func141 [.cell 4 36,.tmp 5,.tmp 6]
 ·have hne:(e0 != 0)=true:=by simpa using he0
  refine ⟨A0,[],e0,?_,U8,.nil,fun h=>absurd h he0⟩;rw [hz,hi];clear hz c hi j0 hf ht ha hb he0 n0 hgl hhl;intro h;unfold ckV;exact d_ Tryz.func141 [.cell 4 36,.tmp 5,.tmp 6]
theorem di4 {f:Fm} {t:Tm} {b:Pf} (c:ak7 g hs) (hf:FmS f) (ht:TmS t) (ha:Inf g hs a)
  (hb:g.length+1<=16->hs.length+1<=16->Jd (g++[c8]) f->Inf (g++[c8]) ((hs.map fun x=>x.up 1 0)++[f]) b):aU2 140 g hs (aB8 16 f t a b):=by
 obtain ⟨P,hP⟩:∃ P,aB8 16 f t a b=P:=⟨_,rfl⟩;have p1:P.kind=16:=by rw [<- hP];rfl
 have p2:P.a7.map Tm.cells=[t.cells]:=by rw [<- hP];rfl
 have p3:P.N5.map Fm.cells=[f.cells]:=by rw [<- hP];rfl
 have p4:P.args.map Pf.cells=[a.cells,b.cells]:=by rw [<- hP];rfl
 rw [hP];clear hP;have hz:=S5;have hi:ints []=[]:=rfl;have n0:((0:Int) != 0)=false:=rfl;have n3:((3:Int) != 0)=true:=rfl;have hgl:=c.gl;have hhl:=c.hl;obtain ⟨e0,h0,j0⟩:=ba7 (g++[c8]) (fun y hy=>by rcases Q8.1 hy with hy|hy;exact c.gg y hy;simp at hy;subst hy;exact TyG.nat) (by simp;omega) f hf;rw [U0] at h0;simp only [E0,B7] at h0;have hN:=s8;have hL:=B9;have hwg:=aN3 g c8;have b1:(g.length+1) * 32<=140737488355328:=by omega
 have b2:g.length+1<=140737488355328:=by omega
 have t1:(0:Int)<=(g.length:Int):=by omega
 have t2:((g.length:Int)).toNat=g.length:=aA4 _;have t3:List.take g.length (g.map Ty.cells)=g.map Ty.cells:=ak6 b_;have t4:0<=g.length:=by omega
 have t5:g.length<=g.length:=w7 _;have mn:∀ (f:Operand->V),Option.map f none=none:=fun _=>rfl;by_cases he0:e0=0
 ·subst he0
  have jf:=j0 rfl;obtain ⟨e1,h1,j1⟩:=aX6 g hs c.gg c.gl t ht 1 (by decide);by_cases he1:e1=0
  ·subst he1
   obtain ⟨hT,zt⟩:=j1 rfl;have hT:l7 TyG g t c8:=hT;have cZ:=c_N 4 [] b_ b_;simp only [B7] at cZ;have gz:TmG (tm0 4 []):=.plain (a:=0) rfl rfl rfl b_;obtain ⟨up,ep,h5,kp,jp⟩:=aS7 c ha jf (t:=tm0 4 []) (.n0 (ty:=.mk 0 []) .zero) ⟨gz,by decide⟩ (by decide);by_cases hep:ep=0
   ·subst hep
    obtain ⟨z0,sz0,r1,r2⟩:=jp rfl;have h2:=aN6 g hs c.gl c.hl 1 1 a_ a_;by_cases hl:g.length+1<=16/\hs.length+1<=16
    ·rw [B8 hl] at h2
     have c2:ak7 (g++[c8]) (hs.map fun x=>x.up 1 0):=c.below (m:=[c8]) hl.1 (by simp [TyG.nat,TyG.list]);have jh:Jd (g++[c8]) (f):=jf;have c3:=c2.with (f:=f) (by simpa using hl.2) jh
     have hb:=hb hl.1 hl.2 jf;have h3:=aR9 g [c8] hs c.gl b_ c.hl (fun x hx=>(c.hy x hx).fg.toW);have e1:((([c8]:List Ty).length:Nat):Int)=1:=rfl;rw [e1] at h3;simp only [E0,B7] at h3;have h4:=aZ8 (g++[c8]) (hs.map fun x=>x.up 1 0) (by simpa using c.hl) (f);have u1:=ap2 1 f hf.g.toW 1;have u2:=ap2 2 f hf.g.toW 1;have v0:=an8 0;have v1:=an8 1;have gv:TmG (a9 0):=.var a_;have gw:TmG (a9 1):=.var a_;have cS:=c_N 5 [a9 0] b_ (by simp [gv.toW]);simp only [E0,B7] at cS;have gs:TmG (tm0 5 [a9 0]):=.plain (a:=1) rfl rfl rfl (by simp [gv]);have ts:l7 TyG (g++[c8]) (tm0 5 [a9 0]) c8:=.n1 (ty:=.mk 0 []) .succ aK6;have jn:Jd (g++[c8]++[c8]) (f.up 1 1):=jf.cQ8 (m:=[c8]) a_ b_;obtain ⟨uq,eq,h6,kq,jq⟩:=aS7 c3 hb jn ts ⟨gs,by decide⟩ (by decide);by_cases heq:eq=0
     ·subst heq
      obtain ⟨z1,sz1,s1,s2⟩:=jq rfl;have h7:=aS0 f jf.fg.toW t ht.g.toW;have h8:=bp9 c.gl hT ht.g zt;have kt:=aa8.term hT;have h9:=al7 c.gl kt kp;have h10:=aS4 1 uq a_ (by have:=kq.len;simp at this;omega) (kq.rng (by simp;omega));have ko:aa8 g (aj3 1 uq):=aa8.out (m:=[c8]) kq;have h11:=al7 c.gl (kt.union kp) ko;refine ⟨(D8 f 0 t).1,V9 (V9 (aF6 t) up) (aj3 1 uq),(D8 f 0 t).2,?_,cD9 jf c.gl hT ht.g zt,(kt.union kp).union ko,fun h=>?_⟩
      ·unfold P6 at h7
       generalize (D8 f 0 t).1=w at *;generalize (D8 f 0 t).2=ew at *;clear hz c hi j0 hf ht ha hb jf hgl hhl hT zt gz kp jp sz0 r1 r2 hl c2 jh c3 e1 gv gw gs ts jn kq jq sz1 s1 s2 kt ko;intro h;unfold ckV at h1 h2 h3 h4 h5 h6 ⊢;exact d_ Tryz.func140 [.cell 4 36,.tmp 5,.tmp 6]
      ·have:=Sq.ind c.cx (by have:=hl.1;omega) jf hT ht.g zt sz0 r1 r2 sz1 s1 s2 h
       exact ⟨this.S,fun _=>this⟩
     ·have hne:(eq != 0)=true:=by simpa using heq
      refine ⟨A0,[],eq,?_,U8,.nil,fun h=>absurd h heq⟩;rw [hz,hi];clear hz c hi j0 hf ht ha hb jf hgl hhl hT zt gz kp jp sz0 r1 r2 hl c2 jh c3 e1 gv gw gs ts jn kq jq heq;intro h;unfold ckV at h1 h2 h3 h4 h5 h6 ⊢;exact d_ Tryz.func140 [.cell 4 36,.tmp 5,.tmp 6]
    ·rw [y9 hl] at h2
     refine ⟨A0,[],3,?_,U8,.nil,fun h=>by cases h⟩;rw [hz,hi];clear hz c hi j0 hf ht ha hb jf hgl hhl hT zt gz kp jp sz0 r1 r2 hl;intro h;unfold ckV at h1 h2 h5 ⊢;exact d_ Tryz.func140 [.cell 4 36,.tmp 5,.tmp 6]
   ·have hne:(ep != 0)=true:=by simpa using hep
    refine ⟨A0,[],ep,?_,U8,.nil,fun h=>absurd h hep⟩;rw [hz,hi];clear hz c hi j0 hf ht ha hb jf hgl hhl hT zt gz kp jp hep;intro h;unfold ckV at h1 h5 ⊢;exact d_ Tryz.func140 [.cell 4 36,.tmp 5,.tmp 6]
  ·have hne:(e1 != 0)=true:=by simpa using he1
   refine ⟨A0,[],e1,?_,U8,.nil,fun h=>absurd h he1⟩;rw [hz,hi];clear hz c hi j0 hf ht ha hb jf hgl hhl j1 he1;intro h;unfold ckV at h1 ⊢;exact d_ Tryz.func140 [.cell 4 36,.tmp 5,.tmp 6]
 ·have hne:(e0 != 0)=true:=by simpa using he0
  refine ⟨A0,[],e0,?_,U8,.nil,fun h=>absurd h he0⟩;rw [hz,hi];clear hz c hi j0 hf ht ha hb he0 n0 hgl hhl;intro h;unfold ckV;exact d_ Tryz.func140 [.cell 4 36,.tmp 5,.tmp 6]
theorem cg7 (c:ak7 g hs) (ha:Inf g hs a):aU2 144 g hs (pfK 20 [a]):=by
 obtain ⟨P,hP⟩:∃ P,pfK 20 [a]=P:=⟨_,rfl⟩;have p1:P.kind=20:=by rw [<- hP];rfl
 have p2:P.args.map Pf.cells=[a.cells]:=by rw [<- hP];rfl
 rw [hP];clear hP;have hz:=S5;have hi:ints []=[]:=rfl;have n0:((0:Int) != 0)=false:=rfl;have n4:((4:Int) != 0)=true:=rfl;have hgl:=c.gl;have hhl:=c.hl;obtain ⟨fa,ua,ea,h1,ka,oa⟩:=ha;rcases oa with ⟨he,rfl,rfl⟩|⟨rfl,sa⟩
 ·have hne:(ea != 0)=true:=by simpa using he
  refine ⟨A0,[],ea,?_,U8,.nil,fun h=>absurd h he⟩;rw [hz,hi];clear he ka hz c hi hgl hhl n4;intro h;unfold ckV at h1 ⊢;exact d_ Tryz.func144 [.cell 4 36,.tmp 5,.tmp 6]
 cases hf:(fa.kind != 4) with
 | true =>
  refine ⟨A0,[],10,?_,U8,.nil,fun h=>by cases h⟩;rw [hz,hi];clear ka hz c hi sa hgl hhl n4;intro h;unfold ckV at h1 ⊢;exact d_ Tryz.func144 [.cell 4 36,.tmp 5,.tmp 6]
 | false =>
 obtain ⟨s,x,rfl⟩:=sa.jd.k4 (k:=4) a_ (by simpa using hf);obtain ⟨gs,jx,_⟩:=sa.jd.by8;have e1:(fmQ 4 s x).args.map Fm.cells=[x.cells]:=rfl;have e2:(fmQ 4 s x).type=s:=rfl;cases hf2:(x.kind != 5) with
 | true =>
  refine ⟨A0,[],10,?_,U8,.nil,fun h=>by cases h⟩;rw [hz,hi];clear ka hz c hi sa hgl hhl n4 gs jx e2;intro h;unfold ckV at h1 ⊢;exact d_ Tryz.func144 [.cell 4 36,.tmp 5,.tmp 6]
 | false =>
 obtain ⟨u,b,rfl⟩:=jx.k4 (k:=5) a_ (by simpa using hf2);obtain ⟨gu,jb,_⟩:=jx.by8;have e3:(fmQ 5 u b).args.map Fm.cells=[b.cells]:=rfl;have e4:(fmQ 5 u b).type=u:=rfl;have h2:=W6 s u gs.1.W gu.1.W;have wf:TyW (x9 s u):=.mk _ _ b_ (by simp [gs.1.W,gu.1.W]);have h3:=ab0 (x9 s u) wf;by_cases ht:ae5 (x9 s u)=0
 ·rw [ht] at h3
  have gt:TyG (x9 s u):=by
   have z1:=gs.2;have z2:=gu.2;have e:=TyF.err (TyF.func gs.1 gu.1) (by rw [M5];omega);rw [ht] at e;refine ⟨TyF.func gs.1 gu.1,?_⟩;by_cases h:E5 (x9 s u)<=64
   ·exact h
   ·rw [y9 h] at e;cases e
  have h4:=ap2 1 b jb.fg.toW 2;have v0:=an8 0;have v1:=an8 1;have gv:TmG (a9 0):=.var a_;have gw:TmG (a9 1):=.var a_;have cS:=c_N 3 [a9 1,a9 0] b_ (by simp [gv.toW,gw.toW]);simp only [E0,B7] at cS;have gS:TmG (tm0 3 [a9 1,a9 0]):=.plain (a:=2) rfl rfl rfl (by simp [gv,gw]);have jb1:Jd (g++[x9 s u]++[s]++[u]) (b.up 1 2):=by
   have hb:=jb.sz;have q1:=jb.ty.upl (m:=[x9 s u]) g [s,u] b_ (by simp;omega) a_ b_;obtain ⟨q2,q3⟩:=jb.fg.up (b:=1) a_ a_ (jb.least (by simp;omega)) 2;exact ⟨by simpa using q1,q2,by rw [q3];exact hb,jb.al.up _⟩
  have h5:=aS0 (b.up 1 2) jb1.fg.toW (tm0 3 [a9 1,a9 0]) gS.toW;have ts:l7 TyG (g++[x9 s u]++[s]) (tm0 3 [a9 1,a9 0]) u:=.n2 (ty:=.mk 0 []) .app br9 aK6;have w5:FmW (D8 (b.up 1 2) 0 (tm0 3 [a9 1,a9 0])).1:=by
   by_cases e:(D8 (b.up 1 2) 0 (tm0 3 [a9 1,a9 0])).2=0
   ·obtain ⟨q1,q2⟩:=jb1.put (by simp;omega) ts gS (by decide) e
    rw [q1];exact q2.fg.toW
   ·rw [bI3 e];exact cF6
  have fin:(D8 (b.up 1 2) 0 (tm0 3 [a9 1,a9 0])).2=0->FmS (fmQ 5 (x9 s u) (fmQ 4 s (D8 (b.up 1 2) 0 (tm0 3 [a9 1,a9 0])).1)) /\
    (s6 (fmQ 5 (x9 s u) (fmQ 4 s (D8 (b.up 1 2) 0 (tm0 3 [a9 1,a9 0])).1))<=4096->Sq g hs (fmQ 5 (x9 s u) (fmQ 4 s (D8 (b.up 1 2) 0 (tm0 3 [a9 1,a9 0])).1))):=fun e=>by
   obtain ⟨q1,q2⟩:=jb1.put (by simp;omega) ts gS (by decide) e;refine ⟨?_,fun hz=>Sq.choice c.cx a_ sa gt e hz⟩;rw [q1];have:=q2.sz;exact ⟨.q b_ gt (.q b_ gs q2.fg),by rw [G6,G6];omega,.q (fun e=>by cases e) (.q (fun _=>sa.jd.al.ty rfl) q2.al)⟩
  unfold P6 at h5;generalize (D8 (b.up 1 2) 0 (tm0 3 [a9 1,a9 0])).1=y at *;generalize (D8 (b.up 1 2) 0 (tm0 3 [a9 1,a9 0])).2=ey at *;have h6:=aK9 4 s y gs.1.W w5;have w6:FmW (fmQ 4 s y):=.mk _ _ _ _ gs.1.W b_ b_ b_ (by simp [w5]);have h7:=aK9 5 (x9 s u) (fmQ 4 s y) wf w6;refine ⟨fmQ 5 (x9 s u) (fmQ 4 s y),ua,ey,?_,.mk _ _ _ _ wf b_ b_ b_ (by simp [w6]),ka,fin⟩;clear ka hz c hi sa hgl hhl n4 gs jx gu jb gt gv gw gS jb1 ts w5 fin w6 wf ht;intro h;unfold ckV at h1 ⊢;exact d_ Tryz.func144 [.cell 4 36,.tmp 5,.tmp 6]
 ·have hne:(ae5 (x9 s u) != 0)=true:=by simpa using ht
  refine ⟨A0,[],4,?_,U8,.nil,fun h=>by cases h⟩;rw [hz,hi];clear ka hz c hi sa hgl hhl n4 gs jx gu jb wf ht;intro h;unfold ckV at h1 ⊢;exact d_ Tryz.func144 [.cell 4 36,.tmp 5,.tmp 6]
end Go.Proofs.YtmfhhhhnokhggaaGreatDoor
