/-
 The abstract layer: plain laws, further ones.
-/
import Derived.Test.YtmfhhhhnokhggaaGreatDoorAbsDb
import Derived.ArgAppend
import Derived.OrdersIn
import Derived.BigRegionIn
set_option linter.unusedSimpArgs false
set_option linter.unusedVariables false
set_option linter.unusedSectionVars false
namespace GoAbs
open Go
def qw (k:Int) (t:Ty) (p:Ty × Ty) (w c:Tm):Tm:=if k==4 then dK2 t p.1 w (da0 11 t p.2 c) else da0 12 p.1 t w
variable {a b:Int}
theorem dx5 (h0:0<=a) (h1:a<=1000000) (h2:0<=b) (h3:b<=1000000):bp4 a b=a * b:=by
 have:a * b<=1000000 * 1000000:=Int.mul_le_mul h1 h3 h2 a_;have:0<=a * b:=Int.mul_nonneg h0 h2;exact x7 rfl a_ a_
variable {u:Bool} {k:Int}
/- Content types. -/
/- realize. -/
theorem FmG.qk (hk:k=4\/k=5\/(u=true/\(k=6\/k=7))):k=4\/k=5\/k=6\/k=7:=by
 rcases hk with h|h|⟨_,h|h⟩<;>simp [h]
theorem bO7 (hk:k=4\/k=5\/k=6\/k=7):u9 k=1:=by rcases hk with rfl|rfl|rfl|rfl<;>rfl
variable {t:Ty}
theorem dU7 {a:Fm}:fdp (fmQ k t a)=fdp a+1:=by simp [fmQ,fdp,bQ8]
variable {d:Int}
theorem bw1 {p q:Fm} (hk:k=2\/k=3) (h0:0<=d) (h1:d<=1000000000):(o8 k p q).up b d=o8 k (p.up b d) (q.up b d):=by
 grind [o8,Fm.aL5,Fm.kind,Fm.a7,Fm.args,Fm.type,Z8,H4]
theorem bw3 {p:Fm} (hk:k=4\/k=5\/k=6\/k=7) (h0:0<=d) (h1:d<=1000000000):(fmQ k t p).up b d=fmQ k t (p.up b (d+1)):=by
 grind [fmQ,Fm.aL5,Fm.kind,Fm.a7,Fm.args,Fm.type,bO7,w8]
variable {g':List Ty} {f:Fm}
theorem R4.upl {Q:Ty->Prop} {m:List Ty} (h:R4 Q g' f):∀ g l:List Ty,g'=g++l->l.length+s6 f<=40000->g.length<=40000->m.length<=40000->R4 Q (g++m++l) (f.up (m.length:Int) (l.length:Int)):=by
 induction h with
 | @eq g' p q h1 h2 =>
  intro g l e hb hg hm;rw [D7] at hb;exact .eq (h1.upl g l e a_ a_ a_) (h2.upl g l e a_ a_ a_)
 | @two g' k p q hk _ _ ih1 ih2 =>
  grind [y8,bw1,two]
 | @q g' k s p hk _ ih =>
  intro g l e hb hg hm;subst e;rw [G6] at hb;rw [bw3 hk a_ a_];have:=ih g (l++[s]) b_ (by simp;omega) hg hm;refine .q hk ?_
  simp_all
mutual
def Fm.rv (F:Tm->Int->Tm):Fm->Int->Fm
 | .mk k t l a,b=>.mk k t (l.map fun x=>F x b) (Fm.rvL F a (evB k b))
def Fm.rvL (F:Tm->Int->Tm):List Fm->Int->List Fm
 | [],_=>[]
 | t::l,b=>t.rv F b::Fm.rvL F l b
end
theorem Fm.cE3 {F:Tm->Int->Tm}:∀ (l:List Fm) (b:Int),Fm.rvL F l b=l.map fun t=>t.rv F b
 | [],b=>by simp [Fm.rvL]
 | t::l,b=>by simp [Fm.rvL,Fm.cE3 l b]
theorem Fm.cE4 (F:Tm->Int->Tm) (f:Fm) (b:Int):f.rv F b=.mk f.kind f.type (f.a7.map fun x=>F x b) (f.args.map fun x=>x.rv F (evB f.kind b)):=by
 cases f;rw [Fm.rv,Fm.cE3];rfl
/- The context of a sequent, and the places of its hypotheses. -/
mutual
def Fm.sm (F:Tm->Int->Int):Fm->Int->Int->Int
 | .mk k _ l a,b,n=>Fm.smL F a (evB k b) (l.foldl (fun n t=>o9 n (F t b)) n)
def Fm.smL (F:Tm->Int->Int):List Fm->Int->Int->Int
 | [],_,n=>n
 | f::l,b,n=>Fm.smL F l b (f.sm F b n)
end
theorem Fm.ch4 {F:Tm->Int->Int}:∀ (l:List Fm) (b n:Int),Fm.smL F l b n=l.foldl (fun n f=>f.sm F b n) n
 | [],b,n=>by simp [Fm.smL]
 | t::l,b,n=>by simp [Fm.smL,Fm.ch4 l b]
theorem Fm.cE6 (F:Tm->Int->Int) (f:Fm) (b n:Int):f.sm F b n=f.args.foldl (fun n x=>x.sm F (evB f.kind b) n) (f.a7.foldl (fun n t=>o9 n (F t b)) n):=by
 cases f;rw [Fm.sm,Fm.ch4];rfl
variable {i:Nat}
theorem au2 {α:Type} {g:Int->α->Int} {l:List α} {x:α} (h:l[i]? = some x) (n:Int):(l.take (i+1)).foldl g n=g ((l.take i).foldl g n) x:=by
 grind [List.take_add_one]
variable {s:Tm}
theorem TmG.dh7 (hs:TmG s) (zs:a8 s<=5000) (ls:s.least 536870912=true) (ha0:0<=a) (ha:a<=100000):∀ (n:Nat) {t:Tm},TmG t->a8 t<=n->t.least 1000000000=true->∀ d:Int,0<=d->d+n<=100000 ->
  t.rb (aU6 a s) d=D6 s 0 t (a+d)
 | 0,t,h,hn,_,_,_,_=>by grind [N8]
 | n+1,t,h,hn,hl,d,h0,hd=>by
  revert hn hl
  refine h.au1 (p:=fun t=>a8 t<=n+1->t.least 1000000000=true->t.rb (aU6 a s) d=D6 s 0 t (a+d)) ?_ ?_
  ·intro i hi _ hl
   have hi2:=cF4 hl
   grind [a9,Tm.rb,D6,aU6,P9,w8,dk0]
  ·intro k ty l hk _ hg _ hn hl
   rw [a8] at hn;rw [Tm.least,A3] at hl;have hr:=I8 k;have e:o9 (a+d) (m9 k)=a+(d+m9 k):=by rw [w8 a_ a_ a_ a_];omega
   rw [Tm.rb,Tm.aK1,D6,O8,hk,e,aN2 h0 a_];simp only [B2,r6];congr 1;refine aG2 fun y hy=>?_;exact TmG.dh7 hs zs ls ha0 ha n (hg y hy) (by have:=I9 hy;omega) (Tm.G7.1 hl.2 y hy) _ a_ a_
variable {t:Tm}
theorem bA5 (hs:TmG s) (zs:a8 s<=5000) (ls:s.least 536870912=true) (ht:TmG t) (zt:a8 t<=5000) (lt:t.least 536870912=true) (ha0:0<=a) (ha:a<=50000):ac0 t a s=D6 s 0 t a:=by
 have:=TmG.dh7 hs zs ls ha0 (by omega:a<=100000) _ ht (w7 _) (Z0 a_ _ lt) 0 a_ a_;rw [Int.add_zero] at this;exact this
theorem dP0 (hs:TmG s) (zs:a8 s<=5000) (ls:s.least 536870912=true) (h:FmG u f):s6 f<=5000->f.least 536870912=true->∀ d:Int,0<=d->d+s6 f<=50000 ->
  f.rv (fun t b=>ac0 t (o9 0 b) s) d=I3 s 0 f d:=by
 induction h with
 | @eq x y hx hy =>
  intro hz hl d h0 hd;rw [D7] at hd hz;obtain ⟨l1,l2⟩:=aS8.1 hl;rw [bg9,u6,Fm.cE4];simp only [Fm.kind,Fm.a7,Fm.args,Fm.type,E0,B7];rw [be8 h0 a_,bA5 hs zs ls hx a_ l1 h0 a_,bA5 hs zs ls hy a_ l2 h0 a_]
  rfl
 | @two k p q hk _ _ h1 h2 =>
  intro hz hl d h0 hd;rw [y8] at hd hz;obtain ⟨l1,l2⟩:=aV2 hl;rw [ak1,o8,Fm.cE4];simp only [Fm.kind,Fm.a7,Fm.args,Fm.type,E0,B7];rw [bQ6 h0 a_,Z8 hk,Int.add_zero,H4 h0 a_,h1 a_ l1 d h0 a_,h2 a_ l2 d h0 a_]
  rfl
 | @q k t p hk hs' _ h1 =>
  intro hz hl d h0 hd;rw [G6] at hd hz;rw [aS9,fmQ,Fm.cE4];simp only [Fm.kind,Fm.a7,Fm.args,Fm.type,E0,B7];rw [bQ6 h0 a_,bO7 (FmG.qk hk),w8 a_ a_ a_ a_,h1 a_ (bl5 hl) _ a_ a_]
  rfl
theorem dP5 (h:FmG u f):s6 f<=5000->f.least 536870912=true->∀ (d:Int) (n:Nat),0<=d->d+s6 f<=50000->n+s6 f<=50000 ->
  f.sm (fun t b=>t.count (o9 0 b)) d (n:Int)=((n+Q1 f d:Nat):Int):=by
 induction h with
 | @eq x y hx hy =>
  intro hz hl d n h0 hd hn;rw [D7] at hd hz hn;obtain ⟨l1,l2⟩:=aS8.1 hl;have o1:=aF3 x d;have o2:=aF3 y d;rw [Fm.cE6,dc3,u6];simp only [Fm.kind,Fm.a7,Fm.args,bV7,List.foldl_nil];rw [be8 h0 a_,hx.ap4 a_ (Z0 a_ _ l1) h0 a_,hy.ap4 a_ (Z0 a_ _ l2) h0 a_,
   w8 (a:=(n:Int)) a_ a_ a_ a_,w8 a_ a_ a_ a_]
  omega
 | @two k p q hk _ _ h1 h2 =>
  intro hz hl d n h0 hd hn;rw [y8] at hd hz hn;obtain ⟨l1,l2⟩:=aV2 hl;have o1:=ay7 p d;rw [Fm.cE6,cL3 hk,o8];simp only [Fm.kind,Fm.a7,Fm.args,bV7,List.foldl_nil];rw [bQ6 h0 a_,Z8 hk,Int.add_zero,h1 a_ l1 d n h0 a_ a_,h2 a_ l2 d _ h0 a_ a_];omega
 | @q k t p hk hs' _ h1 =>
  intro hz hl d n h0 hd hn;rw [G6] at hd hz hn;rw [Fm.cE6,du1 (FmG.qk hk),fmQ];simp only [Fm.kind,Fm.a7,Fm.args,bV7,List.foldl_nil];rw [bQ6 h0 a_,bO7 (FmG.qk hk),h1 a_ (bl5 hl) _ n a_ a_ a_]
variable {gr:Tm->Int} {room:Int} {l:List Tm}
theorem aY3 {ty:Ty} (hr:(tmT k ty l).root=false) :
  (tmT k ty l).nx gr room=match Tm.nxL gr room l with|some p=>(tmT k ty p.1,true,p.2)|none=>(tmT k ty l,false,true):=by
 grind [tmT,Tm.nx]
theorem br1 (hr:t.root=true):t.nx gr room=if decide (gr t>room) then (I4,true,false) else (t.red,true,true):=by
 obtain ⟨k,i,ty,l⟩:=t;rw [Tm.nx,hr];rfl
variable {g:List Ty}
theorem dF0 {s:Ty} (h:l7 TyG g t s):g.length+a8 t<=50000->(t.nx gr room).2=(true,true)->l7 TyG g (t.nx gr room).1 s:=by
 have rootc:∀ {g:List Ty} {t:Tm} {s:Ty},l7 TyG g t s->g.length+a8 t<=50000->t.root=true->(t.nx gr room).2=(true,true)->l7 TyG g (t.nx gr room).1 s:=by
  intro g t s h hb hr hn;rw [br1 hr] at hn ⊢;split at hn
  ·simp at hn
  ·rename_i hc
   rw [y9 hc];exact h.red hr hb
 induction h with
 | var hi h=>intro hb hn;exact rootc (.var hi h) hb (by
   grind [a9,Tm.nx,Tm.nxL]) hn
 | @lam g a b t hG ht ih =>
  intro hb hn;have hr:(tmT 2 a [t]).root=false:=rfl;rw [aY3 hr] at hn ⊢;rw [H7] at hb;cases h1:(t.nx gr room).2.1 with
  | false=>simp [Tm.nxL,h1] at hn
  | true =>
   simp only [Tm.nxL,h1,p7] at hn ⊢;refine .lam hG (ih (by simp;omega) ?_)
   grind
 | @n0 g k ty s hN =>
  intro hb hn;cases hr:(tmT k ty []).root with
  | true=>exact rootc (.n0 hN) hb hr hn
  | false=>grind [aY3,Tm.nxL]
 | @n1 g k ty s a x hN h1 ih1 =>
  intro hb hn;cases hr:(tmT k ty [x]).root with
  | true=>exact rootc (.n1 hN h1) hb hr hn
  | false =>
   rw [aY3 hr] at hn ⊢;rw [H7] at hb;cases f1:(x.nx gr room).2.1 with
   | false=>simp [Tm.nxL,f1] at hn
   | true =>
    simp only [Tm.nxL,f1,p7] at hn ⊢;refine .n1 hN (ih1 a_ ?_)
    grind
 | @n2 g k ty s a b x y hN h1 h2 ih1 ih2 =>
  intro hb hn;cases hr:(tmT k ty [x,y]).root with
  | true=>exact rootc (.n2 hN h1 h2) hb hr hn
  | false =>
   rw [aY3 hr] at hn ⊢;rw [ah2] at hb;have ex:(x.nx gr room).2=((x.nx gr room).2.1,(x.nx gr room).2.2):=rfl;have ey:(y.nx gr room).2=((y.nx gr room).2.1,(y.nx gr room).2.2):=rfl;cases f1:(x.nx gr room).2.1 with
   | true =>
    simp only [Tm.nxL,f1,p7] at hn ⊢;exact .n2 hN (ih1 a_ (by rw [ex,f1,hn])) h2
   | false =>
    cases f2:(y.nx gr room).2.1 with
    | true =>
     simp only [Tm.nxL,f1,f2,p7,B2,r6] at hn ⊢;exact .n2 hN h1 (ih2 a_ (by rw [ey,f2,hn]))
    | false=>grind [Tm.nxL]
 | @n3 g k ty s a b c x y z hN h1 h2 h3 ih1 ih2 ih3 =>
  intro hb hn;cases hr:(tmT k ty [x,y,z]).root with
  | true=>exact rootc (.n3 hN h1 h2 h3) hb hr hn
  | false =>
   rw [aY3 hr] at hn ⊢;rw [P0] at hb;have ex:(x.nx gr room).2=((x.nx gr room).2.1,(x.nx gr room).2.2):=rfl;have ey:(y.nx gr room).2=((y.nx gr room).2.1,(y.nx gr room).2.2):=rfl;have ez:(z.nx gr room).2=((z.nx gr room).2.1,(z.nx gr room).2.2):=rfl;cases f1:(x.nx gr room).2.1 with
   | true =>
    simp only [Tm.nxL,f1,p7] at hn ⊢;exact .n3 hN (ih1 a_ (by rw [ex,f1,hn])) h2 h3
   | false =>
    cases f2:(y.nx gr room).2.1 with
    | true =>
     simp only [Tm.nxL,f1,f2,p7,B2,r6] at hn ⊢;exact .n3 hN h1 (ih2 a_ (by rw [ey,f2,hn])) h3
    | false =>
     cases f3:(z.nx gr room).2.1 with
     | true =>
      simp only [Tm.nxL,f1,f2,f3,p7,B2,r6] at hn ⊢;exact .n3 hN h1 h2 (ih3 a_ (by rw [ez,f3,hn]))
     | false=>grind [Tm.nxL]
def Tm.grow (t:Tm):Int :=
 if t.kind==3 then K5 (o9 (ta (ta t 0) 0).szW (bp4 ((ta (ta t 0) 0).times 0) (K5 (ta t 1).szW 1))) t.szW
 else if t.kind==6 then
  (if (ta t 2).kind==4 then K5 (ta t 0).szW t.szW
  else K5 (K5 (o9 (o9 (o9 2 (ta t 1).szW) (ta (ta t 2) 0).szW) t.szW) 1) t.szW)
 else if t.kind==9 then
  (if (ta t 2).kind==7 then K5 (ta t 0).szW t.szW
  else K5 (K5 (K5 (o9 (o9 (o9 (o9 3 (ta t 1).szW) (ta (ta t 2) 0).szW) (ta (ta t 2) 1).szW) t.szW) 1) (ta (ta t 2) 0).szW) t.szW)
 else if t.kind==11 then K5 (ta (ta t 0) 0).szW t.szW else K5 (ta (ta t 0) 1).szW t.szW
theorem l7.least {s:Ty} (h:l7 TyG g t s):∀ M:Int,1<=M->(g.length:Int)+a8 t<=M->t.least M=true:=by
 induction h with
 | var hi h=>grind [ai7]
 | lam hG _ ih=>grind [H7,R7]
 | n0 hN=>intro M hM hb;exact am7 a_ b_
 | n1 hN _ ih=>grind [H7,R7]
 | n2 hN _ _ ih1 ih2=>intro M hM hb;rw [ah2] at hb;exact am7 a_ (by grind)
 | n3 hN _ _ _ ih1 ih2 ih3=>grind [P0,aE4]
theorem TmG.dh8 {t:Ty} {a b c a' b' c':Tm} (hk:k=6\/k=9) (h:TmG (tmT k t [a,b,c])) (ha:TmG a') (hb:TmG b') (hc:TmG c'):TmG (tmT k t [a',b',c']):=by
 cases h<;>grind [tmT,tm0,typed,a9,V8,fold]
theorem du4 {s:Ty} (h:l7 TyG g t s) (hG:TmG t) (hr:t.root=true) (hb:g.length+a8 t<=10000):t.grow=(a8 t.red:Int) - a8 t/\TmG t.red:=by
 have hW:=hG.szW a_;have hp:=N8 t;cases h with
 | var=>grind [Tm.root,a9,Tm.kind]
 | lam=>grind [Tm.root,tmT,Tm.kind]
 | n0 hN=>cases hN<;>simp [Tm.root,tmT,Tm.kind] at hr
 | @n1 _ k ty _ a x hN h1 =>
  have gx:=hG.arg (x:=x) (by simp [tmT,Tm.args]);have zz:a8 (tmT k ty [x])=a8 x+1:=H7;cases hN with
  | succ=>grind [Tm.root,tmT,Tm.kind]
  | fst =>
   have hk:x.kind=10:=by simpa [Tm.root,tmT,Tm.kind,ta,Tm.args] using hr
   obtain ⟨ty',a',b',y,z,e,rfl,h2,h3⟩:=h1.W9 hk;have gy:=gx.arg (x:=y) (by simp [tmT,Tm.args]);have z2:a8 (tmT 10 ty' [y,z])=a8 y+a8 z+1:=ah2;have e1:(tmT 11 ty [tmT 10 ty' [y,z]]).grow=K5 y.szW (tmT 11 ty [tmT 10 ty' [y,z]]).szW:=rfl;have e2:(tmT 11 ty [tmT 10 ty' [y,z]]).red=y:=rfl;rw [e1,e2,hW,gy.szW a_,P9 a_ a_ a_ a_];exact ⟨rfl,gy⟩
  | snd =>
   have hk:x.kind=10:=by simpa [Tm.root,tmT,Tm.kind,ta,Tm.args] using hr
   obtain ⟨ty',a',b',y,z,e,rfl,h2,h3⟩:=h1.W9 hk;have gy:=gx.arg (x:=z) (by simp [tmT,Tm.args]);have z2:a8 (tmT 10 ty' [y,z])=a8 y+a8 z+1:=ah2;have e1:(tmT 12 ty [tmT 10 ty' [y,z]]).grow=K5 z.szW (tmT 12 ty [tmT 10 ty' [y,z]]).szW:=rfl;have e2:(tmT 12 ty [tmT 10 ty' [y,z]]).red=z:=rfl;rw [e1,e2,hW,gy.szW a_,P9 a_ a_ a_ a_];exact ⟨rfl,gy⟩
 | @n2 _ k ty _ a b x y hN h1 h2 =>
  have gx:=hG.arg (x:=x) (by simp [tmT,Tm.args]);have gy:=hG.arg (x:=y) (by simp [tmT,Tm.args]);have zz:a8 (tmT k ty [x,y])=a8 x+a8 y+1:=ah2;cases hN with
  | app =>
   have hk:x.kind=2:=by simpa [Tm.root,tmT,Tm.kind,ta,Tm.args] using hr
   obtain ⟨a',b',z,e,rfl,h3⟩:=h1.aw2 hk;have gz:=gx.arg (x:=z) (by simp [tmT,Tm.args]);have z2:a8 (tmT 2 a' [z])=a8 z+1:=H7;have py:=N8 y;have e1:(tmT 3 ty [tmT 2 a' [z],y]).grow=K5 (o9 z.szW (bp4 (z.times 0) (K5 y.szW 1))) (tmT 3 ty [tmT 2 a' [z],y]).szW:=rfl;have e2:(tmT 3 ty [tmT 2 a' [z],y]).red=D6 y 0 z 0:=rfl;have ly:=h2.least 536870912 a_ a_;have lz:=h3.least 536870912 a_ (by simp;omega);have ho:=aF3 z 0;have hm:F6 z 0 * (a8 y - 1)<=10000 * 10000:=bV9 a_ a_;have e3:K5 y.szW 1=((a8 y - 1:Nat):Int):=by rw [gy.szW a_,P9 a_ a_ a_ a_];omega
   have e4:bp4 (z.times 0) (K5 y.szW 1)=((F6 z 0 * (a8 y - 1):Nat):Int):=by
    rw [TmG.ax3 _ gz (w7 _) 0 a_ a_,e3];unfold bp4;exact x7 b_ a_ a_
   rw [e1,e2,e4,hW,gz.szW a_,w8 a_ a_ a_ a_,P9 a_ a_ a_ a_,
    TmG.az0 _ gz (w7 _) 0 a_ a_]
   exact ⟨b_,TmG.inn gy ly _ gz (w7 _) lz 0 a_ a_⟩
  | cons=>grind [Tm.root,tmT,Tm.kind]
  | pair=>grind [Tm.root,tmT,Tm.kind]
 | @n3 _ k ty _ a b c x y z hN h1 h2 h3 =>
  have gx:=hG.arg (x:=x) (by simp [tmT,Tm.args]);have gy:=hG.arg (x:=y) (by simp [tmT,Tm.args]);have gz:=hG.arg (x:=z) (by simp [tmT,Tm.args]);have zz:a8 (tmT k ty [x,y,z])=a8 x+(a8 y+a8 z)+1:=P0;cases hN with
  | V8 =>
   have hk:z.kind=4\/z.kind=5:=by simpa [Tm.root,tmT,Tm.kind,ta,Tm.args] using hr
   have e1:(tmT 6 s [x,y,z]).grow=if z.kind==4 then K5 x.szW (tmT 6 s [x,y,z]).szW else
    K5 (K5 (o9 (o9 (o9 2 y.szW) (ta z 0).szW) (tmT 6 s [x,y,z]).szW) 1) (tmT 6 s [x,y,z]).szW:=rfl
   have e2:(tmT 6 s [x,y,z]).red=if z.kind==4 then x else tm0 3 [tm0 3 [y,ta z 0],tmT 6 s [x,y,ta z 0]]:=rfl
   rw [e1,e2];rcases hk with hk|hk
   ·rw [hk]
    simp only [ad1,p7];rw [hW,gx.szW a_,P9 a_ a_ a_ a_];exact ⟨rfl,gx⟩
   ·have hk':(z.kind==4)=false:=by rw [hk];rfl
    obtain ⟨ty',m,rfl,hm⟩:=h3.at0 hk;have gm:=gz.arg (x:=m) (by simp [tmT,Tm.args]);have zm:a8 (tmT 5 ty' [m])=a8 m+1:=H7;have em:ta (tmT 5 ty' [m]) 0=m:=rfl;rw [hk',em];simp only [B2,r6];rw [hW,gy.szW a_,gm.szW a_];have hN:a8 (tmT 6 s [x,y,tmT 5 ty' [m]])<=10000:=by omega
    generalize hNN:a8 (tmT 6 s [x,y,tmT 5 ty' [m]])=N at *;have q1:o9 2 (a8 y:Int)=2+a8 y:=w8 a_ a_ a_ a_;have q2:o9 (2+(a8 y:Int)) (a8 m:Int)=2+a8 y+a8 m:=w8 a_ a_ a_ a_;have q3:o9 (2+(a8 y:Int)+a8 m) (N:Int)=2+a8 y+a8 m+N:=w8 a_ a_ a_ a_;have q4:K5 (2+(a8 y:Int)+a8 m+N) 1=2+a8 y+a8 m+N - 1:=P9 a_ a_ a_ a_;have q5:K5 (2+(a8 y:Int)+a8 m+N - 1) (N:Int)=2+a8 y+a8 m+N - 1 - N:=P9 a_ a_ a_ a_;rw [q1,q2,q3,q4,q5];refine ⟨?_,.t2 ar3 rfl (.t2 ar3 rfl gy gm) (TmG.dh8 (.inl rfl) hG gx gy gm)⟩
    grind [ad8,P0]
  | fold =>
   have hk:z.kind=7\/z.kind=8:=by simpa [Tm.root,tmT,Tm.kind,ta,Tm.args] using hr
   have e1:(tmT 9 s [x,y,z]).grow=if z.kind==7 then K5 x.szW (tmT 9 s [x,y,z]).szW else
    K5 (K5 (K5 (o9 (o9 (o9 (o9 3 y.szW) (ta z 0).szW) (ta z 1).szW) (tmT 9 s [x,y,z]).szW) 1) (ta z 0).szW) (tmT 9 s [x,y,z]).szW:=rfl
   have e2:(tmT 9 s [x,y,z]).red=if z.kind==7 then x else tm0 3 [tm0 3 [tm0 3 [y,ta z 0],ta z 1],tmT 9 s [x,y,ta z 1]]:=rfl
   rw [e1,e2];rcases hk with hk|hk
   ·rw [hk]
    simp only [ad1,p7];rw [hW,gx.szW a_,P9 a_ a_ a_ a_];exact ⟨rfl,gx⟩
   ·have hk':(z.kind==7)=false:=by rw [hk];rfl
    obtain ⟨ty',m,n,rfl,hm,hn⟩:=h3.as9 hk;have gm:=gz.arg (x:=m) (by simp [tmT,Tm.args]);have gn:=gz.arg (x:=n) (by simp [tmT,Tm.args]);have zm:a8 (tmT 8 ty' [m,n])=a8 m+a8 n+1:=ah2;have em:ta (tmT 8 ty' [m,n]) 0=m:=rfl;have en:ta (tmT 8 ty' [m,n]) 1=n:=rfl;rw [hk',em,en];simp only [B2,r6];rw [hW,gy.szW a_,gm.szW a_,gn.szW a_];have hN:a8 (tmT 9 s [x,y,tmT 8 ty' [m,n]])<=10000:=by omega
    generalize hNN:a8 (tmT 9 s [x,y,tmT 8 ty' [m,n]])=N at *;have q1:o9 3 (a8 y:Int)=3+a8 y:=w8 a_ a_ a_ a_;have q2:o9 (3+(a8 y:Int)) (a8 m:Int)=3+a8 y+a8 m:=w8 a_ a_ a_ a_;have q2':o9 (3+(a8 y:Int)+a8 m) (a8 n:Int)=3+a8 y+a8 m+a8 n:=w8 a_ a_ a_ a_;have q3:o9 (3+(a8 y:Int)+a8 m+a8 n) (N:Int)=3+a8 y+a8 m+a8 n+N:=w8 a_ a_ a_ a_;have q4:K5 (3+(a8 y:Int)+a8 m+a8 n+N) 1=3+a8 y+a8 m+a8 n+N - 1:=P9 a_ a_ a_ a_;have q4':K5 (3+(a8 y:Int)+a8 m+a8 n+N - 1) (a8 m:Int)=3+a8 y+a8 m+a8 n+N - 1 - a8 m:=P9 a_ a_ a_ a_;have q5:K5 (3+(a8 y:Int)+a8 m+a8 n+N - 1 - a8 m) (N:Int)=3+a8 y+a8 m+a8 n+N - 1 - a8 m - N:=P9 a_ a_ a_ a_;rw [q1,q2,q2',q3,q4,q4',q5];refine ⟨?_,.t2 ar3 rfl (.t2 ar3 rfl (.t2 ar3 rfl gy gm) gn) (TmG.dh8 (.inr rfl) hG gx gy gn)⟩
    grind [ad8,P0]
theorem TmG.toW (h:TmG t):TmW t:=by
 induction h with
 | @plain k l a ha hl ht _ ih =>
  refine bn9 ?_ ih;have:a<=3:=by
   unfold arity at ha;split at ha
   ·cases ha
   ·have:k=1\/k=2\/k=3\/k=4\/k=5\/k=6\/k=7\/k=8\/k=9\/k=10\/k=11\/k=12\/k=13:=by omega
    rcases this with rfl|rfl|rfl|rfl|rfl|rfl|rfl|rfl|rfl|rfl|rfl|rfl|rfl<;>simp [arities] at ha<;>omega
  omega
 | var=>exact A6 _
 | @typd k t l a ha hl ht hg _ ih =>
  have:a<=3:=by
   unfold arity at ha;split at ha
   ·cases ha
   ·have:k=1\/k=2\/k=3\/k=4\/k=5\/k=6\/k=7\/k=8\/k=9\/k=10\/k=11\/k=12\/k=13:=by omega
    rcases this with rfl|rfl|rfl|rfl|rfl|rfl|rfl|rfl|rfl|rfl|rfl|rfl|rfl<;>simp [arities] at ha<;>omega
  exact .mk _ _ _ _ hg.1.W a_ ih
theorem FmG.toW (h:FmG u f):FmW f:=by
 induction h with
 | eq hx hy=>exact ap5 hx.toW hy.toW
 | two hk _ _ h1 h2=>exact .mk _ _ _ _ aC0 b_ b_ b_ (by simp [h1,h2])
 | q hk hs _ h1=>exact .mk _ _ _ _ hs.1.W b_ b_ b_ (by simp [h1])
inductive Dc:List Ty->Fm->Prop
 | eq {g:List Ty} {x y:Tm}:TmG x->TmG y->l7 TyG g x c8->l7 TyG g y c8->Dc g (u6 x y)
 | two {g:List Ty} {k:Int} {a b:Fm} (hk:k=2\/k=3):Dc g a->Dc g b->Dc g (o8 k a b)
 | bnd {g:List Ty} {all:Bool} {q:Tm} {a:Fm}:TmG q->l7 TyG (g++[c8]) q c8->F6 q 0=0->Dc (g++[c8]) a->Dc g (ac5 all q a)
theorem Dc.G (h:Dc g f):FmG u f:=by
 induction h with
 | eq h1 h2 _ _=>exact .eq h1 h2
 | two hk _ _ h1 h2=>exact .two hk h1 h2
 | bnd hq _ _ _ h1=>exact cl0 hq h1
variable {a:Fm}
theorem aX0 {all:Bool} {q:Tm}:s6 (ac5 all q a)=a8 q+s6 a+24:=by
 rw [cy4]
theorem Dc.ty (h:Dc g f):R4 TyG g f:=by
 induction h with
 | eq _ _ h1 h2=>exact .eq h1 h2
 | two hk _ _ h1 h2=>exact .two hk h1 h2
 | bnd _ hq _ _ h1=>exact do5 hq h1
theorem Dc.least (h:Dc g f):(g.length:Int)+s6 f<=100000->f.least 536870912=true:=by
 induction h with
 | eq _ _ h1 h2 =>
  intro hb;rw [D7] at hb;exact aS8.2 ⟨h1.least _ a_ a_,h2.least _ a_ a_⟩
 | two hk _ _ h1 h2 =>
  grind [y8,bv8]
 | @bnd g all q a _ hq _ _ h1 =>
  intro hb;rw [aX0] at hb;have hl:q.least 536870912=true:=hq.least _ a_ (by simp;omega);have dW8:(V5 (a9 0) q).least 536870912=true :=
   cN6 (am6 a_ (am6 a_ (bJ6 a_) (aT3 a_ (ai7 a_))) hl) (aJ6 a_)
  exact cB8 (cN7 dW8 (h1 (by simp;omega)))
theorem do4 {all:Bool} {q:Tm} (hd:0<=d) (hd2:d<=100000) :
  I3 s 0 (ac5 all q a) d=ac5 all (D6 s 0 q (d+1)) (I3 s 0 a (d+1)):=by
 have e0:o9 (d+1) (m9 3)=d+1:=H4 a_ a_;have hb:u9 (if all then 4 else 5)=1:=by cases all<;>rfl
 have hb2:u9 (if all then 3 else 2)=0:=by cases all<;>rfl
 unfold ac5 V5;rw [aS9,hb,w8 a_ a_ a_ a_,ak1,hb2,H4 a_ a_,bg9,cB3 rfl,e0,cB3 rfl];simp only [E0,B7];rw [de9 19 _ (by rw [dx1];omega) 1 (d+1) dx0 a_ a_ a_]
theorem Dc.dZ4 {a:Ty} (gs:TmG s) (ts:l7 TyG g s a) (zs:a8 s<=4096) (hg:g.length<=5000) (h:Dc g' f) :
  ∀ l:List Ty,g'=g++[a]++l->l.length+s6 f<=10000->Dc (g++l) (I3 s 0 f (l.length:Int)):=by
 have ls:s.least 536870912=true:=ts.least _ a_ a_
 induction h with
 | @eq g' x y gx gy h1 h2 =>
  intro l e hb;rw [D7] at hb;subst e;have lx:x.least 536870912=true:=h1.least _ a_ (by simp;omega);have ly:y.least 536870912=true:=h2.least _ a_ (by simp;omega);exact .eq (TmG.inn gs ls _ gx (w7 _) lx _ a_ a_) (TmG.inn gs ls _ gy (w7 _) ly _ a_ a_)
   (h1.inn g l rfl ts a_ a_) (h2.inn g l rfl ts a_ a_)
 | @two g' k x y hk _ _ ih1 ih2 =>
  grind [y8,ak1,Z8,H4,two]
 | @bnd g' all q x gq hq oq _ ih =>
  intro l e hb;rw [aX0] at hb;subst e;rw [do4 a_ a_];have lq:q.least 536870912=true:=hq.least _ a_ (by simp;omega);have e1:((l.length:Int)+1)=((l++[c8]).length:Int):=by simp
  refine .bnd ?_ ?_ ?_ ?_
  ·exact TmG.inn gs ls _ gq (w7 _) lq _ a_ a_
  ·rw [e1,aC4];exact hq.inn g (l++[c8]) b_ ts a_ a_
  ·rw [TmG.cB2 gs a_ (Z0 a_ _ ls) _ gq (w7 _) (Z0 a_ _ lq) _ 0 a_ a_ a_];exact oq
  grind
theorem Dc.inn (gs:TmG s) (ts:l7 TyG [] s c8) (zs:a8 s<=4096) (h:Dc g' f):∀ l:List Ty,g'=[c8]++l->l.length+s6 f<=10000->Dc l (I3 s 0 f (l.length:Int)) :=
 fun l e hl=>h.dZ4 (g:=[]) gs ts zs b_ l (by simpa using e) hl
def evN (m:Nat) (t:Tm):Nat × Nat × Bool:=match ev m (m+1) 0 t [] with|some (r,u,o)=>(r.num,u,o)|none=>(0,0,true)
variable {m:Nat}
theorem bQ7 (ht:l7 TyG [] t c8):∃ r u o,ev m (m+1) 0 t []=some (r,u,o)/\evN m t=(r.num,u,o)/\u<=m:=by
 obtain ⟨r,u,o,h1,_,h3,_⟩:=dK7 (Q:=TyG) (most:=m) (m+1) 0 t [] [] c8 a_ a_ ht ⟨rfl,b_⟩
 grind [evN]
theorem co0 (ht:l7 TyG [] t c8) (wt:TmW t) (hm:m<=65536):(evN m t).2.1<=m/\((evN m t).2.2=false->(evN m t).1<=m):=by
 obtain ⟨r,u,o,h1,h2,h3⟩:=bQ7 (m:=m) ht;rw [h2];refine ⟨h3,fun ho=>?_⟩;subst ho;obtain ⟨_,_,h4⟩:=dK8 (K:=0) a_ (m+1) 0 0 t [] r u false h1 a_ a_ wt b_ b_;have:=(h4 rfl).2.n1;omega
abbrev Ans:=Bool × Nat × Int
def ad0 (f:Fm) (s:Tm):Fm × Int:=if s6 f+Q1 f 0 * (a8 s - 1)<=4096 then (I3 s 0 f 0,0) else (A0,4)
def dN (lim w:Nat) (t:Tm):Nat × Nat × Int:=if (evN (lim - w) t).2.2 then (0,w,5) else ((evN (lim - w) t).1,w+(evN (lim - w) t).2.1,0)
def dW (D:Nat->Fm->Ans) (f:Fm) (k w:Nat):Ans :=
 if 4096<=k then (false,w,4) else if (ad0 f (G3 k)).2 != 0 then (false,w,(ad0 f (G3 k)).2) else D w (ad0 f (G3 k)).1
def dB (D:Nat->Fm->Ans) (lim:Nat) (all:Bool) (f:Fm):Nat->Nat->Nat->Ans
 | 0,_,w=>(all,w,0)
 | n+1,k,w=>if lim<=w then (false,w,5) else
  if (dW D f k (w+1)).2.2 != 0||(dW D f k (w+1)).1 != all then dW D f k (w+1) else dB D lim all f n (k+1) (dW D f k (w+1)).2.1
def dE (lim w:Nat) (x y:Tm):Ans :=
 if (dN lim w x).2.2 != 0 then (false,(dN lim w x).2.1,(dN lim w x).2.2)
 else if (dN lim (dN lim w x).2.1 y).2.2 != 0 then (false,(dN lim (dN lim w x).2.1 y).2.1,(dN lim (dN lim w x).2.1 y).2.2)
 else ((dN lim w x).1==(dN lim (dN lim w x).2.1 y).1,(dN lim (dN lim w x).2.1 y).2.1,0)
def dT (lim:Nat):Nat->Nat->Fm->Ans
 | 0,w,_=>(false,w,0)
 | n+1,w,f =>
  if f.kind==1 then dE lim w (f.a7.getD 0 I4) (f.a7.getD 1 I4)
  else if f.kind==2 then (if (dT lim n w (fa f 0)).1 then dT lim n (dT lim n w (fa f 0)).2.1 (fa f 1) else dT lim n w (fa f 0))
  else if f.kind==3 then
   (if (dT lim n w (fa f 0)).2.2 != 0||!(dT lim n w (fa f 0)).1 then ((dT lim n w (fa f 0)).2.2==0,(dT lim n w (fa f 0)).2.1,(dT lim n w (fa f 0)).2.2) else dT lim n (dT lim n w (fa f 0)).2.1 (fa f 1))
  else if (dN lim w (ac0 (ad9 f) 0 I4)).2.2 != 0 then (false,(dN lim w (ac0 (ad9 f) 0 I4)).2.1,(dN lim w (ac0 (ad9 f) 0 I4)).2.2)
  else dB (fun w f=>dT lim n w f) lim (f.kind==4) (aA9 f) (dN lim w (ac0 (ad9 f) 0 I4)).1 0 (dN lim w (ac0 (ad9 f) 0 I4)).2.1
variable {lim w:Nat} {y:Tm}
theorem da5 {n:Nat} {x:Tm}:dT lim (n+1) w (u6 x y)=dE lim w x y:=rfl
theorem cn7 {n:Nat} {b:Fm}:dT lim (n+1) w (o8 2 a b)=if (dT lim n w a).1 then dT lim n (dT lim n w a).2.1 b else dT lim n w a:=rfl
theorem cn9 {n:Nat} {b:Fm}:dT lim (n+1) w (o8 3 a b) =
  if (dT lim n w a).2.2 != 0||!(dT lim n w a).1 then ((dT lim n w a).2.2==0,(dT lim n w a).2.1,(dT lim n w a).2.2) else dT lim n (dT lim n w a).2.1 b:=rfl
theorem cn8 {n:Nat} {all:Bool} {q:Tm}:dT lim (n+1) w (ac5 all q a) =
  if (dN lim w (ac0 q 0 I4)).2.2 != 0 then (false,(dN lim w (ac0 q 0 I4)).2.1,(dN lim w (ac0 q 0 I4)).2.2)
  else dB (fun w f=>dT lim n w f) lim all a (dN lim w (ac0 q 0 I4)).1 0 (dN lim w (ac0 q 0 I4)).2.1:=by
 cases all<;>rfl
theorem cA3 {all:Bool} {q:Tm}:fdp (ac5 all q a)=fdp a+2:=by
 grind [bQ9,ac5,dU7,bR0,V5,dt8]
theorem cA4:∀ (f:Fm) (d:Int),fdp (I3 s 0 f d)=fdp f:=by
 intro f
 induction f using Fm.ind with|h f ih=>?_
 intro d;obtain ⟨k,t,l,a⟩:=f;rw [I3,aJ2,fdp,fdp];congr 1;have:∀ (l:List Fm) (d:Int),(∀ x∈l,∀ d,fdp (I3 s 0 x d)=fdp x)->bQ8 (l.map fun x=>I3 s 0 x d)=bQ8 l:=by
  intro l
  induction l with
  | nil=>intro d _;rfl
  | cons x l ih2=>intro d h;rw [E0,bQ8,bQ8,h x b_,ih2 d (fun y hy=>h y (by simp [hy]))]
 exact this a _ (fun x hx d=>ih x hx d)
theorem cV3 {q:Tm} (gq:TmG q) (hq:l7 TyG [c8] q c8) (oq:F6 q 0=0) (zq:a8 q<=4096):TmG (ac0 q 0 I4)/\l7 TyG [] (ac0 q 0 I4) c8/\a8 (ac0 q 0 I4)=a8 q:=by
 have g0:TmG (tm0 4 []):=.t0 ar4 rfl;have lq:q.least 536870912=true:=hq.least _ a_ (by simp;omega);have key:∀ (n:Nat) {s s' t:Tm},TmG t->a8 t<=n->∀ d:Int,0<=d->d+n<=100000->F6 t d=0->t.least 1000000000=true->t.rb (aU6 0 s) d=t.rb (aU6 0 s') d:=by
  intro n
  induction n with
  | zero=>intro s s' t _ hn;have:=N8 t;omega
  | succ n ih =>
   intro s s' t gt hn d h0 hd ho hl
   revert hn ho hl
   refine gt.au1 (p:=fun t=>a8 t<=n+1->F6 t d=0->t.least 1000000000=true->t.rb (aU6 0 s) d=t.rb (aU6 0 s') d) ?_ ?_
   ·intro i hi _ ho hl
    have hi2:=cF4 hl;rw [a9,F6] at ho;have hne:i≠d:=by intro e;subst e;simp at ho
    rw [a9,Tm.rb,Tm.rb];simp only [ad1,p7,aU6];rw [P9 a_ a_ a_ a_];have:(i - d==0)=false:=by simp;omega
    rw [this];rfl
   ·intro k ty l hk _ hg _ hn ho hl
    rw [a8] at hn;rw [Tm.least,A3] at hl;rw [F6,hk] at ho;have hr:=I8 k;rw [Tm.rb,Tm.aK1,Tm.rb,Tm.aK1,hk,aN2 h0 a_];simp only [B2,r6];congr 1;refine aG2 fun y hy=>?_;have hoy:F6 y (d+m9 k)=0:=by
     have:∀ {l:List Tm},y∈l->O9 l (d+m9 k)=0->F6 y (d+m9 k)=0:=by
      intro l
      induction l with
      | nil=>intro h;simp at h
      | cons z l ihl =>
       intro h h2;rw [O9] at h2;rcases D9.1 h with rfl|h
       ·omega
       ·exact ihl h a_
     exact this hy ho
    exact ih (hg y hy) (by have:=I9 hy;omega) _ a_ a_ hoy (Tm.G7.1 hl.2 y hy)
 have e:ac0 q 0 I4=D6 (tm0 4 []) 0 q 0:=by
  rw [<- bA5 g0 (by simp [tm0,a8,F7]) (aJ6 a_) gq a_ lq a_ a_];exact key _ gq (w7 _) 0 a_ a_ oq (Z0 a_ _ lq)
 rw [e];refine ⟨TmG.inn g0 (aJ6 a_) _ gq (w7 _) lq 0 a_ a_,?_,?_⟩
 ·have:=hq.inn [] [] rfl (l7.num 0) (by simp;omega) (by simp [G3,tm0,a8,F7])
  exact this
 grind [TmG.az0]
theorem Dc.put (h:Dc [c8] a) (za:s6 a<=4096) {k:Nat} (hk:k<4096) (hp:(ad0 a (G3 k)).2=0):Dc [] (ad0 a (G3 k)).1/\s6 (ad0 a (G3 k)).1<=4096/\fdp (ad0 a (G3 k)).1=fdp a:=by
 have zk:a8 (G3 k)=k+1:=Y2 k;unfold ad0 at hp ⊢;split at hp
 ·rename_i hle
  rw [B8 hle];refine ⟨h.inn (am8 k) (l7.num k) a_ [] rfl (by simp;omega),?_,cA4 _ _⟩;rw [(h.G (u:=true)).az0 0 a_ a_];exact hle
 ·simp at hp
theorem Dc.fld (h:Dc g f):g.length+s6 f<=50000->f.fl.d=true:=by
 induction h with
 | eq _ _ _ _=>intro _;rw [Fm.co1]
 | two hk _ _ h1 h2 =>
  grind [y8,Fm.bR1]
 | @bnd g all q a gq tq oq _ h1 =>
  intro hb;rw [aX0] at hb;rw [bO8 (by rw [gq.ap4 a_ (tq.least _ a_ (by simp;omega)) a_ a_,oq];rfl)]
  grind
def EvM (m:Nat) (E F:Evl):Prop:=∀ u t e r u',u<=m->E u t e=some (r,u',false)->u<=u'/\u'<=m/\F u t e=some (r,u',false)
section
variable {m:Nat} {E F:Evl} (hM:EvM m E F)
include hM
end
def dA (lim:Nat) (f:Fm):Ans:=dT lim (fdp f) 0 f
section
variable {f g:Fm} (hf:Dc [] f) (hg:Dc [] g) (zf:s6 f<=1000) (zg:s6 g<=1000)
include hf hg zf zg
end
def hR (lim:Nat) (f:Fm) (k:Nat):Ans:=if (ad0 f (G3 k)).2 != 0 then (false,0,(ad0 f (G3 k)).2) else dA lim (ad0 f (G3 k)).1
section
variable {all:Bool} {f:Fm} {n:Nat} (hf:Dc [c8] f) (zf:s6 f<=1000) (hn:n<=5)
include hf zf hn
end
abbrev ec5:=Nat × Bool × Nat × Int
def L4 (D:Nat->Fm->Ans) (f:Fm):Nat->Nat->Nat->ec5
 | 0,_,w=>(0,false,w,0)
 | n+1,k,w=>if (dW D f k w).2.2 != 0 then (0,false,0,(dW D f k w).2.2) else if (dW D f k w).1 then (k,true,(dW D f k w).2.1,0) else L4 D f n (k+1) (dW D f k w).2.1
inductive PVl where
 | mk (kind num:Int) (list:List Int) (args:List PVl)
def PVl.kind:PVl->Int | .mk k _ _ _=>k
def PVl.num:PVl->Int | .mk _ n _ _=>n
def PVl.list:PVl->List Int | .mk _ _ l _=>l
def PVl.args:PVl->List PVl | .mk _ _ _ a=>a
theorem PVl.ind {p:PVl->Prop} (h:∀ t,(∀ x∈t.args,p x)->p t):∀ t,p t:=by
 intro t;refine PVl.rec (motive_1:=p) (motive_2:=fun l=>∀ x∈l,p x) (fun k n l a i1=>h _ i1) b_ (fun a l ha hl x hx=>?_) t
 grind
mutual
def PVl.cells:PVl->List V
 | .mk k n l a=>[.int .i64 k,.int .i64 n,.sl .any (ints l),.sl .any (PVl.rows a)]
def PVl.rows:List PVl->List (List V)
 | []=>[]
 | r::l=>r.cells::PVl.rows l
end
theorem PVl.X9:∀ l,PVl.rows l=l.map PVl.cells
 | []=>by simp [PVl.rows]
 | t::l=>by simp [PVl.rows,PVl.X9 l]
theorem PVl.l4 (t:PVl):t.cells=[.int .i64 t.kind,.int .i64 t.num,.sl .any (ints t.list),.sl .any (t.args.map PVl.cells)]:=by
 cases t;simp [PVl.cells,PVl.X9,PVl.kind,PVl.num,PVl.list,PVl.args]
section
variable (t:PVl)
theorem PVl.w9:t.cells.length=4:=by rw [PVl.l4];rfl
theorem PVl.al8:t.cells[0]? = some (.int .i64 t.kind):=by rw [PVl.l4];rfl
theorem PVl.al9:t.cells[1]? = some (.int .i64 t.num):=by rw [PVl.l4];rfl
theorem PVl.av9:t.cells[2]? = some (.sl .any (ints t.list)):=by rw [PVl.l4];rfl
theorem PVl.aH7:t.cells[3]? = some (.sl .any (t.args.map PVl.cells)):=by rw [PVl.l4];rfl
theorem PVl.Q5:List.take 4 t.cells=t.cells:=ak6 (by grind [PVl.w9])
theorem PVl.N4:t.cells.all am9=true:=by rw [PVl.l4];rfl
end
theorem cu7 {cs:List V} {t:PVl} (h:cs.length=4):G8 cs 0 t.cells=t.cells:=P4 (by rw [h,PVl.w9])
theorem bM3:∀ t:PVl,B1 t.cells=t.cells:=by
 intro t
 induction t using PVl.ind with
 | h t i1 =>
  rw [PVl.l4];have e1:A7 (t.args.map PVl.cells)=t.args.map PVl.cells:=by
   rw [J0,aR3];exact aG2 fun x hx=>i1 x hx
  grind [B1,J5,aa6]
theorem aj6 (l:List PVl):A7 (l.map PVl.cells)=l.map PVl.cells:=by
 grind [J0,List.map_congr_left,bM3]
section
variable {S:Id->Prop}
theorem cx7:∀ t:PVl,InL S t.cells:=by
 intro t
 induction t using PVl.ind with
 | h t i1 =>
  rw [PVl.l4];have e1:S8 S (t.args.map PVl.cells):=by
   rw [R5];intro l hl;obtain ⟨x,hx,rfl⟩:=G5.1 hl;exact i1 x hx
  grind [InL,InV,ae0,aD5]
theorem cS2 (l:List PVl):S8 S (l.map PVl.cells):=by
 grind [R5,cx7]
end
theorem bX1 (l:List PVl):(l.map PVl.cells).all (fun e=>e.length==4)=true:=by simp [PVl.w9]
theorem bX3 (l:List PVl):(l.map PVl.cells).flatten.all am9=true:=by
 rw [ad2];intro v hv;obtain ⟨c,hc,hv⟩:=bj4.1 hv;obtain ⟨x,_,rfl⟩:=G5.1 hc;exact ad2.1 (PVl.N4 x) v hv
theorem PVl.r7 (k n:Int) (l:List Int) (a:List PVl):(PVl.mk k n l a).cells=[.int .i64 k,.int .i64 n,.sl .any (ints l),.sl .any (a.map PVl.cells)]:=PVl.l4 _
attribute [go_sem] cx7 cS2
attribute [go_sem] PVl.w9 PVl.al8 PVl.al9 PVl.av9 PVl.aH7 PVl.Q5 PVl.N4 cu7 bM3 aj6 bX1 bX3
def aB6:List Nat->Tm
 | []=>tm0 7 []
 | n::l=>tm0 8 [G3 n,aB6 l]
inductive ao9:Ty->PVl->Tm->Prop
 | num (n:Nat):ao9 c8 (.mk 1 n [] []) (G3 n)
 | list (l:List Nat):ao9 r5 (.mk 2 0 (l.map fun (n:Nat)=>(n:Int)) []) (aB6 l)
 | unit:ao9 O7 (.mk 4 0 [] []) (tm0 13 [])
 | pair {a b:Ty} {x y:PVl} {s t:Tm}:ao9 a x s->ao9 b y t->ao9 (B6 a b) (.mk 3 0 [] [x,y]) (tm0 10 [s,t])
theorem cC0:∀ l,TmG (aB6 l)
 | []=>.t0 (k:=7) rfl rfl
 | n::l=>.t2 (k:=8) rfl rfl (am8 n) (cC0 l)
variable {a:Ty} {v:PVl}
theorem ao9.G (h:ao9 a v t):TmG t:=by
 induction h with
 | num n=>exact am8 n
 | list l=>exact cC0 l
 | unit=>exact .t0 (k:=13) rfl rfl
 | pair _ _ h1 h2=>exact .t2 (k:=10) rfl rfl h1 h2
theorem ce2 {g:List Ty}:∀ l,l7 TyG g (aB6 l) r5
 | []=>.n0 (ty:=.mk 0 []) .nil
 | n::l=>.n2 (ty:=.mk 0 []) .cons (l7.num n) (ce2 l)
theorem ao9.ty {a:Ty} {v:PVl} {t:Tm} (h:ao9 a v t):TyG a->∀ g,l7 TyG g t a:=by
 induction h with
 | num n=>grind [l7.num]
 | list l=>grind [ce2]
 | unit=>exact fun _ g=>.n0 (ty:=.mk 0 []) .unit
 | pair _ _ h1 h2 =>
  intro ht g;obtain ⟨t1,t2⟩:=ht.bz1;exact .n2 (ty:=.mk 0 []) (.pair ht) (h1 t1 g) (h2 t2 g)
theorem Dc.dN2 (h:Dc (g++[a]) f) (gs:TmG s) (ts:l7 TyG g s a) (zs:a8 s<=4096) (hg:g.length<=5000) (zf:s6 f<=4096):Dc g (I3 s 0 f 0):=by
 have:=h.dZ4 gs ts zs hg [] b_ (by simp;omega);simpa using this
def av3:Fm->List Tm->Fm × Int
 | f,[]=>(f,0)
 | f,t::l=>if (ad0 f t).2 != 0 then (A0,(ad0 f t).2) else av3 (ad0 f t).1 l
theorem bT6 (hf:Dc (g++[a]) f) (hv:ao9 a v t) (ha:TyG a) (zt:a8 t<=4096) (hg:g.length<=5000) (zf:s6 f<=4096) (h:(ad0 f t).2=0) :
  Dc g (ad0 f t).1/\s6 (ad0 f t).1<=4096:=by
 unfold ad0 at h ⊢;split at h
 ·rename_i hle
  rw [B8 hle];refine ⟨hf.dN2 hv.G (hv.ty ha g) zt hg zf,?_⟩;rw [(hf.G (u:=true)).az0 0 a_ a_];exact hle
 ·simp at h
def lsz:List Nat->Nat
 | []=>1
 | n::l=>n+2+lsz l
theorem aE6:∀ l,a8 (aB6 l)=lsz l
 | []=>by rfl
 | n::l=>by rw [aB6,ad8,Y2,aE6 l,lsz];omega
theorem ce3:∀ {l:List Nat} {i x:Nat},l[i]? = some x->lsz (l.take (i+1))=lsz (l.take i)+x+2
 | [],i,x,h=>by simp at h
 | y::l,0,x,h=>by grind [lsz]
 | y::l,i+1,x,h=>by
  have:=ce3 (l:=l) (i:=i) (x:=x) (by simpa using h)
  grind [lsz]
theorem bm4:∀ (l:List Nat) (i:Nat),lsz (l.take i)<=lsz l
 | [],i=>by simp
 | y::l,0=>by simp [lsz];omega
 | y::l,i+1=>by have:=bm4 l i;grind [lsz]
theorem bq9:∀ l:List Nat,l.length * 2+1<=lsz l
 | []=>by simp [lsz]
 | y::l=>by have:=bq9 l;grind [lsz]
theorem cC3:∀ {l:List Nat} {x:Nat},x∈l->x+3<=lsz l
 | [],x,h=>by simp at h
 | y::l,x,h=>by
  rw [lsz];rcases D9.1 h with rfl|h
  ·grind [bq9]
  ·have:=cC3 h;omega
inductive VlW:PVl->Prop
 | mk (k n:Int) (l:List Int) (a:List PVl):l.length<=5000->a.length<=1000->(∀ x∈a,VlW x)->VlW (.mk k n l a)
theorem VlW.len (h:VlW v):v.args.length<=1000:=by cases h;assumption
theorem VlW.arg {v:PVl} (h:VlW v):∀ x∈v.args,VlW x:=by cases h;assumption
theorem ao9.W (h:ao9 a v t):a8 t<=4096->VlW v:=by
 induction h with
 | num n=>intro _;exact .mk _ _ _ _ b_ b_ b_
 | list l=>intro hb;rw [aE6] at hb;have:=bq9 l;exact .mk _ _ _ _ (by simp;omega) b_ b_
 | unit=>intro _;exact .mk _ _ _ _ b_ b_ b_
 | pair _ _ h1 h2 =>
  intro hb;rw [ad8] at hb;exact .mk _ _ _ _ b_ b_ (by grind)
theorem ao9.mem {l:List Nat} (hb:lsz l<=4096):(∀ x∈l,x<=4096)/\l.length<=4096:=⟨fun x hx=>by have:=cC3 hx;omega,by grind [bq9]⟩
def bE8 (n:Nat):PVl:=.mk 1 n [] []
def az3 (l:List Nat):PVl:=.mk 2 0 (l.map fun (n:Nat)=>(n:Int)) []
def bo0:PVl:=.mk 4 0 [] []
def cD5 (a b:PVl):PVl:=.mk 3 0 [] [a,b]
def aF7 (b:Nat):List PVl:=(List.range b).map bE8
def an3 (b:Nat):List PVl:=az3 []::((List.range b).map fun a=>az3 [a])++(List.range b).flatMap fun a=>(List.range b).map fun c=>az3 [a,c]
def aV8 (l r:List PVl):List PVl:=l.flatMap fun a=>r.map fun c=>cD5 a c
inductive PlT:Ty->Prop
 | nat:PlT c8
 | list:PlT r5
 | unit:PlT O7
 | pair {a b:Ty}:PlT a->PlT b->PlT (B6 a b)
def ac3 (b:Nat):Ty->List PVl
 | .mk 2 _=>an3 b
 | .mk 5 _=>[bo0]
 | .mk 3 [x,y]=>aV8 (ac3 b x) (ac3 b y)
 | _=>aF7 b
def rows (l:List PVl):List (List V):=l.map fun v=>[V.agg v.cells]
theorem an0 (l:List PVl):(rows l).length=l.length:=by simp [rows]
theorem aT9 {l:List PVl} (h:l[i]? = some v):(rows l)[i]? = some [V.agg v.cells]:=by simp [rows,h]
theorem cR0 (b:Nat):(aF7 b).length=b:=by simp [aF7]
theorem dl4 {b:Nat} (h:i<b):(aF7 b)[i]? = some (bE8 i):=by simp [aF7,h]
theorem ba9 {α β:Type} (f:α->List β) (n:Nat):∀ (l:List α),(∀ a∈l,(f a).length=n)->∀ (i m:Nat) (a:α) (x:β),l[i]? = some a->(f a)[m]? = some x->(l.flatMap f)[i * n+m]? = some x
 | [],_,i,m,a,x,h,_=>by simp at h
 | b::l,hl,0,m,a,x,h,hx=>by
  grind
 | b::l,hl,i+1,m,a,x,h,hx=>by
  have hb:=hl b b_;rw [List.flatMap_cons,aA1 (by grind),hb,show (i+1) * n+m - n=i * n+m by grind];exact ba9 f n l (fun a ha=>hl a (by simp [ha])) i m a x (by simpa using h) hx
theorem bg6 {α β:Type} (f:α->List β) (n:Nat):∀ (l:List α),(∀ a∈l,(f a).length=n)->(l.flatMap f).length=l.length * n
 | [],_=>by simp
 | b::l,hl=>by
  rw [List.flatMap_cons,F8,hl b b_,bg6 f n l (fun a ha=>hl a (by simp [ha])),J1,bC5];omega
theorem cR1 (l r:List PVl):(aV8 l r).length=l.length * r.length:=bg6 _ _ _ (fun a _=>by simp)
theorem dl5 {l r:List PVl} {a c:PVl} (ha:l[i]? = some a) (hc:r[m]? = some c):(aV8 l r)[i * r.length+m]? = some (cD5 a c) :=
 ba9 _ r.length l (fun a _=>by simp) i m a _ ha (by simp [hc])
theorem cQ9 (b:Nat):(an3 b).length=1+b+b * b:=by
 grind [bg6,an3]
theorem dA6 (b:Nat):(an3 b)[0]? = some (az3 []):=rfl
theorem dA7 {b:Nat} (h:i<b):(an3 b)[1+i]? = some (az3 [i]):=by
 grind [an3]
theorem dA8 {b:Nat} (hi:i<b) (hm:m<b):(an3 b)[1+b+(i * b+m)]? = some (az3 [i,m]):=by
 unfold an3;rw [aA1 (by simp;omega)];have e:1+b+(i * b+m) - (az3 []::(List.range b).map fun a=>az3 [a]).length=i * b+m:=by simp;omega
 rw [e];exact ba9 _ b _ (fun a _=>by simp) i m i _ (by simp [hi]) (by simp [hm])
def bM7 (env:Nat->Option (List V)) (C:Cons) (i:Nat) (g0:G) (w0:World) (h0:H) (e:Ending) (W':World):Prop :=
 ∃ g' h',aA7 C g0 w0 h0 g' W' h'/\Rel env g' W' h'/\((e=.returned (.bool true)/\C.Y (i+1) g' W' h')\/(e=.returned (.bool false)/\C.Z g' W' h'))
variable {P:Program} {C:Cons}
theorem bU8 {env : Nat → Option (List V)} {kf : Nat} {fn : Func} {body : Code} {as vv : List V} {vs : List (List V)} {pre : H → Prop} (hf : P.funcs[kf]? = some fn) (hb : fn.body = some body) (ai1 : (fn.name == "runtime.NumGoroutine") = false) (hC : ao6 P env C vs)
  (walk:∀ (i:Nat) (g0:G) (w0:World) (h:H) (gen:Nat),vs[i]? = some vv->pre h->(∀ id,h id≠none->id.gen<gen)->(∀ b,g0.wr b=true)->(∀ b,w0.heap.size<=b->g0.lim b=0)->C.bd<=w0.heap.size->(∀ b,C.L b->b<w0.heap.size) ->
   ARX ⟨P,env,fn.ntmps,fn,g0,w0,h,.undef,h⟩ ((yI ⟨P,env,fn.ntmps,fn,g0,w0,h,.undef,h⟩ C (bM7 env C i g0 w0 h)).at (fun g w=>C.Y i g w h)) gen [.code body] .normal ⟨aj8 as,h⟩) :
  dG9 P env C vs kf as vv pre:=by
 refine ⟨⟨fn,hf,by rw [hb];rfl,ai1⟩,fun i g1 W1 h1 xs hv hY q1 hL dv5 hxs=>?_⟩;have hbd:=hC.Ybd _ _ _ _ hY;refine (callsIn_of_wp_marks (n:=0) (R:=bM7 env C i g1.free W1 h1) hf hb trivial ?_).mono (fun e W' ⟨g',h',⟨a1,a2,a3⟩,q,r⟩=>⟨g',h',⟨a1,a2,a3⟩,q,r⟩);have hcs:RVL (g1.dn W1) W1 xs as:=hxs.mono I5;have hst:M1 env fn.ntmps (g1.dn W1) W1 { tmps:=xs++Array.replicate (fn.ntmps - xs.size) undef,defers:=[] } ⟨aj8 as,h1⟩:=by
  refine ⟨q1.dn,fun t=>?_,by simp;omega,rfl⟩;simp only [aj8];cases ha:as[t]? with
  | none=>exact .undef _
  | some v =>
   obtain ⟨c0,h1,h2⟩:=hcs.at ha;have hlt:t<xs.size:=(Z3.1 h1).1;have:(xs++Array.replicate (fn.ntmps - xs.size) undef).getD t undef=c0:=by
    simp [aL6 hlt,h1]
   rw [this];exact h2
 have:=walk i g1.free W1 h1 g1.top hv dv5 (fun id hid=>q1.top id hid) (fun _=>rfl) q1.B3 hbd hL (g1.dn W1) _ W1 (as7 I5) ⟨hC.Yext _ _ _ _ _ _ I5 hY,KO.here,w7 _⟩ (T6.of hst);refine aA0 (show body.wpIn _ _ _ _ _ _ from this) ?_;intro e a' w' hp;cases e<;>exact hp
variable {c:Ctx} {gen:Nat} {σ:St}
theorem bW1 {r:Nat} {b:Bool} {X:G->World->Prop} (n8:c.fn.results=#[.tmp r]) (hr:σ.tm r=.bool b) (hX:∀ g w,X g w->(b=true/\C.Y (i+1) g w σ.h)\/(b=false/\C.Z g w σ.h)) (hs:∀ id,¬ C.S id->c.h0 id≠none->σ.h id=c.h0 id) :
  ARX c ((yI c C (bM7 c.env C i c.g0 c.w0 c.h0)).at X) gen [] .ret σ:=by
 intro g a w hx ⟨h1,h2,h3⟩ r0;show LeavesInM Fence.wide 0 c.P c.fn a.tmps (bM7 c.env C i c.g0 c.w0 c.h0) a.defers .returning w;rw [r0.2];have hv:=r0.1.tm r;rw [hr] at hv;have hb:a.tmps.getD r undef=.bool b:=by
  have hv':RV g w (a.tmps.getD r undef) (.bool b):=hv;generalize a.tmps.getD r undef=v at hv';cases hv';rfl
 refine ⟨_,results_tmp n8 _ _ _,g,σ.h,⟨as7 hx,hs,fun b o hb ho hc=>(h2 b o hb ho hc).1⟩,r0.1.rel,?_⟩
 grind
end GoAbs
namespace GoAbs
open Go Go.RowKit
variable {P:Program} {ops:Array Oper} {o:Oper} {m:Nat}
theorem aP9 {a:Act} {w:World} {K:Act->World->Prop} {Q:Exit->Act->World->Prop} {E:Prop}
  (hg:o.guard=none) (s x:Operand) (t:TypeId) (hop:o.op=Op.call { callee:=Callee.builtin Builtin.append,args:=#[s,x],argTypes:=#[t,t] })
  (e:TypeId) (i:TypeInfo) (h1:P.underlying t=some (.slice e)) (h2:P.info? e=some i)
  (ao:Option Addr) (n cap:Nat) (hs:a.eval s=.slice ao n cap) (hle:n<=cap) (bo:Option Addr) (c:Nat) (hx:a.eval x=.slice bo 0 c)
  (hK:K (a.put o.dst (.slice ao n cap)) w) :
  if Region.wanted o (yielded ops a.tmps)=true then Oper.wpIn Fence.wide m P o a w K Q else E:=by
 have hw:Region.wanted o (yielded ops a.tmps)=true:=by simp [Region.wanted,hg]
 rw [B8 hw];have F5:(Builtin.append_ #[t,t] o.type #[.slice ao n cap,.slice bo 0 c]).run P w=.ok (.slice ao n cap) w:=by
  cases ao<;>cases bo<;>simp [Builtin.append_,Q9 h1,Go.sizeOf,typeInfo,h2,Builtin.lenOf,hle,Builtin.firstCells,loadCells,loadCellsFrom,storeCells]
 refine ⟨fun f _=>trivial,?_⟩;have:(o.semAt Fence.wide.round a.eval).run P w=.ok (.value (.slice ao n cap)) w:=by
  simp [Oper.semAt,Fence.wide,execOp,hop,resolve,invoke,builtin,hs,hx,F5,Result.andThen]
 rw [this];exact hK
theorem ch7 {a:Act} {w:World} {K:Act->World->Prop} {Q:Exit->Act->World->Prop} {E:Prop} {l:Nat}
  (hg:o.guard=none) (s x:Operand) (t:TypeId) (hop:o.op=Op.call { callee:=Callee.builtin Builtin.append,args:=#[s,x],argTypes:=#[t,t] })
  (e:TypeId) (i:TypeInfo) (z:Value) (h1:P.underlying t=some (.slice e)) (h2:P.info? e=some i) (h3:i.zero=some z)
  (b:Addr) (cap:Nat) (hs:a.eval s=.slice (some b) 0 cap)
  (ad:Addr) (m c:Nat) (news:List Value) (hx:a.eval x=.slice (some ad) m c) (hn:news.length=m * i.size) (hc:∀ j u,news[j]? = some u->w.cell? (ad.add j)=some u)
  (ej4:cap<m) (b1:m<=1000) (b2:i.bytes<=1000)
  (hK:∀ (c':Nat) (arr:Array Value),m<=c'->(∀ (j:Nat) (u:Value),news[j]? = some u->arr[j]? = some u)->K (a.put o.dst (.slice (some ⟨w.heap.size,0,none⟩) m c')) (w.drew.alloc (.cells arr e))) :
  if Region.wanted o (yielded ops a.tmps)=true then Oper.wpIn Fence.wide l P o a w K Q else E:=by
 have hw:Region.wanted o (yielded ops a.tmps)=true:=by simp [Region.wanted,hg]
 rw [B8 hw];have hmb:m * i.bytes<=140737488355328:=S1 (bV9 b1 b2) (by decide);have F5:=run_append_grow (P:=P) w t o.type e i z h1 h2 h3 b 0 cap [] b_ (fun j u h=>by simp at h) ad m c news hn hc a_ a_ (growslice_fits a_ (by simpa using hmb));refine ⟨fun f _=>trivial,?_⟩;have:(o.semAt Fence.wide.round a.eval).run P w=.ok (.value (.slice (some ⟨w.heap.size,0,none⟩) m (grownCap w m cap e))) (w.drew.alloc (.cells ((#[]:Array Value)++news.toArray++Builtin.zeroCells z.cells (grownCap w m cap e - m)) e)):=by
  simp [Oper.semAt,Fence.wide,execOp,hop,resolve,invoke,builtin,hs,hx,F5,Result.andThen]
 rw [this];refine hK _ _ (grownCap_ge w m cap e) fun j u h=>?_
 grind
theorem bd2 (w:World) (d:Nat) (t e:TypeId) (a:Option Addr) (n c n' c':Nat) (h:P.underlying t=some (.slice e)) :
  (Op.equalIn (d+1) t (.slice a n c) (.slice none n' c')).run P w=.ok a.isNone w:=by
 cases a<;>simp [Op.equalIn,Q9 h]
theorem cr6 {ρc:Operand->Value} {t e t':TypeId} {x y:Operand} (hop:o.op=.binOp .eql t x y t') (ht:P.underlying t=some (.slice e)) {a:Option Addr} {n c n' c':Nat} (hx:ρc x=.slice a n c) (hy:ρc y=.slice none n' c') (w:World) :
  (execOp ρc o).run P w=.ok (.value (.bool a.isNone)) w:=by
 simp only [execOp,hop,hx,hy,eqGuard,binOp];simp [Op.equal,Op.maxDepth,bd2 w 9999 t e a n c n' c' ht]
variable {c:Ctx} {gen:Nat} {σ:St}
theorem bD1 {k:List It} {id:Nat} (j:Nat) {x:Operand} {t e t':TypeId} {d n' c':Nat} (aE3:ops[j]? = some o) (hg:o.guard=none) (bh1:o.dst=some d)
  (hop:o.op=.binOp .eql t x (.const (.slice none n' c')) t') (ht:c.P.underlying t=some (.slice e))
  (h:O1 c.P c.env ops false gen id (ops.toList.take j) 0 [] (fun σ1=>∃ cc es,av c.env σ1.tm x=.sl cc es/\∀ b:Bool,(b=true->es=[]) ->
   O1 c.P c.env ops false gen id (ops.toList.drop (j+1)) (j+1) [] (fun σ'=>AR c gen k .normal σ') ⟨upd σ1.tm (some d) (.bool b),σ1.h⟩) σ) :
  AR c gen (.code (.region id ops false)::k) .normal σ:=by
 rw [<- bh1] at h;intro ok hm g a w hx r;simp only [T9,O2,A3] at ok;obtain ⟨⟨hd,_⟩,okk⟩:=ok;have hj:j<ops.size:=(Z3.1 aE3).1;obtain ⟨l1,σ1,h1,h2,cc,es,hA,hq⟩:=as4 (ops.toList.take j) 0 [] σ (fun i o h=>by
  grind) h
 have hl1:l1.map (·.1)=List.range j:=by
  rw [h1,ae6];rw [aZ0 (by grind)];simp
 refine wp_region ?_;have bx2:List.range ops.size=List.range j++(j::(List.range (ops.size - (j+1))).map (j+1+·)):=by
  apply List.ext_getElem?;intro i;by_cases hi:i<j
  ·rw [aA2 (by simpa using hi),bC6 a_,bC6 hi]
  ·rw [aA1 (by simpa using hi)]
   simp only [bC1];rcases Nat.eq_or_lt_of_le (bC3 hi) with e|hlt
   ·subst e;simp [hj]
   ·obtain ⟨m,rfl⟩:∃ m,i=j+1+m:=⟨i - (j+1),a_⟩
    rw [show j+1+m - j=m+1 by omega,bN2];by_cases hm:m<ops.size - (j+1)
    all_goals grind [List.getElem?_range]
 rw [bx2,<- hl1];refine bg0 hd _ l1 h2 r fun g' a' w' hx' r'=>?_;rw [wpOps_cons];unfold wpOp;rw [aE3];have hw:Region.wanted o (yielded ops a'.tmps)=true:=by unfold Region.wanted;rw [hg]
 simp only [hw,p7];have hrx:=bL2 r' x;rw [hA] at hrx;obtain ⟨ao,cap,hev,hne⟩:∃ ao cap,a'.eval x=.slice ao es.length cap/\(ao.isNone=true->es=[]):=by
  generalize a'.eval x=v at hrx;cases hrx with
  | sl ao cap _ _ kk cell hk aa3 F5 hr hc =>
   refine ⟨ao,cap,rfl,fun hn=>?_⟩
   simp_all
 have F5:=cr6 (P:=c.P) (ρc:=a'.eval) hop ht hev rfl w';refine .inl ?_;simp only [Oper.wp,F5,Oper.upon_value];have r2:=r'.put (Ext.refl g' w') (d:=o.dst) (fun t ht=>as6 hd aE3 t ht) r'.rel (RV.bool ao.isNone);obtain ⟨l3,σ3,h3,h4,h5⟩:=as4 (ops.toList.drop (j+1)) (j+1) [] _ (fun i o h=>by
  grind) (hq ao.isNone hne)
 have hl3:l3.map (·.1)=(List.range (ops.size - (j+1))).map (j+1+·):=by
  rw [h3,List.length_drop];simp
 rw [<- hl3];exact aS5 hd l3 h4 r2 fun g3 a3 w3 hx3 r3=>h5 okk hm g3 a3 w3 ((hx.trans hx').trans hx3) r3
def yO (c:Ctx):YC:=⟨Fence.wide,[],fun _ w=>c.w0.heap.size<=w.heap.size,bodyPostM Fence.wide 0 c.P c.fn c.R,fun _=>False,c.w0.heap.size⟩
theorem dl6 (c:Ctx):YOk c (yO c) :=
 ⟨fun _=>trivial,rfl,fun k args w R h=>callsIn_wide.2 h,fun h=>h,fun h=>h,fun g w g' w' x h=>S1 h x.size,
  fun g W W' B hB t hz h=>S1 h t.size,fun g w g' w' hf h x ho=>S1 h x.size,fun g w h=>h,fun _ h=>h.elim⟩
abbrev xT:G->World->Prop:=fun _ _=>True
theorem bo1 {bd:Nat}:XSt bd xT:=⟨fun _ _ _ _ _ h=>h,fun _ _ _ _ _ _ _ h=>h⟩
theorem cR7 {k:List It} {e:Exit} (h:ARX c ((yO c).at xT) gen k e σ):ARX c (xF c) gen k e σ :=
 fun g a w hx _ r=>h g a w hx ⟨trivial,hx.size⟩ r
theorem aR4 {X:G->World->Prop} {D:Nat} (hm:c.P.follows .mixedOrders=true) (hl0:∀ b,c.w0.heap.size<=b->c.g0.lim b=0) (hD:c.w0.heap.size<=D) (h:AR c gen [] .ret σ) :
  ARX c (((yO c).mk1 D).at X) gen [] .ret σ:=by
 intro g a w hx ⟨_,h1,h4,h5⟩ r;exact ag4 hm hl0 h g a w hx ⟨hD,h5,h4⟩ r
theorem aA7.trans {C:Cons} {g1 g2 g3:G} {w1 w2 w3:World} {h1 h2 h3:H} (a:aA7 C g1 w1 h1 g2 w2 h2) (b:aA7 C g2 w2 h2 g3 w3 h3):aA7 C g1 w1 h1 g3 w3 h3 :=
 ⟨ba8 a.ext bq5 b.ext,fun id q1 q2=>(b.same id q1 (by rw [a.same id q1 q2];exact q2)).trans (a.same id q1 q2),fun b0 o q1 q2 q3=>b.obj b0 o q1 (a.obj b0 o q1 q2 q3) q3⟩
def dR7 (P:Program) (gf:Nat) (g:G) (w:World) (x:Value) (n:Nat) (ac3:Nat->Value) (prot:List Value):Prop :=
 ∀ (l:Nat) (K:Nat->Option Nat->World->Prop) (Kx:World->Prop),(∀ i p W o,K i p W->K i p (W.alloc o))->(∀ i p W,K i p W->K i p W.drew) ->
  (∀ i W arr ty,K i none W->(∀ (j:Nat) u,prot[j]? = some u->arr[j]? = some u)->K i (some W.heap.size) (W.alloc (.cells arr ty))) ->
  (∀ i p W,K i p W->∀ b o,o<g.lim b->W.cell? ⟨b,o,none⟩=w.cell? ⟨b,o,none⟩) ->
  (∀ i b W,K i (some b) W->∀ (j:Nat) u,prot[j]? = some u->W.cell? ⟨b,j,none⟩=some u) ->
  (∀ i p W,i<n->K i p W->YieldAt Fence.wide (0 - 1) P l #[ac3 i] W fun e W'=>(e=.returned (.bool true)/\K (i+1) p W')\/(e=.returned (.bool false)/\Kx W')) ->
  ∀ W,K 0 none W->CallsIn Fence.wide 0 P gf #[.func (.yield l) #[] #[],x] W fun e W'=>(∃ v,e=.returned v)/\((∃ p,K n p W')\/Kx W')
theorem bl9 {env:Nat->Option (List V)} {gf:Nat} {cs:List V} {vs:List (List V)} (bb3:ac4 P gf)
  (ef2:∀ g w x,RV g w x (.el cs 0)->∃ (ac3:Nat->Value) (prot:List Value),(∀ (i:Nat) v,vs[i]? = some v->∃ v0,v=[v0]/\RV g w (ac3 i) v0)/\dR7 P gf g w x vs.length ac3 prot) :
  Iter P env (.fn (.func gf) [] [.el cs 0]) vs:=by
 intro g w x hx;cases hx with
 | fn _ fs cs1 _ _ l1 l2 _ r2 =>
 have e1:fs=#[]:=by simpa using l1
 subst e1;obtain ⟨c1,rfl⟩:∃ c1,cs1=#[c1]:=by
  have h2':cs1.size=1:=l2;refine ⟨cs1[0],?_⟩;apply Array.ext
  ·simpa using h2'
  ·intro i hi hi2;simp at hi2;subst hi2;rfl
 obtain ⟨ac3,prot,de5,hgo⟩:=ef2 g w c1 (r2 0 c1 _ rfl rfl);refine ⟨gf,#[c1],rfl,bb3,fun C hC g1 W1 h1 x1 q1 hY O4=>?_⟩;have S9:=q1.B3;refine (hgo C.l
  (fun i p W=>∃ g' h',aA7 C g1 W1 h1 g' W h'/\Rel env g' W h'/\C.Y i g' W h'/\∀ b,p=some b->prot.length<=g'.lim b/\∀ (j:Nat) u,prot[j]? = some u->W.cell? ⟨b,j,none⟩=some u)
  (fun W=>∃ g' h',aA7 C g1 W1 h1 g' W h'/\Rel env g' W h'/\C.Z g' W h') ?_ ?_ ?_ ?_ ?_ ?_ W1 ?_).mono ?_
 ·rintro i p W o ⟨g',h',a,q,y,z⟩
  have t:L8 W.heap.size W (W.alloc o):=ac1 (w7 _);have hbd:=hC.Ybd _ _ _ _ y;refine ⟨g'.up W.heap.size,h',⟨t.bE1 S9 a.ext,a.same,fun b o' q1 q2 q3=>?_⟩,t.rel q,hC.Yt _ _ _ _ _ _ hbd t q.B3 y,fun b hb=>?_⟩
  ·have:=a.obj b o' q1 q2 q3
   exact (t.same b (Z3.1 this).1).trans this
  ·obtain ⟨z1,z2⟩:=z b hb
   refine ⟨z1,fun j u hu=>?_⟩;have hc:=z2 j u hu;exact (t.cell b j (World.block_lt_of_cell? _ _ hc)).trans hc
 ·rintro i p W ⟨g',h',a,q,y,z⟩
  have x:=Ext.drew g' W;exact ⟨g',h',⟨a.ext.trans x,a.same,a.obj⟩,q.drew,hC.Yext _ _ _ _ _ _ x y,z⟩
 ·rintro i W arr ty ⟨g',h',a,q,y,z⟩ bE5
  obtain ⟨g'',x,q',hl⟩:=bc4 q arr ty;have hsz:prot.length<=arr.size:=by
   rcases bC0 prot.length with h0|h0
   ·omega
   ·have:=bE5 (prot.length - 1) _ (W4 a_)
    have:=(Z3.1 this).1;omega
  refine ⟨g'',h',⟨a.ext.trans x,a.same,fun b o q1 q2 q3=>?_⟩,q',hC.Yext _ _ _ _ _ _ x y,fun b hb=>?_⟩
  ·have:=a.obj b o q1 q2 q3
   exact (bd8 W _ b (Z3.1 this).1).trans this
  ·cases hb
   refine ⟨by rw [hl];exact hsz,fun j u hu=>?_⟩;have e:=bE5 j u hu;simp [aW2,e]
 ·rintro i p W ⟨g',h',a,q,y,z⟩ b o ho
  have h1':o<g1.lim b:=aA3 ho (x1.lim b);exact (a.ext.cells b o h1').trans (x1.cells b o ho)
 ·rintro i b W ⟨g',h',a,q,y,z⟩ j u hu
  exact (z b rfl).2 j u hu
 ·rintro i p W hi ⟨g',h',a,q,y,z⟩
  obtain ⟨v0,hv,hrv⟩:=de5 i _ (W4 hi);have hr:=hC.round i [v0] [ac3 i] g' W h' (by rw [W4 hi,hv]) y q rfl (fun j x v hx hv=>by
   match j with
   | 0=>simp at hx hv;subst hx;subst hv;exact ((hrv.mono x1).wrs _).mono a.ext
   | j+1=>simp at hx)
  obtain ⟨fn,tmps,assign,body,hy,hR⟩:=hr;refine ⟨fn,tmps,assign,body,hy,hR.mono ?_⟩;rintro e W' ⟨g'',h'',b,q',hh⟩;have hz:∀ b0,p=some b0->prot.length<=g''.lim b0/\∀ (j:Nat) u,prot[j]? = some u->W'.cell? ⟨b0,j,none⟩=some u:=fun b0 hb=>by
   obtain ⟨z1,z2⟩:=z b0 hb;refine ⟨S1 z1 (b.ext.lim b0),fun j u hu=>?_⟩;have hj:j<prot.length:=(F2.1 hu).1;exact (b.ext.cells b0 j (aA3 hj z1)).trans (z2 j u hu)
  rcases hh with ⟨he,hy'⟩|⟨he,hz'⟩
  ·exact .inl ⟨he,g'',h'',a.trans b,q',hy',hz⟩
  ·exact .inr ⟨he,g'',h'',a.trans b,q',hz'⟩
 ·exact ⟨g1,h1,⟨as7 (Ext.refl _ _),fun _ _ _=>rfl,fun _ _ _ h _=>h⟩,q1,hY,fun b hb=>by cases hb⟩
 grind
inductive ah4:List Ty->List PVl->List Tm->Prop
 | nil:ah4 [] [] []
 | snoc {g:List Ty} {l:List PVl} {ts:List Tm} {a:Ty} {v:PVl} {t:Tm}:ah4 g l ts->ao9 a v t->TyG a->a8 t<=4096->ah4 (g++[a]) (l++[v]) (ts++[t])
variable {g:List Ty}
theorem ah4.len {l:List PVl} {ts:List Tm} (h:ah4 g l ts):l.length=g.length/\ts.length=g.length:=by
 induction h<;>grind
theorem ah4.at {g:List Ty} {l:List PVl} {ts:List Tm} (h:ah4 g l ts):∀ i,i<g.length->∃ a v t,g[i]? = some a/\l[i]? = some v/\ts[i]? = some t/\ao9 a v t/\TyG a/\a8 t<=4096:=by
 induction h with
 | nil=>intro i hi;simp at hi
 | @snoc g l ts a v t hs hv ha hz ih =>
  obtain ⟨l1,l2⟩:=hs.len
  grind
def aD1 (lim:Nat) (f:Fm) (ts:List Tm):Ans:=if (av3 f ts.reverse).2 != 0 then (false,0,(av3 f ts.reverse).2) else dA lim (av3 f ts.reverse).1
variable {t:Tm}
theorem dk2 {ts:List Tm} {i:Nat} (h:ts[i]? = some t):(ts.take (i+1)).reverse=t::(ts.take i).reverse:=by
 grind [List.take_add_one]
theorem dA2 {i:Nat} {t:Ty} (h:g[i]? = some t):g.take (i+1)=g.take i++[t]:=by
 grind [List.take_add_one]
def aq4 (t:Ty):Prop:=t=c8\/t=r5\/t=O7\/t=B6 c8 r5\/t=B6 c8 c8
theorem aq4.mk {t:Ty} (h:aq4 t):N0 1 t:=by
 rcases h with rfl|rfl|rfl|rfl|rfl
 ·exact .nat
 ·exact .list
 ·exact .unit
 ·exact .pair .nat .list
 ·exact .pair .nat .nat
theorem aq4.G {t:Ty} (h:aq4 t):TyG t:=h.mk.G a_
inductive U where
 | nat|list|unit
 | pair (a b:U)
 | fn (a b:U)
deriving DecidableEq
def U.ty:U->Ty
 | .nat=>c8
 | .list=>r5
 | .unit=>O7
 | .pair a b=>B6 a.ty b.ty
 | .fn a b=>x9 a.ty b.ty
@[reducible] def U.val:U->Type
 | .nat=>Nat
 | .list=>List Nat
 | .unit=>Unit
 | .pair a b=>a.val × b.val
 | .fn a b=>a.val->b.val
def U.da7:(u:U)->u.val
 | .nat=>(0:Nat)
 | .list=>([]:List Nat)
 | .unit=>()
 | .pair a b=>(a.da7,b.da7)
 | .fn _ b=>fun _=>b.da7
abbrev DV:=Σ u:U,u.val
def aU7 {α:Type} (z:α) (s:Nat->α->α):Nat->α
 | 0=>z
 | n+1=>s n (aU7 z s n)
def cb8 {α:Type} (z:α) (s:Nat->List Nat->α->α):List Nat->α
 | []=>z
 | x::l=>s x l (cb8 z s l)
inductive Den:List DV->Tm->(u:U)->u.val->Prop
 | var {p:List DV} {i:Nat} {u:U} {d:u.val}:p[i]? = some ⟨u,d⟩->Den p (a9 i) u d
 | lam {p:List DV} {a u:U} {b:Tm} {f:a.val->u.val}:(∀ x:a.val,Den (⟨a,x⟩::p) b u (f x))->Den p (tmT 2 a.ty [b]) (.fn a u) f
 | app {p:List DV} {ty:Ty} {a b:U} {s t:Tm} {f:a.val->b.val} {x:a.val}:Den p s (.fn a b) f->Den p t a x->Den p (tmT 3 ty [s,t]) b (f x)
 | zero {p:List DV} {ty:Ty}:Den p (tmT 4 ty []) .nat (0:Nat)
 | succ {p:List DV} {ty:Ty} {t:Tm} {n:Nat}:Den p t .nat n->Den p (tmT 5 ty [t]) .nat (n+1:Nat)
 | V8 {p:List DV} {a:U} {z s t:Tm} {x:a.val} {f:Nat->a.val->a.val} {n:Nat}:Den p z a x->Den p s (.fn .nat (.fn a a)) f->Den p t .nat n ->
   Den p (tmT 6 a.ty [z,s,t]) a (aU7 x f n)
 | nil {p:List DV} {ty:Ty}:Den p (tmT 7 ty []) .list ([]:List Nat)
 | cons {p:List DV} {ty:Ty} {s t:Tm} {n:Nat} {l:List Nat}:Den p s .nat n->Den p t .list l->Den p (tmT 8 ty [s,t]) .list (n::l:List Nat)
 | fold {p:List DV} {a:U} {z s t:Tm} {x:a.val} {f:Nat->List Nat->a.val->a.val} {l:List Nat}:Den p z a x->Den p s (.fn .nat (.fn .list (.fn a a))) f->Den p t .list l ->
   Den p (tmT 9 a.ty [z,s,t]) a (cb8 x f l)
 | pair {p:List DV} {ty:Ty} {a b:U} {s t:Tm} {x:a.val} {y:b.val}:Den p s a x->Den p t b y->Den p (tmT 10 ty [s,t]) (.pair a b) (x,y)
 | fst {p:List DV} {ty:Ty} {a b:U} {t:Tm} {x:a.val × b.val}:Den p t (.pair a b) x->Den p (tmT 11 ty [t]) a x.1
 | snd {p:List DV} {ty:Ty} {a b:U} {t:Tm} {x:a.val × b.val}:Den p t (.pair a b) x->Den p (tmT 12 ty [t]) b x.2
 | unit {p:List DV} {ty:Ty}:Den p (tmT 13 ty []) .unit ()
def RD:(u:U)->Res->u.val->Prop
 | .nat,r,n=>r.num=n
 | .list,r,l=>r.list=l
 | .unit,_,_=>True
 | .pair a b,r,p=>∃ x y,r.pair=[x,y]/\RD a x p.1/\RD b y p.2
 | .fn a b,r,f=>∀ (most n u:Nat) (x:Res) (v:a.val) (r':Res) (u':Nat),RD a x v->aa0 (ev most n) u r x=some (r',u',false)->RD b r' (f v)
def dm4 (es:List Res) (p:List DV):Prop:=es.length=p.length/\∀ (i:Nat) (u:U) (d:u.val),p[i]? = some ⟨u,d⟩->∃ r,es[es.length - 1 - i]? = some r/\RD u r d
theorem dm4.snoc {es:List Res} {p:List DV} (h:dm4 es p) {u:U} {r:Res} {d:u.val} (hr:RD u r d):dm4 (es++[r]) (⟨u,d⟩::p):=by
 refine ⟨by simp [h.1],fun i w x hx=>?_⟩;cases i with
 | zero =>
  grind
 | succ i =>
  obtain ⟨r',h1,h2⟩:=h.2 i w x hx
  grind
variable {u u':Nat} {l:List Tm}
theorem K9 {E:Evl} {e:List Res} {l':List Res} (h:Y6 E e u (t::l)=some (l',u',false)) :
  ∃ r u1 l1,E u t e=some (r,u1,false)/\Y6 E e u1 l=some (l1,u',false)/\l'=r::l1:=by
 grind [Y6]
theorem af3 {E:Evl} {e:List Res} {l':List Res} (h:Y6 E e u []=some (l',u',false)):l'=[]/\u'=u:=by
 grind [Y6]
variable {k:Int}
theorem aC8 {most n:Nat} {ty:Ty} {es:List Res} {r:Res} (k1:(k==1)=false) (k2:(k==2)=false)
  (h:ev most (n+1) u (tmT k ty l) es=some (r,u',false)):∃ l' u1,Y6 (ev most n) es (u+1) l=some (l',u1,false)/\ag8 (ev most n) k u1 l'=some (r,u',false):=by
 rw [bq3] at h
 grind [ay6,tmT,Tm.kind,Tm.args]
theorem cA2 {a:U} {s:Res} {f:Nat->a.val->a.val} (hs:RD (.fn .nat (.fn a a)) s f) {most n:Nat} {z:a.val} :
  ∀ (m k u:Nat) (r r':Res) (u':Nat),RD a r (aU7 z f k)->ay5 (ev most n) s m k u r=some (r',u',false)->RD a r' (aU7 z f (k+m))
 | 0,k,u,r,r',u',hr,h=>by
  grind [ay5]
 | m+1,k,u,r,r',u',hr,h=>by
  rw [ay5] at h;split at h
  ·cases h
  ·cases h
  ·next g u1 h1 =>
   have hg:=hs _ _ _ (aM3 k) k g u1 rfl h1;split at h
   ·cases h
   ·cases h
   ·next r1 u2 h2 =>
    have h3:=hg _ _ _ r (aU7 z f k) r1 u2 hr h2;have:=cA2 hs m (k+1) u2 r1 r' u' h3 h
    grind
theorem ca6 {a:U} {s:Res} {f:Nat->List Nat->a.val->a.val} (hs:RD (.fn .nat (.fn .list (.fn a a))) s f) {most n:Nat} {z:a.val} {l:List Nat} :
  ∀ (m u:Nat) (r r':Res) (u':Nat),m<=l.length->RD a r (cb8 z f (l.drop m))->aj1 (ev most n) s l m u r=some (r',u',false)->RD a r' (cb8 z f l)
 | 0,u,r,r',u',hm,hr,h=>by
  grind [aj1]
 | m + 1,u,r,r',u',hm,hr,h=>by
  rw [aj1] at h;split at h
  ·cases h
  ·cases h
  ·next g u1 h1 =>
   have hg:=hs _ _ _ (aM3 (l.getD m 0)) (l.getD m 0) g u1 rfl h1;split at h
   ·cases h
   ·cases h
   ·next g1 u2 h2 =>
    have hg1:=hg _ _ _ (aE5 (l.drop (m+1))) (l.drop (m+1)) g1 u2 rfl h2;split at h
    ·cases h
    ·cases h
    ·next r1 u3 h3 =>
     have h4:=hg1 _ _ _ r _ r1 u3 hr h3;have hd:l.drop m=l.getD m 0::l.drop (m+1):=by
      rw [bN1 a_,bN0,W4 a_];rfl
     refine ca6 hs m u3 r1 r' u' a_ ?_ h;rw [hd];exact h4
variable {p:List DV}
theorem Den.ev {w:U} {d:w.val} (h:Den p t w d):∀ {most n u u':Nat} {es:List Res} {r:Res},dm4 es p->ev most n u t es=some (r,u',false)->RD w r d:=by
 induction h with
 | @var p i w d hi =>
  intro most n u u' es r he h;cases n with
  | zero=>simp [GoAbs.ev] at h
  | succ n =>
  rw [bq3] at h;unfold ay6 at h;split at h
  ·cases h
  ·have hk:(a9 i).kind=1:=rfl
   have hx:(a9 i).index=i:=rfl;obtain ⟨r',h1,h2⟩:=he.2 i w d hi
   simp_all
 | @lam p a w b f hb ih =>
  intro most n u u' es r he h;cases n with
  | zero=>simp [GoAbs.ev] at h
  | succ n =>
  rw [bq3] at h;unfold ay6 at h;split at h
  ·cases h
  ·obtain ⟨rfl,_⟩:=h
   intro most n u x v r' u' hx hc;exact ih v (he.snoc hx) hc
 | @app p ty a b s t f x h1 h2 i1 i2 =>
  intro most n u u' es r he h;cases n with
  | zero=>simp [GoAbs.ev] at h
  | succ n =>
  obtain ⟨l',u1,ha,ho⟩:=aC8 rfl rfl h;obtain ⟨ra,u2,l1,e1,ha2,rfl⟩:=K9 ha;obtain ⟨rb,u3,l2,e2,hb,rfl⟩:=K9 ha2;obtain ⟨rfl,rfl⟩:=af3 hb;exact i1 he e1 _ _ _ _ _ _ _ (i2 he e2) ho
 | @zero p ty =>
  intro most n u u' es r he h;cases n with
  | zero=>simp [GoAbs.ev] at h
  | succ n =>
  obtain ⟨l',u1,ha,ho⟩:=aC8 rfl rfl h;obtain ⟨rfl,_⟩:=ho
  rfl
 | @succ p ty t m h1 i1 =>
  intro most n u u' es r he h;cases n with
  | zero=>simp [GoAbs.ev] at h
  | succ n =>
  obtain ⟨l',u1,ha,ho⟩:=aC8 rfl rfl h;obtain ⟨ra,u2,l1,e1,ha2,rfl⟩:=K9 ha;obtain ⟨rfl,rfl⟩:=af3 ha2;obtain ⟨rfl,_⟩:=ho;have:=i1 he e1;rw [<- this];rfl
 | @V8 p a z s t x f m h1 h2 h3 i1 i2 i3 =>
  intro most n u u' es r he h;cases n with
  | zero=>simp [GoAbs.ev] at h
  | succ n =>
  obtain ⟨l',u1,ha,ho⟩:=aC8 rfl rfl h;obtain ⟨ra,u2,l1,e1,ha2,rfl⟩:=K9 ha;obtain ⟨rb,u3,l2,e2,hb,rfl⟩:=K9 ha2;obtain ⟨rc,u4,l3,e3,hc,rfl⟩:=K9 hb;obtain ⟨rfl,rfl⟩:=af3 hc;have e:ag8 (GoAbs.ev most n) 6 u1 [ra,rb,rc]=ay5 (GoAbs.ev most n) rb rc.num 0 u1 ra:=by simp [ag8]
  rw [e] at ho;have k3:rc.num=m:=i3 he e3;rw [k3] at ho;have:=cA2 (z:=x) (i2 he e2) m 0 _ _ _ _ (i1 he e1) ho
  grind
 | @nil p ty =>
  intro most n u u' es r he h;cases n with
  | zero=>simp [GoAbs.ev] at h
  | succ n =>
  obtain ⟨l',u1,ha,ho⟩:=aC8 rfl rfl h;obtain ⟨rfl,_⟩:=ho
  rfl
 | @cons p ty s t m l h1 h2 i1 i2 =>
  intro most n u u' es r he h;cases n with
  | zero=>simp [GoAbs.ev] at h
  | succ n =>
  obtain ⟨l',u1,ha,ho⟩:=aC8 rfl rfl h;obtain ⟨ra,u2,l1,e1,ha2,rfl⟩:=K9 ha;obtain ⟨rb,u3,l2,e2,hb,rfl⟩:=K9 ha2;obtain ⟨rfl,rfl⟩:=af3 hb;obtain ⟨rfl,_⟩:=ho;have k1:ra.num=m:=i1 he e1;have k2:rb.list=l:=i2 he e2;rw [<- k1,<- k2];rfl
 | @fold p a z s t x f l h1 h2 h3 i1 i2 i3 =>
  intro most n u u' es r he h;cases n with
  | zero=>simp [GoAbs.ev] at h
  | succ n =>
  obtain ⟨l',u1,ha,ho⟩:=aC8 rfl rfl h;obtain ⟨ra,u2,l1,e1,ha2,rfl⟩:=K9 ha;obtain ⟨rb,u3,l2,e2,hb,rfl⟩:=K9 ha2;obtain ⟨rc,u4,l3,e3,hc,rfl⟩:=K9 hb;obtain ⟨rfl,rfl⟩:=af3 hc;have e:ag8 (GoAbs.ev most n) 9 u1 [ra,rb,rc]=aj1 (GoAbs.ev most n) rb rc.list rc.list.length u1 ra:=by simp [ag8]
  rw [e] at ho;have k3:rc.list=l:=i3 he e3;rw [k3] at ho;exact ca6 (z:=x) (i2 he e2) l.length _ _ _ _ (w7 _) (by rw [y6];exact i1 he e1) ho
 | @pair p ty a b s t x y h1 h2 i1 i2 =>
  intro most n u u' es r he h;cases n with
  | zero=>simp [GoAbs.ev] at h
  | succ n =>
  obtain ⟨l',u1,ha,ho⟩:=aC8 rfl rfl h;obtain ⟨ra,u2,l1,e1,ha2,rfl⟩:=K9 ha;obtain ⟨rb,u3,l2,e2,hb,rfl⟩:=K9 ha2;obtain ⟨rfl,rfl⟩:=af3 hb;obtain ⟨rfl,_⟩:=ho;exact ⟨ra,rb,rfl,i1 he e1,i2 he e2⟩
 | @fst p ty a b t x h1 i1 =>
  intro most n u u' es r he h;cases n with
  | zero=>simp [GoAbs.ev] at h
  | succ n =>
  obtain ⟨l',u1,ha,ho⟩:=aC8 rfl rfl h;obtain ⟨ra,u2,l1,e1,ha2,rfl⟩:=K9 ha;obtain ⟨rfl,rfl⟩:=af3 ha2;obtain ⟨y,z,hp,hy,hz⟩:=i1 he e1
  grind [ag8]
 | @snd p ty a b t x h1 i1 =>
  intro most n u u' es r he h;cases n with
  | zero=>simp [GoAbs.ev] at h
  | succ n =>
  obtain ⟨l',u1,ha,ho⟩:=aC8 rfl rfl h;obtain ⟨ra,u2,l1,e1,ha2,rfl⟩:=K9 ha;obtain ⟨rfl,rfl⟩:=af3 ha2;obtain ⟨y,z,hp,hy,hz⟩:=i1 he e1
  grind [ag8]
 | unit =>
  intro most n u u' es r he h
  trivial
theorem TyF.U {t:Ty} (h:TyF t):∃ u:U,u.ty=t:=by
 induction h with
 | nat=>exact ⟨.nat,rfl⟩
 | list=>exact ⟨.list,rfl⟩
 | unit=>exact ⟨.unit,rfl⟩
 | pair _ _ h1 h2=>obtain ⟨a,rfl⟩:=h1;obtain ⟨b,rfl⟩:=h2;exact ⟨.pair a b,rfl⟩
 | func _ _ h1 h2=>obtain ⟨a,rfl⟩:=h1;obtain ⟨b,rfl⟩:=h2;exact ⟨.fn a b,rfl⟩
theorem U.inj:∀ {u v:U},u.ty=v.ty->u=v:=by
 intro u
 induction u with
 | nat=>intro v h;cases v<;>simp [U.ty,c8,r5,O7,B6,x9] at h ⊢
 | list=>intro v h;cases v<;>simp [U.ty,c8,r5,O7,B6,x9] at h ⊢
 | unit=>intro v h;cases v<;>simp [U.ty,c8,r5,O7,B6,x9] at h ⊢
 | pair a b h1 h2=>intro v h;cases v<;>simp [U.ty,c8,r5,O7,B6,x9] at h ⊢;grind
 | fn a b h1 h2=>intro v h;cases v<;>simp [U.ty,c8,r5,O7,B6,x9] at h ⊢;grind
def ao7 (p:List DV) (g:List Ty):Prop:=p.length=g.length/\∀ (i:Nat) (a:Ty),i<g.length->g[g.length - 1 - i]? = some a->∃ (u:U) (d:u.val),p[i]? = some ⟨u,d⟩/\u.ty=a
theorem ao7.nil:ao7 [] []:=⟨rfl,fun i a h=>by simp at h⟩
theorem ao7.snoc {p:List DV} {g:List Ty} (h:ao7 p g) {u:U} (x:u.val):ao7 (⟨u,x⟩::p) (g++[u.ty]):=by
 refine ⟨by simp [h.1],fun i a hi ha=>?_⟩;cases i with
 | zero =>
  simp at ha;exact ⟨u,x,rfl,ha⟩
 | succ i =>
  simp only [F8,J1,S0] at hi;have e:(g++[u.ty]).length - 1 - (i+1)=g.length - 1 - i:=by simp;omega
  rw [e,aA2 a_] at ha;exact h.2 i a a_ ha
theorem U.bB1 {w:U} {a b:Ty} (h:w.ty=x9 a b):∃ u v,w=.fn u v/\u.ty=a/\v.ty=b:=by
 cases w<;>grind [U.ty,c8,r5,O7,B6,x9]
theorem U.cF2 {w:U} {a b:Ty} (h:w.ty=B6 a b):∃ u v,w=.pair u v/\u.ty=a/\v.ty=b:=by
 cases w<;>grind [U.ty,c8,r5,O7,B6,x9]
theorem U.au9 {w:U} (h:w.ty=c8):w=.nat:=U.inj (v:=.nat) h
theorem U.br6 {w:U} (h:w.ty=r5):w=.list:=U.inj (v:=.list) h
theorem l7.den {s:Ty} (h:l7 TyG g t s):∀ {p:List DV},ao7 p g->∃ (u:U) (d:u.val),u.ty=s/\Den p t u d:=by
 induction h with
 | var hi h =>
  intro p hp;obtain ⟨u,d,h1,h2⟩:=hp.2 _ _ hi h;exact ⟨u,d,h2,.var h1⟩
 | @lam g a b t hq _ ih =>
  intro p hp;obtain ⟨w,hw⟩:=TyF.U hq.1;obtain ⟨u,v,rfl,rfl,rfl⟩:=U.bB1 hw;have:∀ x:u.val,∃ d:v.val,Den (⟨u,x⟩::p) t v d:=by
   intro x;obtain ⟨v',d,h1,h2⟩:=ih (hp.snoc x);obtain rfl:=U.inj h1;exact ⟨d,h2⟩
  exact ⟨.fn u v,fun x=>(this x).choose,rfl,.lam fun x=>(this x).choose_spec⟩
 | n0 hN =>
  intro p hp;cases hN with
  | zero=>exact ⟨.nat,_,rfl,.zero⟩
  | nil=>exact ⟨.list,_,rfl,.nil⟩
  | unit=>exact ⟨.unit,_,rfl,.unit⟩
 | n1 hN _ i1 =>
  intro p hp;obtain ⟨u,d,h1,h2⟩:=i1 hp;cases hN with
  | succ=>obtain rfl:=U.au9 h1;exact ⟨.nat,_,rfl,.succ h2⟩
  | fst=>obtain ⟨a,b,rfl,rfl,rfl⟩:=U.cF2 h1;exact ⟨a,_,rfl,.fst h2⟩
  | snd=>obtain ⟨a,b,rfl,rfl,rfl⟩:=U.cF2 h1;exact ⟨b,_,rfl,.snd h2⟩
 | n2 hN _ _ i1 i2 =>
  intro p hp;obtain ⟨u,d,h1,h2⟩:=i1 hp;obtain ⟨v,e,h3,h4⟩:=i2 hp;cases hN with
  | app =>
   obtain ⟨a,b,rfl,rfl,rfl⟩:=U.bB1 h1;obtain rfl:=U.inj h3;exact ⟨b,_,rfl,.app h2 h4⟩
  | cons=>obtain rfl:=U.au9 h1;obtain rfl:=U.br6 h3;exact ⟨.list,_,rfl,.cons h2 h4⟩
  | pair=>subst h1;subst h3;exact ⟨.pair u v,_,rfl,.pair h2 h4⟩
 | n3 hN _ _ _ i1 i2 i3 =>
  intro p hp;obtain ⟨u,d,h1,h2⟩:=i1 hp;obtain ⟨v,e,h3,h4⟩:=i2 hp;obtain ⟨w,f,h5,h6⟩:=i3 hp;cases hN with
  | V8 =>
   subst h1;obtain ⟨a,b,rfl,h7,h8⟩:=U.bB1 h3;obtain ⟨b1,b2,rfl,h9,h10⟩:=U.bB1 h8;obtain rfl:=U.au9 h7;obtain rfl:=U.inj h9;obtain rfl:=U.inj h10;obtain rfl:=U.au9 h5;exact ⟨_,_,rfl,.V8 h2 h4 h6⟩
  | fold =>
   subst h1;obtain ⟨a,b,rfl,h7,h8⟩:=U.bB1 h3;obtain ⟨b1,b2,rfl,h9,h10⟩:=U.bB1 h8;obtain ⟨c1,c2,rfl,h11,h12⟩:=U.bB1 h10;obtain rfl:=U.au9 h7;obtain rfl:=U.br6 h9;obtain rfl:=U.inj h11;obtain rfl:=U.inj h12;obtain rfl:=U.br6 h5;exact ⟨_,_,rfl,.fold h2 h4 h6⟩
inductive S7:List DV->Fm->Prop->Prop
 | eq {p:List DV} {x y:Tm} {m n:Nat}:Den p x .nat m->Den p y .nat n->S7 p (u6 x y) (m=n)
 | and {p:List DV} {a b:Fm} {P Q:Prop}:S7 p a P->S7 p b Q->S7 p (o8 2 a b) (P/\Q)
 | imp {p:List DV} {a b:Fm} {P Q:Prop}:S7 p a P->S7 p b Q->S7 p (o8 3 a b) (P->Q)
 | all {p:List DV} {k:Int} {u:U} {a:Fm} {P:u.val->Prop} (hk:k=4\/k=6):(∀ x,S7 (⟨u,x⟩::p) a (P x))->S7 p (fmQ k u.ty a) (∀ x,P x)
 | ex {p:List DV} {k:Int} {u:U} {a:Fm} {P:u.val->Prop} (hk:k=5\/k=7):(∀ x,S7 (⟨u,x⟩::p) a (P x))->S7 p (fmQ k u.ty a) (∃ x,P x)
theorem S7.eq_inv {x y:Tm} {P:Prop} (h:S7 p (u6 x y) P):∃ m n:Nat,Den p x .nat m/\Den p y .nat n/\P=(m=n):=by
 generalize hf:u6 x y=f at h;cases h<;>grind [u6,o8,fmQ]
theorem S7.aw8 {a b:Fm} {R:Prop} (h:S7 p (o8 k a b) R):∃ P Q:Prop,S7 p a P/\S7 p b Q/\((k=2/\R=(P/\Q))\/(k=3/\R=(P->Q))):=by
 generalize hf:o8 k a b=f at h;cases h<;>grind [u6,o8,fmQ]
theorem da4 {lim w:Nat} {k:Nat} {w':Nat} (ht:l7 TyG [] t c8) (hd:Den [] t .nat m) (h:dN lim w t=(k,w',0)):k=m:=by
 unfold dN at h;split at h
 ·simp at h
 ·next ho =>
  obtain ⟨r,u,o,h1,h2,_⟩:=bQ7 (m:=lim - w) ht;rw [h2] at h ho;obtain ⟨rfl,_⟩:=h;have:o=false:=by simpa using ho
  subst this;exact hd.ev ⟨rfl,b_⟩ h1
theorem dK4 {lim w:Nat} {x y:Tm} {b:Bool} {w':Nat} {n:Nat} (hx:l7 TyG [] x c8) (hy:l7 TyG [] y c8) (dx:Den [] x .nat m) (dy:Den [] y .nat n) (h:dE lim w x y=(b,w',0)) :
  b=true↔m=n:=by
 grind [dE,da4]
theorem aw9 {ty:Ty} {b:Int} {n:Nat} (h1:(k==1)=false) (h2:m9 k=0) (hn:n<=1000000) :
  (tmT k ty l).up b (n:Int)=tmT k ty (l.map fun x=>x.up b (n:Int)):=by
 grind [tmT,Tm.up,Tm.Y4,H4]
theorem dl1 {ty:Ty} {b:Int} {n:Nat} (hn:n<=1000000):(tmT 2 ty [t]).up b (n:Int)=tmT 2 ty [t.up b ((n+1:Nat):Int)]:=by
 grind [m9,w8,tmT,Tm.up,Tm.Y4]
variable {s:Tm}
theorem as8 {ty:Ty} {n:Nat} (h1:(k==1)=false) (h2:m9 k=0) (hn:n<=1000000) :
  D6 s 0 (tmT k ty l) (n:Int)=tmT k ty (l.map fun x=>D6 s 0 x (n:Int)):=by
 grind [tmT,D6,O8,H4]
theorem dw1 {ty:Ty} {n:Nat} (hn:n<=1000000):D6 s 0 (tmT 2 ty [t]) (n:Int)=tmT 2 ty [D6 s 0 t ((n+1:Nat):Int)]:=by
 grind [m9,w8,tmT,D6,O8]
theorem ai9 {t:Ty} {a:Tm}:a8 (tmT k t [a])=a8 a+1:=H7
theorem aw7 {t:Ty} {a b:Tm}:a8 (tmT k t [a,b])=a8 a+a8 b+1:=by simp [tmT,a8,F7]
theorem Den.upl {m:List DV} {w:U} {d:w.val} (h:Den p t w d):∀ l r:List DV,p=l++r->p.length+a8 t<=100000->m.length<=100000 ->
  Den (l++m++r) (t.up (m.length:Int) (l.length:Int)) w d:=by
 induction h with
 | @var p i w d hi =>
  intro l r e hb hm;rw [a9,Tm.up,Tm.upL];have hi':=(F2.1 hi).1;simp only [ad1,J7];by_cases hc:(i:Int)>=(l.length:Int)
  ·rw [bV8 hc]
   have e:o9 (i:Int) (m.length:Int)=((i+m.length:Nat):Int):=by rw [w8 a_ a_ a_ a_];simp
   rw [e];refine Den.var (i:=i+m.length) ?_
   grind
  ·rw [decide_eq_false hc]
   refine Den.var (i:=i) ?_
   grind
 | @lam p a w b f _ ih =>
  grind [ai9,dl1,lam]
 | zero=>intro l r e hb hm;exact .zero
 | nil=>intro l r e hb hm;exact .nil
 | unit=>intro l r e hb hm;exact .unit
 | succ _ i1=>intro l r e hb hm;rw [ai9] at hb;subst e;simp only [F8] at hb;rw [aw9 rfl rfl a_];grind [succ]
 | fst _ i1=>intro l r e hb hm;rw [ai9] at hb;subst e;simp only [F8] at hb;rw [aw9 rfl rfl a_];grind [fst]
 | snd _ i1=>intro l r e hb hm;rw [ai9] at hb;subst e;simp only [F8] at hb;rw [aw9 rfl rfl a_];grind [snd]
 | app _ _ i1 i2 =>
  intro l r e hb hm;rw [aw7] at hb;subst e;simp only [F8] at hb;rw [aw9 rfl rfl a_]
  grind [app]
 | cons _ _ i1 i2 =>
  intro l r e hb hm;rw [aw7] at hb;subst e;simp only [F8] at hb;rw [aw9 rfl rfl a_]
  grind [cons]
 | pair _ _ i1 i2 =>
  intro l r e hb hm;rw [aw7] at hb;subst e;simp only [F8] at hb;rw [aw9 rfl rfl a_]
  grind [pair]
 | V8 _ _ _ i1 i2 i3 =>
  intro l r e hb hm;rw [P0] at hb;subst e;simp only [F8] at hb;rw [aw9 rfl rfl a_];exact .V8 (i1 l r rfl (by simp;omega) hm) (i2 l r rfl (by simp;omega) hm) (i3 l r rfl (by simp;omega) hm)
 | fold _ _ _ i1 i2 i3 =>
  intro l r e hb hm;rw [P0] at hb;subst e;simp only [F8] at hb;rw [aw9 rfl rfl a_];exact .fold (i1 l r rfl (by simp;omega) hm) (i2 l r rfl (by simp;omega) hm) (i3 l r rfl (by simp;omega) hm)
theorem Den.inn {a:U} {x:a.val} {w:U} {d:w.val} (h:Den p t w d):∀ l r:List DV,p=l++⟨a,x⟩::r->Den r s a x ->
  p.length+a8 t<=50000->a8 s<=50000->Den (l++r) (D6 s 0 t (l.length:Int)) w d:=by
 induction h with
 | @var p i w d hi =>
  intro l r e hs hb hz;subst e;have hi':=(F2.1 hi).1;simp only [F8,J1] at hi' hb;have e0:o9 0 (l.length:Int)=(l.length:Int):=be8 a_ a_;rw [a9,D6,e0];rcases Nat.lt_trichotomy i l.length with hc|hc|hc
  ·have c1:((i:Int)==(l.length:Int))=false:=by simp;omega
   have c2:decide ((i:Int)>(l.length:Int))=false:=by simp;omega
   rw [c1,c2];refine Den.var (i:=i) ?_
   grind
  ·subst hc
   rw [aA1 a_,Nat.sub_self] at hi;simp only [bB7,S6,Sigma.mk.injEq] at hi;obtain ⟨rfl,hi⟩:=hi;obtain rfl:=eq_of_heq hi;have:=hs.upl (m:=l) [] r b_ a_ a_;simpa using this
  ·have e3:K5 (i:Int) 1=((i - 1:Nat):Int):=by rw [P9 a_ a_ a_ a_];omega
   grind [Den.var]
 | @lam p b w y f _ ih =>
  grind [ai9,dw1,lam]
 | zero=>intro l r e hs hb hz;exact .zero
 | nil=>intro l r e hs hb hz;exact .nil
 | unit=>intro l r e hs hb hz;exact .unit
 | succ _ i1=>intro l r e hs hb hz;rw [ai9] at hb;subst e;simp only [F8,J1] at hb;rw [as8 rfl rfl a_];grind [succ]
 | fst _ i1=>intro l r e hs hb hz;rw [ai9] at hb;subst e;simp only [F8,J1] at hb;rw [as8 rfl rfl a_];grind [fst]
 | snd _ i1=>intro l r e hs hb hz;rw [ai9] at hb;subst e;simp only [F8,J1] at hb;rw [as8 rfl rfl a_];grind [snd]
 | app _ _ i1 i2 =>
  intro l r e hs hb hz;rw [aw7] at hb;subst e;simp only [F8,J1] at hb;rw [as8 rfl rfl a_]
  grind [app]
 | cons _ _ i1 i2 =>
  intro l r e hs hb hz;rw [aw7] at hb;subst e;simp only [F8,J1] at hb;rw [as8 rfl rfl a_]
  grind [cons]
 | pair _ _ i1 i2 =>
  intro l r e hs hb hz;rw [aw7] at hb;subst e;simp only [F8,J1] at hb;rw [as8 rfl rfl a_]
  grind [pair]
 | V8 _ _ _ i1 i2 i3 =>
  intro l r e hs hb hz;rw [P0] at hb;subst e;simp only [F8,J1] at hb;rw [as8 rfl rfl a_];exact .V8 (i1 l r rfl hs (by simp;omega) hz) (i2 l r rfl hs (by simp;omega) hz) (i3 l r rfl hs (by simp;omega) hz)
 | fold _ _ _ i1 i2 i3 =>
  intro l r e hs hb hz;rw [P0] at hb;subst e;simp only [F8,J1] at hb;rw [as8 rfl rfl a_];exact .fold (i1 l r rfl hs (by simp;omega) hz) (i2 l r rfl hs (by simp;omega) hz) (i3 l r rfl hs (by simp;omega) hz)
theorem TmG.ct2 {ty:Ty} {l':List Tm} (h:TmG (tmT k ty l)) (hl:l'.length=l.length) (h':∀ x∈l',TmG x):TmG (tmT k ty l'):=by
 generalize hx:tmT k ty l=x at h;cases h with
 | @plain k' l0 ar h1 h2 h3 h4 =>
  obtain ⟨rfl,_,rfl,rfl⟩:=hx;exact .plain h1 (by rw [hl];exact h2) h3 h'
 | @var i hi =>
  grind [tmT,a9,var]
 | @typd k' t' l0 ar h1 h2 h3 hg h4 =>
  grind [tmT,typd]
theorem cC8 {room:Int} {s:Ty} (h:l7 TyG g t s):TmG t->g.length+a8 t<=10000->(t.nx Tm.grow room).2=(true,true) ->
  TmG (t.nx Tm.grow room).1/\(a8 (t.nx Tm.grow room).1:Int)<=a8 t+room:=by
 have rootc:∀ {g:List Ty} {t:Tm} {s:Ty},l7 TyG g t s->TmG t->g.length+a8 t<=10000->t.root=true->(t.nx Tm.grow room).2=(true,true) ->
   TmG (t.nx Tm.grow room).1/\(a8 (t.nx Tm.grow room).1:Int)<=a8 t+room:=by
  intro g t s h hG hb hr hn;obtain ⟨e1,e2⟩:=du4 h hG hr hb;rw [br1 hr] at hn ⊢;split at hn
  ·simp at hn
  ·rename_i hc
   rw [y9 hc];simp at hc;exact ⟨e2,by simp only;omega⟩
 induction h with
 | var hi h =>
  intro hG hb hn;cases hr:(a9 _).root with
  | true=>exact rootc (.var hi h) hG hb hr hn
  | false =>
   rw [a9] at hr hn;rw [Tm.nx,hr] at hn;simp [Tm.nxL] at hn
 | @lam g a b t hT ht ih =>
  intro hG hb hn;have hr:(tmT 2 a [t]).root=false:=rfl;rw [aY3 hr] at hn ⊢;rw [H7] at hb;cases h1:(t.nx Tm.grow room).2.1 with
  | false=>simp [Tm.nxL,h1] at hn
  | true =>
   simp only [Tm.nxL,h1,p7] at hn ⊢;have e:(t.nx Tm.grow room).2=((t.nx Tm.grow room).2.1,(t.nx Tm.grow room).2.2):=rfl;obtain ⟨q1,q2⟩:=ih (hG.arg (by simp [tmT,Tm.args])) (by simp;omega) (by rw [e,h1,hn]);exact ⟨hG.ct2 b_ (by simpa using q1),by grind [H7]⟩
 | @n0 g k ty s hN =>
  intro hG hb hn;cases hr:(tmT k ty []).root with
  | true=>exact rootc (.n0 hN) hG hb hr hn
  | false=>grind [aY3,Tm.nxL]
 | @n1 g k ty s a x hN h1 ih1 =>
  intro hG hb hn;cases hr:(tmT k ty [x]).root with
  | true=>exact rootc (.n1 hN h1) hG hb hr hn
  | false =>
   rw [aY3 hr] at hn ⊢;rw [H7] at hb;cases f1:(x.nx Tm.grow room).2.1 with
   | false=>simp [Tm.nxL,f1] at hn
   | true =>
    simp only [Tm.nxL,f1,p7] at hn ⊢;have e:(x.nx Tm.grow room).2=((x.nx Tm.grow room).2.1,(x.nx Tm.grow room).2.2):=rfl;obtain ⟨q1,q2⟩:=ih1 (hG.arg (by simp [tmT,Tm.args])) a_ (by rw [e,f1,hn]);exact ⟨hG.ct2 b_ (by simpa using q1),by grind [H7]⟩
 | @n2 g k ty s a b x y hN h1 h2 ih1 ih2 =>
  intro hG hb hn;have gx:=hG.arg (x:=x) (by simp [tmT,Tm.args]);have gy:=hG.arg (x:=y) (by simp [tmT,Tm.args]);cases hr:(tmT k ty [x,y]).root with
  | true=>exact rootc (.n2 hN h1 h2) hG hb hr hn
  | false =>
   rw [aY3 hr] at hn ⊢;rw [ah2] at hb;have ex:(x.nx Tm.grow room).2=((x.nx Tm.grow room).2.1,(x.nx Tm.grow room).2.2):=rfl;have ey:(y.nx Tm.grow room).2=((y.nx Tm.grow room).2.1,(y.nx Tm.grow room).2.2):=rfl;cases f1:(x.nx Tm.grow room).2.1 with
   | true =>
    simp only [Tm.nxL,f1,p7] at hn ⊢;obtain ⟨q1,q2⟩:=ih1 gx a_ (by rw [ex,f1,hn]);exact ⟨hG.ct2 b_ (by simp [q1,gy]),by grind [ah2]⟩
   | false =>
    cases f2:(y.nx Tm.grow room).2.1 with
    | true =>
     simp only [Tm.nxL,f1,f2,p7,B2,r6] at hn ⊢;obtain ⟨q1,q2⟩:=ih2 gy a_ (by rw [ey,f2,hn]);exact ⟨hG.ct2 b_ (by simp [q1,gx]),by grind [ah2]⟩
    | false=>grind [Tm.nxL]
 | @n3 g k ty s a b c x y z hN h1 h2 h3 ih1 ih2 ih3 =>
  intro hG hb hn;have gx:=hG.arg (x:=x) (by simp [tmT,Tm.args]);have gy:=hG.arg (x:=y) (by simp [tmT,Tm.args]);have gz:=hG.arg (x:=z) (by simp [tmT,Tm.args]);cases hr:(tmT k ty [x,y,z]).root with
  | true=>exact rootc (.n3 hN h1 h2 h3) hG hb hr hn
  | false =>
   rw [aY3 hr] at hn ⊢;rw [P0] at hb;have ex:(x.nx Tm.grow room).2=((x.nx Tm.grow room).2.1,(x.nx Tm.grow room).2.2):=rfl;have ey:(y.nx Tm.grow room).2=((y.nx Tm.grow room).2.1,(y.nx Tm.grow room).2.2):=rfl;have ez:(z.nx Tm.grow room).2=((z.nx Tm.grow room).2.1,(z.nx Tm.grow room).2.2):=rfl;cases f1:(x.nx Tm.grow room).2.1 with
   | true =>
    simp only [Tm.nxL,f1,p7] at hn ⊢;obtain ⟨q1,q2⟩:=ih1 gx a_ (by rw [ex,f1,hn]);exact ⟨hG.ct2 b_ (by simp [q1,gy,gz]),by grind [P0]⟩
   | false =>
    cases f2:(y.nx Tm.grow room).2.1 with
    | true =>
     simp only [Tm.nxL,f1,f2,p7,B2,r6] at hn ⊢;obtain ⟨q1,q2⟩:=ih2 gy a_ (by rw [ey,f2,hn]);exact ⟨hG.ct2 b_ (by simp [q1,gx,gz]),by grind [P0]⟩
    | false =>
     cases f3:(z.nx Tm.grow room).2.1 with
     | true =>
      simp only [Tm.nxL,f1,f2,f3,p7,B2,r6] at hn ⊢;obtain ⟨q1,q2⟩:=ih3 gz a_ (by rw [ez,f3,hn]);exact ⟨hG.ct2 b_ (by simp [q1,gx,gy]),by grind [P0]⟩
     | false=>grind [Tm.nxL]
def aE7 (steps:Int):Nat->Int->Tm->Option (Tm × Int × Int)
 | 0,_,_=>none
 | k+1,n,t =>
  if !(t.nx Tm.grow (4096 - (a8 t:Int))).2.1 then some (t,n,0)
  else if n==steps then some (I4,0,5)
  else if !(t.nx Tm.grow (4096 - (a8 t:Int))).2.2 then some (I4,0,4)
  else aE7 steps k (n+1) (t.nx Tm.grow (4096 - (a8 t:Int))).1
end GoAbs
