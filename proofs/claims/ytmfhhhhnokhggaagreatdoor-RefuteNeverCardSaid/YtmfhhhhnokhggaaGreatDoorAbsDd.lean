/-
 The abstract layer: plain laws, further ones.
-/
import Derived.Test.YtmfhhhhnokhggaaGreatDoorAbsDc
set_option linter.unusedSimpArgs false
set_option linter.unusedVariables false
set_option linter.unusedSectionVars false
namespace GoAbs
open Go
theorem by6 {steps:Int}:∀ (k:Nat) (n:Int) (t:Tm),n<=steps->steps<n+k->∃ r,aE7 steps k n t=some r
 | 0,n,t,h1,h2=>by omega
 | k + 1,n,t,h1,h2=>by
  rw [aE7];split
  ·exact ⟨_,rfl⟩
  ·split
   ·exact ⟨_,rfl⟩
   ·split
    ·exact ⟨_,rfl⟩
    ·refine by6 k (n+1) _ ?_ a_
     grind
def norm (t:Tm):Tm × Int × Int:=(aE7 1000 1001 0 t).getD (I4,0,0)
theorem norm_eq (t:Tm):aE7 1000 1001 0 t=some (norm t):=by
 obtain ⟨r,hr⟩:=by6 (steps:=1000) 1001 0 t a_ a_;unfold norm;rw [hr];rfl
def au4 (me:Int) (a b:Tm):Int :=
 if Tm.same a b then 0 else if (norm a).2.2 != 0 then (norm a).2.2 else if (norm b).2.2 != 0 then (norm b).2.2
 else if !Tm.same (norm a).1 (norm b).1 then me else 0
variable {p:List DV}
theorem Den.dw5 {i:Int} {u:U} {d:u.val} (h:Den p (a9 i) u d):∃ n:Nat,i=n/\p[n]? = some ⟨u,d⟩:=by
 generalize hx:a9 i=x at h;cases h<;>simp [tmT,a9] at hx
 grind
variable {s:Ty}
theorem Den.aw2 {b:Tm} {u:U} {d:u.val} (h:Den p (tmT 2 s [b]) u d) :
  ∃ (a w:U) (f:a.val->w.val),a.ty=s/\(∀ x:a.val,Den (⟨a,x⟩::p) b w (f x))/\(⟨u,d⟩:DV)=⟨.fn a w,f⟩:=by
 generalize hx:tmT 2 s [b]=x at h;cases h<;>simp [tmT,a9] at hx
 grind
variable {t:Tm}
theorem Den.bb9 {ty:Ty} {s:Tm} {u:U} {d:u.val} (h:Den p (tmT 3 ty [s,t]) u d) :
  ∃ (a:U) (f:a.val->u.val) (x:a.val),Den p s (.fn a u) f/\Den p t a x/\d=f x:=by
 generalize hx:tmT 3 ty [s,t]=x at h;cases h<;>simp [tmT,a9] at hx
 grind
theorem Den.inv_zero {ty:Ty} {u:U} {d:u.val} (h:Den p (tmT 4 ty []) u d):(⟨u,d⟩:DV)=⟨.nat,(0:Nat)⟩:=by
 generalize hx:tmT 4 ty []=x at h;cases h<;>simp [tmT,a9] at hx
 rfl
theorem Den.at0 {ty:Ty} {u:U} {d:u.val} (h:Den p (tmT 5 ty [t]) u d):∃ n:Nat,Den p t .nat n/\(⟨u,d⟩:DV)=⟨.nat,(n+1:Nat)⟩:=by
 generalize hx:tmT 5 ty [t]=x at h;cases h<;>simp [tmT,a9] at hx
 grind
variable {y:Tm}
theorem Den.cB6 {z:Tm} {u:U} {d:u.val} (h:Den p (tmT 6 s [z,t,y]) u d) :
  ∃ (x:u.val) (f:Nat->u.val->u.val) (n:Nat),u.ty=s/\Den p z u x/\Den p t (.fn .nat (.fn u u)) f/\Den p y .nat n/\d=aU7 x f n:=by
 generalize hx:tmT 6 s [z,t,y]=x at h;cases h<;>simp [tmT,a9] at hx
 grind
theorem Den.cB5 {ty:Ty} {u:U} {d:u.val} (h:Den p (tmT 7 ty []) u d):(⟨u,d⟩:DV)=⟨.list,([]:List Nat)⟩:=by
 generalize hx:tmT 7 ty []=x at h;cases h<;>simp [tmT,a9] at hx
 rfl
theorem Den.as9 {ty:Ty} {s:Tm} {u:U} {d:u.val} (h:Den p (tmT 8 ty [s,t]) u d) :
  ∃ (n:Nat) (l:List Nat),Den p s .nat n/\Den p t .list l/\(⟨u,d⟩:DV)=⟨.list,(n::l:List Nat)⟩:=by
 generalize hx:tmT 8 ty [s,t]=x at h;cases h<;>simp [tmT,a9] at hx
 grind
theorem Den.cd9 {z:Tm} {u:U} {d:u.val} (h:Den p (tmT 9 s [z,t,y]) u d) :
  ∃ (x:u.val) (f:Nat->List Nat->u.val->u.val) (l:List Nat),u.ty=s/\Den p z u x/\Den p t (.fn .nat (.fn .list (.fn u u))) f/\Den p y .list l/\d=cb8 x f l:=by
 generalize hx:tmT 9 s [z,t,y]=x at h;cases h<;>simp [tmT,a9] at hx
 grind
theorem Den.W9 {ty:Ty} {s:Tm} {u:U} {d:u.val} (h:Den p (tmT 10 ty [s,t]) u d) :
  ∃ (a b:U) (x:a.val) (y:b.val),Den p s a x/\Den p t b y/\(⟨u,d⟩:DV)=⟨.pair a b,(x,y)⟩:=by
 generalize hx:tmT 10 ty [s,t]=x at h;cases h<;>simp [tmT,a9] at hx
 grind
theorem Den.cB4 {ty:Ty} {u:U} {d:u.val} (h:Den p (tmT 11 ty [t]) u d):∃ (b:U) (x:u.val × b.val),Den p t (.pair u b) x/\d=x.1:=by
 generalize hx:tmT 11 ty [t]=x at h;cases h<;>simp [tmT,a9] at hx
 grind
theorem Den.cB7 {ty:Ty} {u:U} {d:u.val} (h:Den p (tmT 12 ty [t]) u d):∃ (a:U) (x:a.val × u.val),Den p t (.pair a u) x/\d=x.2:=by
 generalize hx:tmT 12 ty [t]=x at h;cases h<;>simp [tmT,a9] at hx
 grind
theorem Den.df2 {ty:Ty} {u:U} {d:u.val} (h:Den p (tmT 13 ty []) u d):(⟨u,d⟩:DV)=⟨.unit,()⟩:=by
 generalize hx:tmT 13 ty []=x at h;cases h<;>simp [tmT,a9] at hx
 rfl
theorem da9 {a b:U} {x:a.val} {y:b.val} (h:(⟨a,x⟩:DV)=⟨b,y⟩):a=b:=congrArg Sigma.fst h
theorem aO1 {a:U} {x y:a.val} (h:(⟨a,x⟩:DV)=⟨a,y⟩):x=y:=by
 grind
theorem Den.uniq {u:U} {d:u.val} (h:Den p t u d):∀ {u':U} {d':u'.val},Den p t u' d'->(⟨u,d⟩:DV)=⟨u',d'⟩:=by
 induction h with
 | @var p i u d hi =>
  intro u' d' h';obtain ⟨n,hn,h2⟩:=h'.dw5
  grind
 | @lam p a w b f _ ih =>
  intro u' d' h';obtain ⟨a',w',f',ea,hf,e⟩:=h'.aw2;obtain rfl:=U.inj ea;have hw:w=w':=da9 (ih a'.da7 (hf a'.da7));subst hw;rw [e];have:f=f':=funext fun x=>aO1 (ih x (hf x));rw [this]
 | @app p ty a b s t f x _ _ i1 i2 =>
  intro u' d' h';obtain ⟨a',f',x',h1,h2,rfl⟩:=h'.bb9;have e1:=i1 h1;have hu:=da9 e1;obtain ⟨rfl,rfl⟩:=hu
  grind
 | zero=>intro u' d' h';exact h'.inv_zero.symm
 | succ _ i1 =>
  intro u' d' h';obtain ⟨n,h1,e⟩:=h'.at0
  grind
 | @V8 p a z s t x f n _ _ _ i1 i2 i3 =>
  intro u' d' h';obtain ⟨x',f',n',eu,h1,h2,h3,rfl⟩:=h'.cB6
  grind
 | nil=>intro u' d' h';exact h'.cB5.symm
 | cons _ _ i1 i2 =>
  intro u' d' h';obtain ⟨n,l,h1,h2,e⟩:=h'.as9
  grind
 | @fold p a z s t x f n _ _ _ i1 i2 i3 =>
  intro u' d' h';obtain ⟨x',f',n',eu,h1,h2,h3,rfl⟩:=h'.cd9
  grind
 | pair _ _ i1 i2 =>
  intro u' d' h';obtain ⟨a',b',x',y',h1,h2,e⟩:=h'.W9
  grind
 | fst _ i1 =>
  intro u' d' h';obtain ⟨b',x',h1,rfl⟩:=h'.cB4
  grind
 | snd _ i1 =>
  intro u' d' h';obtain ⟨b',x',h1,rfl⟩:=h'.cB7
  grind
 | unit=>intro u' d' h';exact h'.df2.symm
variable {g:List Ty}
theorem Den.red (ht:l7 TyG g t s) (hr:t.root=true) {u:U} {d:u.val} (h:Den p t u d) (hb:p.length+a8 t<=50000):Den p t.red u d:=by
 cases ht with
 | var=>grind [Tm.root,a9,Tm.kind]
 | lam=>grind [Tm.root,tmT,Tm.kind]
 | n0 hN=>cases hN<;>simp [Tm.root,tmT,Tm.kind] at hr
 | @n1 _ k ty _ a x hN h1 =>
  cases hN with
  | succ=>grind [Tm.root,tmT,Tm.kind]
  | fst =>
   have hk:x.kind=10:=by simpa [Tm.root,tmT,Tm.kind,ta,Tm.args] using hr
   obtain ⟨ty',a',b',y,z,e,rfl,h2,h3⟩:=h1.W9 hk;obtain ⟨b1,x1,q1,rfl⟩:=h.cB4;obtain ⟨a2,b2,x2,y2,r1,r2,e2⟩:=q1.W9;cases e2;exact r1
  | snd =>
   have hk:x.kind=10:=by simpa [Tm.root,tmT,Tm.kind,ta,Tm.args] using hr
   obtain ⟨ty',a',b',y,z,e,rfl,h2,h3⟩:=h1.W9 hk;obtain ⟨b1,x1,q1,rfl⟩:=h.cB7;obtain ⟨a2,b2,x2,y2,r1,r2,e2⟩:=q1.W9;cases e2;exact r2
 | @n2 _ k ty _ a b x y hN h1 h2 =>
  rw [ah2] at hb;cases hN with
  | app =>
   have hk:x.kind=2:=by simpa [Tm.root,tmT,Tm.kind,ta,Tm.args] using hr
   obtain ⟨a',b',z,e,rfl,h3⟩:=h1.aw2 hk;obtain ⟨a1,f1,x1,q1,q2,rfl⟩:=h.bb9;obtain ⟨a2,w2,f2,_,r1,e2⟩:=q1.aw2;cases e2;rw [H7] at hb;have:=(r1 x1).inn (x:=x1) (s:=y) [] p rfl q2 (by simp;omega) a_;have e:(tmT 3 ty [tmT 2 a' [z],y]).red=D6 y 0 z 0:=rfl
   grind
  | cons=>grind [Tm.root,tmT,Tm.kind]
  | pair=>grind [Tm.root,tmT,Tm.kind]
 | @n3 _ k ty _ a b c x y z hN h1 h2 h3 =>
  cases hN with
  | V8 =>
   have hk:z.kind=4\/z.kind=5:=by simpa [Tm.root,tmT,Tm.kind,ta,Tm.args] using hr
   have e:(tmT 6 s [x,y,z]).red=if z.kind==4 then x else tm0 3 [tm0 3 [y,ta z 0],tmT 6 s [x,y,ta z 0]]:=rfl
   rw [e];obtain ⟨x1,f1,n1,rfl,q1,q2,q3,rfl⟩:=h.cB6;rcases hk with hk|hk
   ·have hz:∃ ty',z=tmT 4 ty' []:=by
     cases h3 with
     | var=>grind [a9,Tm.kind]
     | n0 hN=>grind [tmT,Tm.kind]
     | n1 hN=>cases hN<;>simp [tmT,Tm.kind] at hk
     | n2 hN=>cases hN<;>simp [tmT,Tm.kind] at hk
     | n3 hN=>cases hN<;>simp [tmT,Tm.kind] at hk
    obtain ⟨ty',rfl⟩:=hz;have:=aO1 q3.inv_zero;subst this;exact q1
   ·obtain ⟨ty',m,rfl,hm⟩:=h3.at0 hk
    obtain ⟨n2,r1,e2⟩:=q3.at0;have:=aO1 e2;subst this;exact .app (ty:=.mk 0 []) (.app (ty:=.mk 0 []) q2 r1) (.V8 q1 q2 r1)
  | fold =>
   have hk:z.kind=7\/z.kind=8:=by simpa [Tm.root,tmT,Tm.kind,ta,Tm.args] using hr
   have e:(tmT 9 s [x,y,z]).red=if z.kind==7 then x else tm0 3 [tm0 3 [tm0 3 [y,ta z 0],ta z 1],tmT 9 s [x,y,ta z 1]]:=rfl
   rw [e];obtain ⟨x1,f1,n1,rfl,q1,q2,q3,rfl⟩:=h.cd9;rcases hk with hk|hk
   ·have hz:∃ ty',z=tmT 7 ty' []:=by
     cases h3 with
     | var=>grind [a9,Tm.kind]
     | n0 hN=>grind [tmT,Tm.kind]
     | n1 hN=>cases hN<;>simp [tmT,Tm.kind] at hk
     | n2 hN=>cases hN<;>simp [tmT,Tm.kind] at hk
     | n3 hN=>cases hN<;>simp [tmT,Tm.kind] at hk
    obtain ⟨ty',rfl⟩:=hz;have:=aO1 q3.cB5;subst this;exact q1
   ·obtain ⟨ty',m,n,rfl,hm,hn⟩:=h3.as9 hk
    obtain ⟨n2,l2,r1,r2,e2⟩:=q3.as9;have:=aO1 e2;subst this;exact .app (ty:=.mk 0 []) (.app (ty:=.mk 0 []) (.app (ty:=.mk 0 []) q2 r1) r2) (.fold q1 q2 r2)
def DLe (p:List DV) (x y:Tm):Prop:=∀ (u:U) (d:u.val),Den p x u d->Den p y u d
theorem DLe.refl (p:List DV) (x:Tm):DLe p x x:=fun _ _ h=>h
variable {k:Int} {x':Tm}
theorem Den.eh7 {ty:Ty} {x:Tm} {u:U} {d:u.val} (h:Den p (tmT k ty [x]) u d) (hk:k≠2) (hx:DLe p x x'):Den p (tmT k ty [x']) u d:=by
 generalize e:tmT k ty [x]=t at h;cases h with
 | lam=>grind [tmT]
 | succ h1=>obtain ⟨rfl,rfl,rfl⟩:=e;exact .succ (hx _ _ h1)
 | fst h1=>obtain ⟨rfl,rfl,rfl⟩:=e;exact .fst (hx _ _ h1)
 | snd h1=>obtain ⟨rfl,rfl,rfl⟩:=e;exact .snd (hx _ _ h1)
 | _=>simp [tmT,a9] at e
theorem Den.dZ7 {ty:Ty} {x y':Tm} {u:U} {d:u.val} (h:Den p (tmT k ty [x,y]) u d) (hx:DLe p x x') (hy:DLe p y y'):Den p (tmT k ty [x',y']) u d:=by
 generalize e:tmT k ty [x,y]=t at h;cases h with
 | app h1 h2=>obtain ⟨rfl,rfl,rfl,rfl⟩:=e;exact .app (hx _ _ h1) (hy _ _ h2)
 | cons h1 h2=>obtain ⟨rfl,rfl,rfl,rfl⟩:=e;exact .cons (hx _ _ h1) (hy _ _ h2)
 | pair h1 h2=>obtain ⟨rfl,rfl,rfl,rfl⟩:=e;exact .pair (hx _ _ h1) (hy _ _ h2)
 | _=>simp [tmT,a9] at e
theorem Den.dN5 {ty:Ty} {x y' z z':Tm} {u:U} {d:u.val} (h:Den p (tmT k ty [x,y,z]) u d) (hx:DLe p x x') (hy:DLe p y y') (hz:DLe p z z'):Den p (tmT k ty [x',y',z']) u d:=by
 generalize e:tmT k ty [x,y,z]=t at h;cases h with
 | V8 h1 h2 h3=>obtain ⟨rfl,rfl,rfl,rfl,rfl⟩:=e;exact .V8 (hx _ _ h1) (hy _ _ h2) (hz _ _ h3)
 | fold h1 h2 h3=>obtain ⟨rfl,rfl,rfl,rfl,rfl⟩:=e;exact .fold (hx _ _ h1) (hy _ _ h2) (hz _ _ h3)
 | _=>simp [tmT,a9] at e
variable {gr:Tm->Int} {room:Int}
theorem Den.nx (h:l7 TyG g t s):∀ (p:List DV),p.length+a8 t<=50000->(t.nx gr room).2=(true,true)->DLe p t (t.nx gr room).1:=by
 have rootc:∀ {g:List Ty} {t:Tm} {s:Ty},l7 TyG g t s->∀ (p:List DV),p.length+a8 t<=50000->t.root=true->(t.nx gr room).2=(true,true)->DLe p t (t.nx gr room).1:=by
  intro g t s h p hb hr hn u d hd;rw [br1 hr] at hn ⊢;split at hn
  ·simp at hn
  ·rename_i hc
   rw [y9 hc];exact hd.red h hr hb
 induction h with
 | var hi h=>intro p hb hn;exact rootc (.var hi h) p hb (by
   grind [a9,Tm.nx,Tm.nxL]) hn
 | @lam g a b t hG ht ih =>
  intro p hb hn u d hd;have hr:(tmT 2 a [t]).root=false:=rfl;rw [aY3 hr] at hn ⊢;rw [H7] at hb;cases h1:(t.nx gr room).2.1 with
  | false=>simp [Tm.nxL,h1] at hn
  | true =>
   simp only [Tm.nxL,h1,p7] at hn ⊢;obtain ⟨a1,w1,f1,rfl,q1,e1⟩:=hd.aw2;cases e1;refine .lam fun x=>ih (⟨a1,x⟩::p) (by simp;omega) ?_ _ _ (q1 x)
   grind
 | @n0 g k ty s hN =>
  intro p hb hn;cases hr:(tmT k ty []).root with
  | true=>exact rootc (g:=g) (.n0 hN) p hb hr hn
  | false=>grind [aY3,Tm.nxL]
 | @n1 g k ty s a x hN h1 ih1 =>
  intro p hb hn;cases hr:(tmT k ty [x]).root with
  | true=>exact rootc (.n1 hN h1) p hb hr hn
  | false =>
   intro u d hd;rw [aY3 hr] at hn ⊢;rw [H7] at hb;cases f1:(x.nx gr room).2.1 with
   | false=>simp [Tm.nxL,f1] at hn
   | true =>
    simp only [Tm.nxL,f1,p7] at hn ⊢;refine hd.eh7 (by cases hN<;>decide) (ih1 p a_ ?_)
    grind
 | @n2 g k ty s a b x y hN h1 h2 ih1 ih2 =>
  intro p hb hn;cases hr:(tmT k ty [x,y]).root with
  | true=>exact rootc (.n2 hN h1 h2) p hb hr hn
  | false =>
   intro u d hd;rw [aY3 hr] at hn ⊢;rw [ah2] at hb;have ex:(x.nx gr room).2=((x.nx gr room).2.1,(x.nx gr room).2.2):=rfl;have ey:(y.nx gr room).2=((y.nx gr room).2.1,(y.nx gr room).2.2):=rfl;cases f1:(x.nx gr room).2.1 with
   | true =>
    simp only [Tm.nxL,f1,p7] at hn ⊢;exact hd.dZ7 (ih1 p a_ (by rw [ex,f1,hn])) (.refl _ _)
   | false =>
    cases f2:(y.nx gr room).2.1 with
    | true =>
     simp only [Tm.nxL,f1,f2,p7,B2,r6] at hn ⊢;exact hd.dZ7 (.refl _ _) (ih2 p a_ (by rw [ey,f2,hn]))
    | false=>grind [Tm.nxL]
 | @n3 g k ty s a b c x y z hN h1 h2 h3 ih1 ih2 ih3 =>
  intro p hb hn;cases hr:(tmT k ty [x,y,z]).root with
  | true=>exact rootc (.n3 hN h1 h2 h3) p hb hr hn
  | false =>
   intro u d hd;rw [aY3 hr] at hn ⊢;rw [P0] at hb;have ex:(x.nx gr room).2=((x.nx gr room).2.1,(x.nx gr room).2.2):=rfl;have ey:(y.nx gr room).2=((y.nx gr room).2.1,(y.nx gr room).2.2):=rfl;have ez:(z.nx gr room).2=((z.nx gr room).2.1,(z.nx gr room).2.2):=rfl;cases f1:(x.nx gr room).2.1 with
   | true =>
    simp only [Tm.nxL,f1,p7] at hn ⊢;exact hd.dN5 (ih1 p a_ (by rw [ex,f1,hn])) (.refl _ _) (.refl _ _)
   | false =>
    cases f2:(y.nx gr room).2.1 with
    | true =>
     simp only [Tm.nxL,f1,f2,p7,B2,r6] at hn ⊢;exact hd.dN5 (.refl _ _) (ih2 p a_ (by rw [ey,f2,hn])) (.refl _ _)
    | false =>
     cases f3:(z.nx gr room).2.1 with
     | true =>
      simp only [Tm.nxL,f1,f2,f3,p7,B2,r6] at hn ⊢;exact hd.dN5 (.refl _ _) (.refl _ _) (ih3 p a_ (by rw [ez,f3,hn]))
     | false=>grind [Tm.nxL]
theorem bK3 {g:List Ty} {steps:Int} {s:Ty} (hg:g.length<=5000):∀ (k:Nat) (n:Int) (t:Tm),l7 TyG g t s->TmG t->a8 t<=4096->∀ r,aE7 steps k n t=some r->r.2.2=0 ->
  l7 TyG g r.1 s/\TmG r.1/\a8 r.1<=4096/\∀ p:List DV,p.length<=5000->DLe p t r.1
 | 0,n,t,_,_,_,r,h,_=>by simp [aE7] at h
 | k + 1,n,t,hT,hG,hz,r,h,h0=>by
  rw [aE7] at h;cases h1:(t.nx Tm.grow (4096 - (a8 t:Int))).2.1 with
  | false =>
   rw [h1] at h;simp only [M9,p7,S6] at h;subst h;exact ⟨hT,hG,hz,fun p _=>.refl _ _⟩
  | true =>
   rw [h1] at h;simp only [E7,B2,r6] at h;split at h
   ·grind
   ·cases h2:(t.nx Tm.grow (4096 - (a8 t:Int))).2.2 with
    | false =>
     grind
    | true =>
     rw [h2] at h;simp only [E7,B2,r6] at h;have hn:(t.nx Tm.grow (4096 - (a8 t:Int))).2=(true,true):=by
      have e:(t.nx Tm.grow (4096 - (a8 t:Int))).2=((t.nx Tm.grow (4096 - (a8 t:Int))).2.1,(t.nx Tm.grow (4096 - (a8 t:Int))).2.2):=rfl;rw [e,h1,h2]
     obtain ⟨g1,g2⟩:=cC8 hT hG a_ hn;have t1:=dF0 hT a_ hn;obtain ⟨a1,a2,a3,a4⟩:=bK3 hg k (n+1) _ t1 g1 a_ r h h0;exact ⟨a1,a2,a3,fun p hp u d hd=>a4 p hp _ _ (Den.nx hT p a_ hn _ _ hd)⟩
theorem aE8 (hg:g.length<=5000) (hT:l7 TyG g t s) (hG:TmG t) (hz:a8 t<=4096) (h0:(norm t).2.2=0) :
  l7 TyG g (norm t).1 s/\TmG (norm t).1/\a8 (norm t).1<=4096/\∀ p:List DV,p.length<=5000->DLe p t (norm t).1:=bK3 hg _ _ t hT hG hz _ (norm_eq t) h0
theorem bK0 {a b:Tm} {s':Ty} {me:Int} (hme:me≠0) (hg:g.length<=5000) (ha:l7 TyG g a s) (hb:l7 TyG g b s') (ga:TmG a) (gb:TmG b) (za:a8 a<=4096) (zb:a8 b<=4096) (h:au4 me a b=0)
 (hp:p.length<=5000) {u u':U} {d:u.val} {d':u'.val} (hd:Den p a u d) (hd':Den p b u' d'):(⟨u,d⟩:DV)=⟨u',d'⟩:=by
 unfold au4 at h;split at h
 ·rename_i e
  have:=Tm.N6 e;subst this;exact hd.uniq hd'
 ·split at h
  ·grind
  ·split at h
   ·grind
   ·rename_i n1 n2
    split at h
    ·exact absurd h hme
    ·rename_i n3
     have e1:(norm a).2.2=0:=by simpa using n1
     have e2:(norm b).2.2=0:=by simpa using n2
     obtain ⟨_,_,_,q1⟩:=aE8 hg ha ga za e1;obtain ⟨_,_,_,q2⟩:=aE8 hg hb gb zb e2;have e3:Tm.same (norm a).1 (norm b).1=true:=by simpa using n3
     have e4:=Tm.N6 e3;have d1:=q1 p hp _ _ hd;rw [e4] at d1;exact d1.uniq (q2 p hp _ _ hd')
inductive ap0:Int->Ty->List Ty->Int->Prop
 | app {ty a b:Ty}:(∀ s,a≠x9 b s)->ap0 3 ty [a,b] 7
 | succ {ty a:Ty}:a≠c8->ap0 5 ty [a] 7
 | V8 {t a b c:Ty}:¬(a=t/\b=x9 c8 (x9 t t)/\c=c8)->ap0 6 t [a,b,c] 7
 | cons {ty a b:Ty}:¬(a=c8/\b=r5)->ap0 8 ty [a,b] 7
 | fold {t a b c:Ty}:¬(a=t/\b=x9 c8 (x9 r5 (x9 t t))/\c=r5)->ap0 9 t [a,b,c] 7
 | pair {ty a b:Ty}:63<E5 a+E5 b->ap0 10 ty [a,b] 4
 | fst {ty a:Ty}:(∀ x y,a≠B6 x y)->ap0 11 ty [a] 7
 | snd {ty a:Ty}:(∀ x y,a≠B6 x y)->ap0 12 ty [a] 7
inductive aH1:List Ty->Tm->Int->Prop
 | var {g:List Ty} {i:Int}:(g.length:Int)<=i->aH1 g (a9 i) 6
 | lamE {g:List Ty} {a:Ty} {b:Tm} {e:Int}:TyG a->aH1 (g++[a]) b e->aH1 g (tmT 2 a [b]) e
 | lamS {g:List Ty} {a s:Ty} {b:Tm}:l7 TyG (g++[a]) b s->TyG a->TyG s->63<E5 a+E5 s->aH1 g (tmT 2 a [b]) 4
 | arg {g:List Ty} {k:Int} {ty:Ty} {l:List Tm} {ts:List Ty} {x:Tm} {e:Int}:(k==1)=false->(k==2)=false->l.length<=3->(∀ a∈ts,TyG a)->(∀ (j:Nat) (y:Tm) (a:Ty),l[j]? = some y->ts[j]? = some a->l7 TyG g y a)->l[ts.length]? = some x->aH1 g x e ->
   aH1 g (tmT k ty l) e
 | node {g:List Ty} {k:Int} {ty:Ty} {l:List Tm} {ts:List Ty} {e:Int}:l.length=ts.length->(∀ a∈ts,TyG a)->(∀ (j:Nat) (y:Tm) (a:Ty),l[j]? = some y->ts[j]? = some a->l7 TyG g y a)->ap0 k ty ts e->aH1 g (tmT k ty l) e
variable {e:Int}
theorem ap0.ne {ty:Ty} {ts:List Ty} (h:ap0 k ty ts e):(e != 0)=true:=by cases h<;>rfl
theorem aH1.ne (h:aH1 g t e):(e != 0)=true:=by
 induction h with
 | var _=>rfl
 | lamE _ _ ih=>exact ih
 | lamS _ _ _ _=>rfl
 | arg _ _ _ _ _ _ _ ih=>exact ih
 | node _ _ _ h=>exact h.ne
theorem l7.node {Q:Ty->Prop} {g:List Ty} {k:Int} {ty s:Ty} {l:List Tm} {ts:List Ty} (hl:l.length=ts.length) (h:∀ (j:Nat) (y:Tm) (a:Ty),l[j]? = some y->ts[j]? = some a->l7 Q g y a) (hn:P5 Q k ty ts s):l7 Q g (tmT k ty l) s:=by
 have c0:ts=[]->l7 Q g (tmT k ty l) s:=by
  rintro rfl;obtain rfl:l=[]:=ci9 hl;exact .n0 hn
 have c1:∀ a,ts=[a]->l7 Q g (tmT k ty l) s:=by
  rintro a rfl
  match l,hl with
  | [x],_=>exact .n1 hn (h 0 x a rfl rfl)
 have c2:∀ a b,ts=[a,b]->l7 Q g (tmT k ty l) s:=by
  rintro a b rfl
  match l,hl with
  | [x,y],_=>exact .n2 hn (h 0 x a rfl rfl) (h 1 y b rfl rfl)
 have c3:∀ a b c,ts=[a,b,c]->l7 Q g (tmT k ty l) s:=by
  rintro a b c rfl
  match l,hl with
  | [x,y,z],_=>exact .n3 hn (h 0 x a rfl rfl) (h 1 y b rfl rfl) (h 2 z c rfl rfl)
 cases hn<;>grind
theorem cb2 {g:List Ty}:∀ l:List Tm,(∀ x∈l,(∃ s,l7 TyG g x s/\TyG s)\/∃ e,aH1 g x e) ->
  (∃ ts:List Ty,l.length=ts.length/\(∀ a∈ts,TyG a)/\∀ (j:Nat) (y:Tm) (a:Ty),l[j]? = some y->ts[j]? = some a->l7 TyG g y a) \/
  (∃ (ts:List Ty) (x:Tm) (e:Int),l[ts.length]? = some x/\aH1 g x e/\(∀ a∈ts,TyG a)/\∀ (j:Nat) (y:Tm) (a:Ty),l[j]? = some y->ts[j]? = some a->l7 TyG g y a)
 | [],_=>.inl ⟨[],rfl,b_,b_⟩
 | x::l,h=>by
  rcases h x b_ with ⟨s,h1,h2⟩|⟨e,h1⟩
  ·rcases cb2 l (fun y hy=>h y (by simp [hy])) with ⟨ts,a1,a2,a3⟩|⟨ts,y,e,a1,a2,a4,a3⟩
   ·refine .inl ⟨s::ts,by simp [a1],by simpa using ⟨h2,a2⟩,fun j y a hy ha=>?_⟩
    grind
   ·refine .inr ⟨s::ts,y,e,by simpa using a1,a2,by simpa using ⟨h2,a4⟩,fun j y a hy ha=>?_⟩
    grind
  ·exact .inr ⟨[],x,e,rfl,h1,b_,b_⟩
variable {a:Ty}
theorem TyG.cn2 (h:TyG a):a=c8\/a=r5\/a=O7\/(∃ x y,a=B6 x y/\TyG x/\TyG y)\/∃ x y,a=x9 x y/\TyG x/\TyG y:=by
 have h':=h;obtain ⟨h,hs⟩:=h;cases h with
 | nat=>exact .inl rfl
 | list=>exact .inr (.inl rfl)
 | unit=>grind
 | pair _ _=>exact .inr (.inr (.inr (.inl ⟨_,_,rfl,h'.bz1⟩)))
 | func _ _=>exact .inr (.inr (.inr (.inr ⟨_,_,rfl,h'.cb9⟩)))
theorem cr7 {ty:Ty} {ts:List Ty} {n:Int} (hk:arity k=some n) (h1:(k==1)=false) (h2:(k==2)=false) (hn:(ts.length:Int)=n) (ht:typed k=true->TyG ty) (hts:∀ a∈ts,TyG a) :
  (∃ s,P5 TyG k ty ts s/\TyG s)\/∃ e,ap0 k ty ts e:=by
 have hk3:k=3\/k=4\/k=5\/k=6\/k=7\/k=8\/k=9\/k=10\/k=11\/k=12\/k=13:=by
  unfold arity at hk;split at hk
  ·cases hk
  ·have:k≠1:=by intro e;subst e;cases h1
   have:k≠2:=by intro e;subst e;cases h2
   omega
 have len0:ts.length=0->ts=[]:=ci9;have cN8:ts.length=1->∃ a,ts=[a]:=fun h=>bV1.1 h;have cq9:ts.length=2->∃ a b,ts=[a,b]:=fun h=>by
  match ts,h with
  | [a,b],_=>exact ⟨a,b,rfl⟩
 have cN9:ts.length=3->∃ a b c,ts=[a,b,c]:=fun h=>by
  match ts,h with
  | [a,b,c],_=>grind
 rcases hk3 with rfl|rfl|rfl|rfl|rfl|rfl|rfl|rfl|rfl|rfl|rfl<;>simp [arity,arities] at hk<;>subst hk
 ·obtain ⟨a,b,rfl⟩:=cq9 a_
  by_cases h:∃ s,a=x9 b s
  ·obtain ⟨s,rfl⟩:=h
   exact .inl ⟨s,.app,(hts _ b_:TyG (x9 b s)).cb9.2⟩
  ·exact .inr ⟨_,.app fun s e=>h ⟨s,e⟩⟩
 ·obtain rfl:=len0 a_
  exact .inl ⟨_,.zero,.nat⟩
 ·obtain ⟨a,rfl⟩:=cN8 a_
  by_cases h:a=c8
  ·subst h;exact .inl ⟨_,.succ,.nat⟩
  ·exact .inr ⟨_,.succ h⟩
 ·obtain ⟨a,b,c,rfl⟩:=cN9 a_
  by_cases h:a=ty/\b=x9 c8 (x9 ty ty)/\c=c8
  ·obtain ⟨rfl,rfl,rfl⟩:=h;exact .inl ⟨_,.V8,ht rfl⟩
  ·exact .inr ⟨_,.V8 h⟩
 ·obtain rfl:=len0 a_
  exact .inl ⟨_,.nil,.list⟩
 ·obtain ⟨a,b,rfl⟩:=cq9 a_
  by_cases h:a=c8/\b=r5
  ·obtain ⟨rfl,rfl⟩:=h;exact .inl ⟨_,.cons,.list⟩
  ·exact .inr ⟨_,.cons h⟩
 ·obtain ⟨a,b,c,rfl⟩:=cN9 a_
  by_cases h:a=ty/\b=x9 c8 (x9 r5 (x9 ty ty))/\c=r5
  ·obtain ⟨rfl,rfl,rfl⟩:=h;exact .inl ⟨_,.fold,ht rfl⟩
  ·exact .inr ⟨_,.fold h⟩
 ·obtain ⟨a,b,rfl⟩:=cq9 a_
  have ga:=hts a b_;have gb:=hts b b_;by_cases h:63<E5 a+E5 b
  ·exact .inr ⟨_,.pair h⟩
  ·have:=TyG.cD4 ga.1 gb.1 a_
   exact .inl ⟨_,.pair this,this⟩
 ·obtain ⟨a,rfl⟩:=cN8 a_
  by_cases h:∃ x y,a=B6 x y
  ·obtain ⟨x,y,rfl⟩:=h
   exact .inl ⟨x,.fst,(hts _ b_:TyG (B6 x y)).bz1.1⟩
  ·exact .inr ⟨_,.fst fun x y e=>h ⟨x,y,e⟩⟩
 ·obtain ⟨a,rfl⟩:=cN8 a_
  by_cases h:∃ x y,a=B6 x y
  ·obtain ⟨x,y,rfl⟩:=h
   exact .inl ⟨y,.snd,(hts _ b_:TyG (B6 x y)).bz1.2⟩
  ·exact .inr ⟨_,.snd fun x y e=>h ⟨x,y,e⟩⟩
 ·obtain rfl:=len0 a_
  exact .inl ⟨_,.unit,.unit⟩
theorem bB0 (h:TmG t):∀ g:List Ty,(∀ y∈g,TyG y)->(∃ s,l7 TyG g t s/\TyG s)\/∃ e,aH1 g t e:=by
 have var:∀ (i:Int),0<=i->∀ g:List Ty,(∀ y∈g,TyG y)->(∃ s,l7 TyG g (a9 i) s/\TyG s)\/∃ e,aH1 g (a9 i) e:=by
  intro i hi g hg;by_cases h:(g.length:Int)<=i
  ·exact .inr ⟨_,.var h⟩
  ·obtain ⟨n,rfl⟩:∃ n:Nat,i=n:=⟨i.toNat,a_⟩
   have hx:g[g.length - 1 - n]? = some (g[g.length - 1 - n]'a_):=W4 a_;exact .inl ⟨_,.var a_ hx,hg _ (bo8 _)⟩
 have nd:∀ (k:Int) (ty:Ty) (l:List Tm) (n:Int),arity k=some n->(l.length:Int)=n->(k==1)=false->(k==2)=false->(typed k=true->TyG ty)->(∀ x∈l,∀ g:List Ty,(∀ y∈g,TyG y)->(∃ s,l7 TyG g x s/\TyG s)\/∃ e,aH1 g x e) ->
   ∀ g:List Ty,(∀ y∈g,TyG y)->(∃ s,l7 TyG g (tmT k ty l) s/\TyG s)\/∃ e,aH1 g (tmT k ty l) e:=by
  intro k ty l n ha hl k1 k2 ht ih g hg;rcases cb2 l (fun x hx=>ih x hx g hg) with ⟨ts,a1,a2,a3⟩|⟨ts,x,e,a1,a2,a4,a3⟩
  ·rcases cr7 (ts:=ts) ha k1 k2 a_ ht a2 with ⟨s,b1,b2⟩|⟨e,b1⟩
   ·grind [l7.node]
   ·exact .inr ⟨e,.node a1 a2 a3 b1⟩
  ·refine .inr ⟨e,.arg k1 k2 ?_ a4 a3 a1 a2⟩
   have:n<=3:=by
    unfold arity at ha;split at ha
    ·cases ha
    ·have:k=1\/k=2\/k=3\/k=4\/k=5\/k=6\/k=7\/k=8\/k=9\/k=10\/k=11\/k=12\/k=13:=by omega
     rcases this with rfl|rfl|rfl|rfl|rfl|rfl|rfl|rfl|rfl|rfl|rfl|rfl|rfl<;>simp [arities] at ha<;>omega
   omega
 induction h with
 | @plain k l a ha hl ht _ ih =>
  intro g hg;by_cases k1:k=1
  ·subst k1
   simp [arity,arities] at ha;obtain rfl:l=[]:=ci9 a_;exact var 0 a_ g hg
  ·have k2:(k==2)=false:=by
    cases e:(k==2) with
    | false=>rfl
    | true=>rw [L1] at e;subst e;cases ht
   exact nd k (.mk 0 []) l a ha hl (by simpa using k1) k2 (fun e=>by rw [ht] at e;cases e) ih g hg
 | @var i hi=>exact var i hi
 | @typd k ty l a ha hl ht hty _ ih =>
  intro g hg;by_cases k2:k=2
  ·subst k2
   simp [arity,arities] at ha;obtain ⟨b,rfl⟩:∃ b,l=[b]:=bV1.1 a_;rcases ih b b_ (g++[ty]) (by grind) with ⟨s,a1,a2⟩|⟨e,a1⟩
   ·by_cases h:63<E5 ty+E5 s
    ·exact .inr ⟨_,.lamS a1 hty a2 h⟩
    ·have:=TyG.bE3 hty.1 a2.1 a_
     exact .inl ⟨_,.lam this a1,this⟩
   ·exact .inr ⟨_,.lamE hty a1⟩
  ·have k1:(k==1)=false:=by
    cases e:(k==1) with
    | false=>rfl
    | true=>rw [L1] at e;subst e;cases ht
   exact nd k ty l a ha hl k1 (by simpa using k2) (fun _=>hty) ih g hg
inductive aZ2:List Ty->Fm->Int->Prop
 | eq1 {g:List Ty} {x y:Tm} {e:Int}:aH1 g x e->aZ2 g (u6 x y) e
 | eq1T {g:List Ty} {x y:Tm} {s:Ty}:l7 TyG g x s->TyG s->s≠c8->aZ2 g (u6 x y) 7
 | eq2 {g:List Ty} {x y:Tm} {e:Int}:l7 TyG g x c8->aH1 g y e->aZ2 g (u6 x y) e
 | eq2T {g:List Ty} {x y:Tm} {s:Ty}:l7 TyG g x c8->l7 TyG g y s->TyG s->s≠c8->aZ2 g (u6 x y) 7
 | two1 {g:List Ty} {k:Int} {a b:Fm} {e:Int} (hk:k=2\/k=3):aZ2 g a e->aZ2 g (o8 k a b) e
 | two2 {g:List Ty} {k:Int} {a b:Fm} {e:Int} (hk:k=2\/k=3):R4 TyG g a->aZ2 g b e->aZ2 g (o8 k a b) e
 | q {g:List Ty} {k:Int} {s:Ty} {a:Fm} {e:Int} (hk:k=4\/k=5\/k=6\/k=7):TyG s->aZ2 (g++[s]) a e->aZ2 g (fmQ k s a) e
variable {f:Fm}
theorem aZ2.ne (h:aZ2 g f e):(e != 0)=true:=by
 induction h with
 | eq1 h=>exact h.ne
 | eq1T _ _ _=>rfl
 | eq2 _ h=>exact h.ne
 | eq2T _ _ _ _=>rfl
 | two1 _ _ ih=>exact ih
 | two2 _ _ _ ih=>exact ih
 | q _ _ _ ih=>exact ih
variable {u:Bool}
theorem dc5 (h:FmG u f):∀ g:List Ty,(∀ y∈g,TyG y)->R4 TyG g f\/∃ e,aZ2 g f e:=by
 induction h with
 | @eq x y hx hy =>
  intro g hg;rcases bB0 hx g hg with ⟨s,a1,a2⟩|⟨e,a1⟩
  ·by_cases h:s=c8
   ·subst h
    rcases bB0 hy g hg with ⟨s,b1,b2⟩|⟨e,b1⟩
    ·by_cases h:s=c8
     ·subst h;exact .inl (.eq a1 b1)
     ·exact .inr ⟨_,.eq2T a1 b1 b2 h⟩
    ·exact .inr ⟨_,.eq2 a1 b1⟩
   ·exact .inr ⟨_,.eq1T a1 a2 h⟩
  ·exact .inr ⟨_,.eq1 a1⟩
 | @two k a b hk _ _ ih1 ih2 =>
  intro g hg;rcases ih1 g hg with h1|⟨e,h1⟩
  ·rcases ih2 g hg with h2|⟨e,h2⟩
   ·exact .inl (.two hk h1 h2)
   ·exact .inr ⟨_,.two2 hk h1 h2⟩
  ·exact .inr ⟨_,.two1 hk h1⟩
 | @q k s a hk hs _ ih =>
  intro g hg;have hk':k=4\/k=5\/k=6\/k=7:=by rcases hk with h|h|⟨_,h|h⟩<;>simp [h]
  rcases ih (g++[s]) (by grind) with h1|⟨e,h1⟩
  ·exact .inl (.q hk' h1)
  ·exact .inr ⟨_,.q hk' hs h1⟩
theorem dz4 {b:Ty} (h:a≠b):Ty.same a b=false:=by
 grind [Ty.N6]
theorem TyG.dO3 {b:Ty} (h:TyG a) (hn:∀ s,a≠x9 b s):(a.kind != 4)=true\/∃ x y,a=x9 x y/\x≠b/\TyG x:=by
 rcases h.cn2 with rfl|rfl|rfl|⟨x,y,rfl,_⟩|⟨x,y,rfl,hx,hy⟩
 ·exact .inl rfl
 ·exact .inl rfl
 ·exact .inl rfl
 ·exact .inl rfl
 grind
theorem TyG.cC7 (h:TyG a) (hn:∀ x y,a≠B6 x y):(a.kind != 3)=true:=by
 rcases h.cn2 with rfl|rfl|rfl|⟨x,y,rfl,_⟩|⟨x,y,rfl,hx,hy⟩
 ·rfl
 ·rfl
 ·rfl
 ·grind
 ·rfl
theorem TyG.dg3 (h:TyG a) (hn:a≠c8):(a.kind != 1)=true:=by
 rcases h.cn2 with rfl|rfl|rfl|⟨x,y,rfl,_⟩|⟨x,y,rfl,hx,hy⟩
 ·exact absurd rfl hn
 all_goals rfl
theorem FmG.eqn {x:Tm} (h:FmG u (u6 x y)):TmG x/\TmG y:=by
 cases h<;>grind [u6,o8,fmQ]
variable {a b:Fm}
theorem FmG.dA5 (h:FmG u (o8 k a b)) (hk:k=2\/k=3):FmG u a/\FmG u b:=by
 cases h<;>grind [u6,o8,fmQ]
theorem FmG.qA (h:FmG u (fmQ k s a)) (hk:k=4\/k=5\/k=6\/k=7):FmG u a:=by
 cases h<;>grind [u6,fmQ,o8]
variable {Q:Ty->Prop}
theorem P5.uniq {ty s':Ty} {l:List Ty} (h:P5 Q k ty l s) (h':P5 Q k ty l s'):s=s':=by
 cases h<;>cases h'<;>rfl
theorem l7.uniq (h:l7 Q g t s):∀ {s':Ty},l7 Q g t s'->s=s':=by
 induction h with
 | @var g i t hi h =>
  intro s' h';generalize hz:a9 (i:Int)=z at h';cases h' with
  | @var _ j _ hj h2 =>
   grind [a9]
  | lam=>simp [a9,tmT] at hz
  | n0 hN=>obtain ⟨rfl,_⟩:=hz;cases hN
  | n1 hN=>simp [a9,tmT] at hz
  | n2 hN=>simp [a9,tmT] at hz
  | n3 hN=>simp [a9,tmT] at hz
 | @lam g a b t hq h ih =>
  intro s' h';generalize hz:tmT 2 a [t]=z at h';cases h' with
  | var=>simp [a9,tmT] at hz
  | @lam _ a' b' t' hq' h2 =>
   grind [tmT]
  | n0 hN=>simp [tmT] at hz
  | n1 hN=>obtain ⟨rfl,_⟩:=hz;cases hN
  | n2 hN=>simp [tmT] at hz
  | n3 hN=>simp [tmT] at hz
 | @n0 g k ty s hN =>
  intro s' h';generalize hz:tmT k ty []=z at h';cases h' with
  | var=>obtain ⟨rfl,_⟩:=hz;cases hN
  | lam=>simp [tmT] at hz
  | n0 hN' =>
   obtain ⟨rfl,rfl⟩:=hz;exact hN.uniq hN'
  | n1 hN=>simp [tmT] at hz
  | n2 hN=>simp [tmT] at hz
  | n3 hN=>simp [tmT] at hz
 | @n1 g k ty s a x hN _ ih =>
  intro s' h';generalize hz:tmT k ty [x]=z at h';cases h' with
  | var=>simp [a9,tmT] at hz
  | lam=>obtain ⟨rfl,_⟩:=hz;cases hN
  | n0 hN'=>simp [tmT] at hz
  | n1 hN' hx =>
   obtain ⟨rfl,rfl,rfl⟩:=hz;rw [<- ih hx] at hN';exact hN.uniq hN'
  | n2 hN=>simp [tmT] at hz
  | n3 hN=>simp [tmT] at hz
 | @n2 g k ty s a b x y hN _ _ ih1 ih2 =>
  intro s' h';generalize hz:tmT k ty [x,y]=z at h';cases h' with
  | var=>simp [a9,tmT] at hz
  | lam=>simp [tmT] at hz
  | n0 hN'=>simp [tmT] at hz
  | n1 hN=>simp [tmT] at hz
  | n2 hN' hx hy =>
   obtain ⟨rfl,rfl,rfl,rfl⟩:=hz;rw [<- ih1 hx,<- ih2 hy] at hN';exact hN.uniq hN'
  | n3 hN=>simp [tmT] at hz
 | @n3 g k ty s a b c x y z hN _ _ _ ih1 ih2 ih3 =>
  intro s' h';generalize hz:tmT k ty [x,y,z]=w at h';cases h' with
  | var=>simp [a9,tmT] at hz
  | lam=>simp [tmT] at hz
  | n0 hN'=>simp [tmT] at hz
  | n1 hN=>simp [tmT] at hz
  | n2 hN=>simp [tmT] at hz
  | n3 hN' hx hy hw =>
   obtain ⟨rfl,rfl,rfl,rfl,rfl⟩:=hz;rw [<- ih1 hx,<- ih2 hy,<- ih3 hw] at hN';exact hN.uniq hN'
theorem l7.bb9 {ty:Ty} {x:Tm} (h:l7 Q g (tmT 3 ty [x,y]) s):∃ a,l7 Q g x (x9 a s)/\l7 Q g y a:=by
 generalize hz:tmT 3 ty [x,y]=z at h;cases h with
 | var=>simp [a9,tmT] at hz
 | lam=>simp [tmT] at hz
 | n0 hN'=>simp [tmT] at hz
 | n1 hN=>simp [tmT] at hz
 | n2 hN' hx hy =>
  obtain ⟨rfl,rfl,rfl,rfl⟩:=hz;cases hN';exact ⟨_,hx,hy⟩
 | n3 hN=>simp [tmT] at hz
theorem Dc.dw4 (h:Dc g (o8 k a b)):Dc g a/\Dc g b:=by
 cases h<;>grind [o8,u6,ac5,fmQ]
theorem R4.df1 (h:R4 Q g (o8 k a b)):R4 Q g a:=by
 cases h<;>grind [o8,u6,fmQ]
theorem R4.dw3 {x:Tm} (h:R4 Q g (u6 x y)):l7 Q g x c8/\l7 Q g y c8:=by
 cases h<;>grind [u6,o8,fmQ]
theorem Dc.of (h:R4 TyG g f):FmG true f->f.fl.d=true->g.length+s6 f<=50000->Dc g f:=by
 induction h with
 | eq h1 h2=>intro gf _ _;exact .eq gf.eqn.1 gf.eqn.2 h1 h2
 | @two g k a b hk h1 h2 ih1 ih2 =>
  intro gf hd hb;rw [y8] at hb;rw [Fm.bR1 hk] at hd;simp only [A3] at hd;exact .two hk (ih1 (gf.dA5 hk).1 hd.1 a_) (ih2 (gf.dA5 hk).2 hd.2 a_)
 | @q g k s a hk h1 ih =>
  intro gf hd hb;rw [G6] at hb;have h4:4<=(fmQ k s a).kind:=by
   have:(fmQ k s a).kind=k:=rfl;omega
  cases hbn:T8 (fmQ k s a) with
  | false=>rw [Fm.dD8 h4 rfl hbn] at hd;grind
  | true =>
   obtain ⟨all,q,y,e,gq,gy,hc⟩:=gf.bnd hbn;rw [e] at hd ⊢;have ga:=gf.qA;obtain ⟨rfl,rfl,rfl⟩:=e;have hk2:(if all then 3 else 2:Int)=2\/(if all then 3 else 2:Int)=3:=by cases all<;>simp
   have ha:(o8 (if all then 3 else 2) (V5 (a9 0) q) y).fl.d=y.fl.d:=by
    rw [Fm.bR1 hk2];unfold V5;rw [Fm.co1];simp
   rw [y8,bx7] at hb;obtain ⟨t1,_⟩:=h1.df1.dw3;obtain ⟨a1,t2,t3⟩:=l7.bb9 t1;obtain ⟨a2,t4,t5⟩:=l7.bb9 t2;have:=t4.uniq l7.sub;simp only [x9,Ty.mk.injEq,aL7,ag2,ag3] at this;have ho:=gq.ap4 a_ (t3.least _ a_ (by simp;omega)) (a:=0) a_ a_;have hq0:q.count 0=0:=by omega
   rw [bO8 hq0] at hd;have d2:=(ih (ga hk) (by rw [ha];exact hd) (by rw [y8,bx7];simp;omega)).dw4.2
   grind [bnd]
theorem bF1 (h:TmW t) (i:Nat):TmW (ta t i):=by
 unfold ta;cases hh:t.args[i]? with
 | none=>grind [aC2]
 | some x=>rw [bN0,hh];exact h.arg (Q7 hh)
theorem dQ1 {b:Int}:∀ (t:Tm) (fr:Int),TmW t->TmW (t.up b fr):=by
 intro t
 induction t using Tm.ind with|h t ih=>?_
 intro fr ht;rw [Tm.aL5];refine .mk _ _ _ _ ht.ty (by rw [ao2];exact ht.len) ?_;intro x hx;obtain ⟨y,hy,rfl⟩:=G5.1 hx;exact ih y hy _ (ht.arg hy)
theorem dA4 {s:Tm} (hs:TmW s) {a:Int}:∀ (t:Tm) (d:Int),TmW t->TmW (D6 s a t d):=by
 intro t
 induction t using Tm.ind with|h t ih=>?_
 intro d ht;rw [bd6]
 repeat' split
 ·exact dQ1 _ _ hs
 ·exact A6 _
 ·exact ht
 ·refine .mk _ _ _ _ ht.ty (by rw [ao2];exact ht.len) ?_
  intro x hx;obtain ⟨y,hy,rfl⟩:=G5.1 hx;exact ih y hy _ (ht.arg hy)
theorem eb2 (h:TmW t):TmW t.red:=by
 have w0:=bF1 h 0;have w1:=bF1 h 1;have w2:=bF1 h 2;unfold Tm.red
 repeat' split
 ·exact dA4 w1 _ _ (bF1 w0 0)
 ·exact w0
 ·exact G9 (G9 w1 (bF1 w2 0)) (bj0 h.ty w0 w1 (bF1 w2 0))
 ·exact w0
 ·exact G9 (G9 (G9 w1 (bF1 w2 0)) (bF1 w2 1)) (bj0 h.ty w0 w1 (bF1 w2 1))
 all_goals grind [bF1]
mutual
theorem dO4 {gr:Tm->Int} {room:Int}:∀ t:Tm,TmW t->TmW (t.nx gr room).1
 | .mk k i ty l,h=>by
  rw [Tm.nx];split
  ·grind [aC2,eb2]
  ·cases hl:Tm.nxL gr room l with
   | none=>exact h
   | some p =>
    obtain ⟨h1,h2⟩:=dE9 l (fun x hx=>h.arg hx) p hl;exact .mk _ _ _ _ h.ty (by rw [h1];exact h.len) h2
theorem dE9 {gr:Tm->Int} {room:Int}:∀ l:List Tm,(∀ x∈l,TmW x)->∀ p,Tm.nxL gr room l=some p->p.1.length=l.length/\∀ x∈p.1,TmW x
 | [],_,p,h=>by rw [Tm.nxL] at h;cases h
 | a::l,hw,p,h=>by
  rw [Tm.nxL] at h;split at h
  ·cases h
   refine ⟨b_,fun x hx=>?_⟩;rcases D9.1 hx with rfl|hx
   ·exact dO4 a (hw a b_)
   ·exact hw x (by simp [hx])
  ·cases hl:Tm.nxL gr room l with
   | none=>rw [hl] at h;cases h
   | some q =>
    rw [hl] at h;cases h;obtain ⟨h1,h2⟩:=dE9 l (fun x hx=>hw x (by simp [hx])) q hl;refine ⟨by simp [h1],fun x hx=>?_⟩;rcases D9.1 hx with rfl|hx
    ·exact hw _ b_
    ·exact h2 x hx
end
def bE9 (gr:Tm->Int) (room:Int) (l:List Tm) (i:Nat):Prop :=
 Tm.nxL gr room l=match Tm.nxL gr room (l.drop i) with|some p=>some (l.take i++p.1,p.2)|none=>none
variable {l:List Tm}
theorem dg4:bE9 gr room l 0:=by
 grind [bE9]
variable {i:Nat}
theorem cO4 {x:Tm} (h:bE9 gr room l i) (hx:l[i]? = some x) (hn:(x.nx gr room).2.1=false):bE9 gr room l (i+1):=by
 unfold bE9 at h ⊢;rw [s9 hx,Tm.nxL,hn] at h
 grind [List.take_add_one]
theorem cs6 {x:Tm} (h:bE9 gr room l i) (hx:l[i]? = some x) (hn:(x.nx gr room).2.1=true) :
  Tm.nxL gr room l=some (l.set i (x.nx gr room).1,(x.nx gr room).2.2):=by
 unfold bE9 at h;rw [s9 hx,Tm.nxL,hn] at h
 grind [List.set_eq_take_append_cons_drop]
theorem dg5 (h:bE9 gr room l l.length):Tm.nxL gr room l=none:=by
 grind [bE9,Tm.nxL]
theorem ea3 (hr:t.root=false) :
  t.nx gr room=match Tm.nxL gr room t.args with|some p=>(.mk t.kind t.index t.type p.1,true,p.2)|none=>(t,false,true):=by
 obtain ⟨k,i,ty,l⟩:=t;rw [Tm.nx,hr];rfl
theorem l7.args (h:l7 Q g t s):∀ x∈t.args,∃ g' s',l7 Q g' x s':=by
 cases h<;>grind [a9,Tm.args,tmT]
theorem cA5 (l:List Tm):(l.map Tm.cells).flatten.length=l.length * 5:=by
 induction l<;>grind [Tm.w9]
theorem ci1 {x:Tm} {z:List V} (hi:i<l.length) :
  (G8 ((l.map Tm.cells).flatten++z) (i * 5) x.cells).take (l.length * 5)=((l.set i x).map Tm.cells).flatten:=by
 have hf:=cA5 l;have hx:=Tm.w9 x;have e1:((l.map Tm.cells).flatten++z).length=l.length * 5+z.length:=by rw [F8,hf]
 rw [bi5 x.cells (i * 5) _ a_,hx];have ht:((l.take i).map Tm.cells).flatten.length=i * 5:=by rw [cA5,ae6,aZ0 a_]
 have hd:(l.map Tm.cells).flatten=((l.take i).map Tm.cells).flatten++(l[i].cells++((l.drop (i+1)).map Tm.cells).flatten):=by
  conv=>lhs;rw [<- cw6 i l]
  rw [U0,List.flatten_append,bN1 hi,E0,bo6]
 have hl:=Tm.w9 l[i];rw [cw3,B8 hi,U0,List.flatten_append,E0,bo6]
 grind [List.take_left,List.length_append,List.drop_left]
end GoAbs
namespace GoAbs
def nxR (t:Tm):Option (List Tm × Bool)->Tm × Bool × Bool
 | some p=>(.mk t.kind t.index t.type p.1,true,p.2)
 | none=>(t,false,true)
variable {t:Tm}
theorem dO5 {gr:Tm->Int} {room:Int} (hr:t.root=false):t.nx gr room=nxR t (Tm.nxL gr room t.args):=by
 rw [ea3 hr];rfl
inductive Rdx:Int->Ty->List Tm->Tm->Prop
 | beta {ty ty':Ty} {b a:Tm}:Rdx 3 ty [tmT 2 ty' [b],a] (pIn a b 0)
 | rec0 {ty ty':Ty} {z f:Tm}:Rdx 6 ty [z,f,tmT 4 ty' []] z
 | recS {ty ty':Ty} {z f n:Tm}:Rdx 6 ty [z,f,tmT 5 ty' [n]] (tm0 3 [tm0 3 [f,n],tmT 6 ty [z,f,n]])
 | fold0 {ty ty':Ty} {z f:Tm}:Rdx 9 ty [z,f,tmT 7 ty' []] z
 | foldS {ty ty':Ty} {z f h l:Tm}:Rdx 9 ty [z,f,tmT 8 ty' [h,l]] (tm0 3 [tm0 3 [tm0 3 [f,h],l],tmT 9 ty [z,f,l]])
 | fst {ty ty':Ty} {x y:Tm}:Rdx 11 ty [tmT 10 ty' [x,y]] x
 | snd {ty ty':Ty} {x y:Tm}:Rdx 12 ty [tmT 10 ty' [x,y]] y
theorem Rdx.kind {k:Int} {ty:Ty} {l:List Tm} {r:Tm} (h:Rdx k ty l r):k=3\/k=6\/k=9\/k=11\/k=12:=by cases h<;>simp
theorem cL4 {u:Bool} {f:Fm} {s:Tm} (hf:FmG u f) (hs:TmG s) (zf:s6 f<=20000) (zs:a8 s<=20000) (h:(D8 f 0 s).2=0):D8 f 0 s=(I3 s 0 f 0,0)/\s6 (I3 s 0 f 0)<=4096:=by
 unfold D8 at h ⊢;have p:=N8 s;split at h
 ·grind
 ·split at h
  ·cases h
  ·split at h
   ·grind
   ·split at h
    ·cases h
    ·split at h
     ·cases h
     ·rename_i h5
      rw [y9 h5];have o:=ay7 f 0;rw [hf.ax3 0 a_ a_,f.aa2 _ (hf.ah1 a_),s.aa2 _ (hs.ah1 a_),P9 a_ a_ a_ a_,dx5 a_ a_ a_ a_] at h5;have hm:(Q1 f 0:Int) * ((a8 s:Int) - 1)=((Q1 f 0 * (a8 s - 1):Nat):Int):=by
       rw [Int.natCast_mul];congr 1;omega
      have hb:Q1 f 0 * (a8 s - 1)<=20000 * 20000:=bV9 a_ a_;rw [hm,w8 a_ a_ a_ a_] at h5;rw [hf.az0 0 a_ a_]
      grind
theorem cC6 {steps:Int}:∀ (k:Nat) (n:Int) (t:Tm),TmW t->∀ r,aE7 steps k n t=some r->TmW r.1
 | 0,n,t,_,r,h=>by simp [aE7] at h
 | k+1,n,t,hw,r,h=>by
  rw [aE7] at h;split at h
  ·cases h;exact hw
  ·split at h
   ·cases h;exact aC2
   ·split at h
    ·cases h;exact aC2
    ·exact cC6 k (n+1) _ (dO4 t hw) r h
theorem dg2 (h:TmW t):TmW (norm t).1:=cC6 1001 0 t h _ (norm_eq t)
end GoAbs
namespace GoAbs
open Go Go.ChangeShapes Go.WideShapes Go.RowKit
def I64 (n:Int):Prop:=(Lit.int .i64 n).wf=true
inductive TyN:Ty->Prop
 | mk {k:Int} {l:List Ty} (h:I64 k) (r:∀ x∈l,TyN x):TyN (.mk k l)
inductive TmN:Tm->Prop
 | mk {k i:Int} {t:Ty} {l:List Tm} (h:I64 k) (h':I64 i) (ht:TyN t) (r:∀ x∈l,TmN x):TmN (.mk k i t l)
inductive FmN:Fm->Prop
 | mk {k:Int} {t:Ty} {ts:List Tm} {l:List Fm} (h:I64 k) (ht:TyN t) (hs:∀ x∈ts,TmN x) (r:∀ x∈l,FmN x):FmN (.mk k t ts l)
theorem bF7:I64 0:=by unfold I64;decide
instance:Inhabited {t:Ty // TyN t}:=⟨⟨.mk 0 [],.mk bF7 b_⟩⟩
instance:Inhabited {t:Tm // TmN t}:=⟨⟨.mk 0 0 (.mk 0 []) [],.mk bF7 bF7 (.mk bF7 b_) b_⟩⟩
instance:Inhabited {t:Fm // FmN t}:=⟨⟨.mk 0 (.mk 0 []) [] [],.mk bF7 (.mk bF7 b_) b_ b_⟩⟩
section
variable {H':Type} {enc:TypeId × Value->H'} {P:Program} {W:World} {base:Nat} {sp:Nat->Bool} {held:Bool}
end
mutual
def Tm.ak8:Tm->Int->Bool
 | .mk k i _ l,a=>(k==1&&i==a)||Tm.cc6 l (o9 a (m9 k))
def Tm.cc6:List Tm->Int->Bool
 | [],_=>false
 | t::l,a=>t.ak8 a||Tm.cc6 l a
end
theorem Tm.bI9:∀ (l:List Tm) (a:Int),Tm.cc6 l a=l.any fun x=>x.ak8 a
 | [],a=>by simp [Tm.cc6]
 | t::l,a=>by simp [Tm.cc6,Tm.bI9 l a]
theorem Tm.bb1 (t:Tm) (a:Int):t.ak8 a=((t.kind==1&&t.index==a)||t.args.any fun x=>x.ak8 (o9 a (m9 t.kind))):=by
 cases t;rw [Tm.ak8,Tm.bI9];rfl
theorem I64.lo {n:Int} (h:I64 n) : -9223372036854775808<=n:=by
 unfold I64 Lit.wf at h;simp only [A3,aW3] at h;exact h.1
theorem I64.hi {n:Int} (h:I64 n):n<=9223372036854775807:=by
 unfold I64 Lit.wf at h;simp_all
theorem dP7 {i a b:Int} (hi:I64 i) (ha:0<=a) (hb:0<=b) (h:a+b<=1000000):(K5 i b==a)=(i==a+b):=by
 have h1:=hi.lo;have h2:=hi.hi;by_cases hw : -9223372036854775808<=i - b
 ·have e:K5 i b=i - b:=x7 rfl a_ a_
  grind
 ·have e:K5 i b=i - b+18446744073709551616:=by
   unfold K5 IntKind.wrap;have e1:(2:Int) ^ IntKind.i64.bits=18446744073709551616:=rfl;have e2:(2:Int) ^ (IntKind.i64.bits - 1)=9223372036854775808:=rfl;have e3:IntKind.i64.signed=true:=rfl;rw [e1,e2,e3];have e4:(i - b) % 18446744073709551616=i - b+18446744073709551616:=by omega
   simp only [e4,J7];rw [y9 (by simp;omega)]
  grind
theorem cK7:∀ t:Tm,TmN t->∀ a b n:Int,0<=a->0<=b->a+b+a8 t<=1000000->0<=n->n+a8 t<=1000000 ->
  n<=t.af2 (ab1 a) b n/\t.af2 (ab1 a) b n<=n+a8 t/\decide (t.af2 (ab1 a) b n>n)=t.ak8 (a+b):=by
 intro t
 induction t using Tm.ind with|h t ih=>?_
 intro hN a b n ha hb hs hn hns;have key:∀ (l:List Tm),(∀ x∈l,x∈t.args)->∀ b n:Int,0<=b->a+b+F7 l<=1000000->0<=n->n+F7 l<=1000000 ->
   n<=Tm.an9 (ab1 a) l b n/\Tm.an9 (ab1 a) l b n<=n+F7 l/\decide (Tm.an9 (ab1 a) l b n>n)=l.any fun x=>x.ak8 (a+b):=by
  intro l
  induction l with
  | nil=>grind [Tm.an9]
  | cons x l ihl =>
   intro hm b n hb hs hn hns;rw [Tm.an9];rw [F7] at hs hns;have hx:TmN x:=by cases hN with|mk _ _ _ r=>exact r x (hm x b_)
   obtain ⟨p1,p2,p3⟩:=ih x (hm x b_) hx a b n ha hb a_ hn a_;obtain ⟨q1,q2,q3⟩:=ihl (fun y hy=>hm y (by simp [hy])) b (x.af2 (ab1 a) b n) hb a_ a_ a_;refine ⟨a_,by rw [F7];omega,?_⟩;rw [aZ1,<- p3,<- q3,Bool.eq_iff_iff];simp only [bp0,aW3];omega
 obtain ⟨k,i,ty,l⟩:=t;have hi:I64 i:=by cases hN with|mk _ h' _ _=>exact h'
 rw [Tm.ca1,Tm.bb1];rw [a8] at hs hns ⊢;simp only [Tm.kind,Tm.index,Tm.args] at key ⊢;rcases cw4 (k==1) with k1|k1
 ·
  have hk:k=1:=by simpa using k1
  subst hk;have e2:((1:Int)==2)=false:=rfl;simp only [e2,ad1,p7,B2,r6,J7];have eb:o9 (a+b) (m9 1)=a+b:=by
   have e0:m9 1=0:=rfl;rw [e0,H4 a_ a_]
  have hc:ab1 a i b n=if (i==a+b)=true then n+1 else n:=by
   unfold ab1;rw [dP7 hi ha hb a_];split
   ·exact w8 a_ a_ a_ a_
   ·rfl
  rcases cw4 (i==a+b) with he|he
  ·
   obtain ⟨q1,q2,q3⟩:=key l (fun x hx=>hx) b (n+1) hb a_ a_ a_
   grind
  ·
   obtain ⟨q1,q2,q3⟩:=key l (fun x hx=>hx) b n hb a_ a_ a_
   grind
 ·
  rcases cw4 (k==2) with k2|k2
  ·
   have eb:o9 (a+b) (m9 k)=a+(b+1):=by
    have e0:m9 k=1:=by unfold m9;rw [k2];rfl
    rw [e0,w8 a_ a_ a_ a_];omega
   have eb':o9 b 1=b+1:=w8 a_ a_ a_ a_;obtain ⟨q1,q2,q3⟩:=key l (fun x hx=>hx) (b+1) n a_ a_ a_ a_
   grind
  ·
   have eb:o9 (a+b) (m9 k)=a+b:=by
    have e0:m9 k=0:=by unfold m9;rw [k2];rfl
    rw [e0,H4 a_ a_]
   obtain ⟨q1,q2,q3⟩:=key l (fun x hx=>hx) b n hb a_ a_ a_
   grind
theorem cM3 {t:Tm} (h:TmN t) (hs:a8 t<=900000):t.ak8 0=decide (t.count 0>0):=by
 obtain ⟨_,_,e⟩:=cK7 t h 0 0 0 a_ a_ a_ a_ a_;exact e.symm
end GoAbs
