/-
 The abstract layer: plain laws, further ones.
-/
import Derived.Test.YtmfhhhhnokhggaaGreatDoorAbsDd
set_option linter.unusedSimpArgs false
set_option linter.unusedVariables false
set_option linter.unusedSectionVars false
namespace GoAbs
open Go
theorem ao8 {n:Int} (h0:0<=n) (h1:n<=1000000000):I64 n:=by
 unfold I64 Lit.wf;have e1:IntKind.i64.min = -9223372036854775808:=rfl;have e2:IntKind.i64.max=9223372036854775807:=rfl
 grind
theorem TyF.N {t:Ty} (h:TyF t):TyN t:=by
 induction h with
 | nat=>exact .mk (ao8 a_ a_) b_
 | list=>exact .mk (ao8 a_ a_) b_
 | unit=>exact .mk (ao8 a_ a_) b_
 | pair _ _ h1 h2=>exact .mk (ao8 a_ a_) (by grind)
 | func _ _ h1 h2=>exact .mk (ao8 a_ a_) (by grind)
variable {k:Int}
theorem bk0 {a:Int} (h:arity k=some a):0<=k/\k<=13:=by
 grind [arity]
variable {t:Tm}
theorem TmG.N (h:TmG t):t.least 536870912=true->TmN t:=by
 induction h with
 | @plain k l a ha hl ht _ ih =>
  intro hm;rw [tm0,Tm.I6,A3] at hm;have:=bk0 ha;exact .mk (ao8 a_ a_) (ao8 a_ a_) (.mk (ao8 a_ a_) b_) (fun x hx=>ih x hx (Tm.G7.1 hm.2 x hx))
 | @var i hi =>
  intro hm;rw [a9,Tm.I6,A3] at hm;have:i<=536870912:=ah5 hm.1;exact .mk (ao8 a_ a_) (ao8 hi a_) (.mk (ao8 a_ a_) b_) b_
 | @typd k t l a ha hl ht hg _ ih =>
  intro hm;rw [tmT,Tm.I6,A3] at hm;have:=bk0 ha;exact .mk (ao8 a_ a_) (ao8 a_ a_) hg.1.N (fun x hx=>ih x hx (Tm.G7.1 hm.2 x hx))
theorem TmG.has (h:TmG t) (hm:t.least 536870912=true) (hs:a8 t<=900000):t.ak8 0=decide (t.count 0>0):=cM3 (h.N hm) hs
variable {s:Tm}
theorem dy1:∀ (n:Nat) {t:Tm},TmG t->a8 t<=n->∀ d:Int,0<=d->d+n<=100000->F6 t d=0->t.least 1000000000=true->t.rb (aU6 0 s) d=t.up (-1) (1+d):=by
 intro n
 induction n with
 | zero=>grind [N8]
 | succ n ih =>
  intro t gt hn d h0 hd ho hl
  revert hn ho hl
  refine gt.au1 (p:=fun t=>a8 t<=n+1->F6 t d=0->t.least 1000000000=true->t.rb (aU6 0 s) d=t.up (-1) (1+d)) ?_ ?_
  ·intro i hi _ ho hl
   have hi2:=cF4 hl;rw [a9,F6] at ho;have hne:i≠d:=by intro e;subst e;simp at ho
   rw [a9,Tm.rb,Tm.up];simp only [ad1,p7,aU6,J7,Tm.upL];rw [P9 a_ a_ a_ a_];have:(i - d==0)=false:=by simp;omega
   rw [this];by_cases hc:i>=1+d
   ·have e1:decide (i - d>0)=true:=by simp;omega
    have e2:decide (i>=1+d)=true:=by simp;omega
    have e3:K5 i 1=i - 1:=P9 a_ a_ a_ a_;have e4:o9 i (-1)=i - 1:=(w8 a_ a_ a_ a_).trans a_;rw [e1,e2,e3,e4];rfl
   ·have e1:decide (i - d>0)=false:=by simp;omega
    have e2:decide (i>=1+d)=false:=by simp;omega
    rw [e1,e2];rfl
  ·intro k ty l hk _ hg _ hn ho hl
   rw [a8] at hn;rw [Tm.least,A3] at hl;rw [F6,hk] at ho;have hr:=I8 k;rw [Tm.rb,Tm.aK1,Tm.up,Tm.Y4,hk,aN2 h0 a_];simp only [B2,r6,J6];rw [w8 a_ a_ a_ a_,show 1+d+m9 k=1+(d+m9 k) by omega];congr 1;refine aG2 fun y hy=>?_;have hoy:F6 y (d+m9 k)=0:=by
    have:∀ {l:List Tm},y∈l->O9 l (d+m9 k)=0->F6 y (d+m9 k)=0:=by
     intro l
     induction l with
     | nil=>intro h;simp at h
     | cons z l ihl =>
      grind [O9]
    exact this hy ho
   exact ih (hg y hy) (by have:=I9 hy;omega) _ a_ a_ hoy (Tm.G7.1 hl.2 y hy)
theorem cg1 {q:Tm} (gq:TmG q) (lq:q.least 536870912=true) (oq:F6 q 0=0) (zq:a8 q<=50000):q.up (-1) 1=ac0 q 0 s:=by
 have:=dy1 (s:=s) _ gq (w7 _) 0 a_ a_ oq (Z0 a_ _ lq);exact this.symm
variable {g:List Ty} {f:Fm}
theorem R4.least (h:R4 TyG g f):(g.length:Int)+s6 f<=500000000->f.least 536870912=true:=by
 induction h with
 | eq h1 h2 =>
  intro hb;rw [D7] at hb;exact aS8.2 ⟨h1.least _ a_ a_,h2.least _ a_ a_⟩
 | two hk _ _ h1 h2 =>
  grind [y8,bv8]
 | q hk _ h1 =>
  grind [G6,cB8]
variable {u:Bool}
theorem FmG.at7 {x:Fm} (h:FmG u f) (hx:x∈f.args):FmG u x:=by
 cases h<;>grind [u6,Fm.args,o8,fmQ]
theorem FmG.aC1 {x:Tm} (h:FmG u f) (hx:x∈f.a7):TmG x:=by
 cases h<;>grind [u6,Fm.a7,o8,fmQ]
variable {p:List DV} {a:Fm}
theorem S7.bm9 {s:Ty} {R:Prop} (h:S7 p (fmQ k s a) R) :
  ∃ (u:U) (P:u.val->Prop),u.ty=s/\(∀ x,S7 (⟨u,x⟩::p) a (P x))/\(((k=4\/k=6)/\R=∀ x,P x)\/((k=5\/k=7)/\R=∃ x,P x)):=by
 generalize hf:fmQ k s a=f at h;cases h with
 | eq=>grind [u6,fmQ]
 | and=>grind [fmQ,o8]
 | imp=>grind [fmQ,o8]
 | all hk h1 =>
  obtain ⟨rfl,rfl,_,rfl,_⟩:=hf;exact ⟨_,_,rfl,h1,.inl ⟨hk,rfl⟩⟩
 | ex hk h1 =>
  obtain ⟨rfl,rfl,_,rfl,_⟩:=hf;exact ⟨_,_,rfl,h1,.inr ⟨hk,rfl⟩⟩
variable {P:Prop}
theorem S7.uniq (h:S7 p f P):∀ {Q:Prop},S7 p f Q->(P↔Q):=by
 induction h with
 | @eq p x y m n h1 h2 =>
  intro Q h';obtain ⟨m',n',q1,q2,rfl⟩:=h'.eq_inv;have e1:=aO1 (h1.uniq q1);have e2:=aO1 (h2.uniq q2)
  grind
 | and _ _ i1 i2 =>
  intro Q h';obtain ⟨P',Q',q1,q2,⟨_,rfl⟩|⟨h3,_⟩⟩:=h'.aw8
  all_goals grind
 | imp _ _ i1 i2 =>
  intro Q h';obtain ⟨P',Q',q1,q2,⟨h3,_⟩|⟨_,rfl⟩⟩:=h'.aw8
  all_goals grind
 | @all p k u a P hk _ ih =>
  intro Q h';obtain ⟨u',P',eu,q1,⟨_,rfl⟩|⟨h3,_⟩⟩:=h'.bm9
  all_goals grind [U.inj]
 | @ex p k u a P hk _ ih =>
  intro Q h';obtain ⟨u',P',eu,q1,⟨h3,_⟩|⟨_,rfl⟩⟩:=h'.bm9
  all_goals grind [U.inj]
theorem R4.ed8 (h:R4 TyG g f):FmG true f->∀ {p:List DV},ao7 p g->∃ P,S7 p f P:=by
 induction h with
 | @eq g x y h1 h2 =>
  intro _ p hp;obtain ⟨u1,d1,e1,q1⟩:=h1.den hp;obtain ⟨u2,d2,e2,q2⟩:=h2.den hp;obtain rfl:=U.au9 e1;obtain rfl:=U.au9 e2;exact ⟨_,.eq q1 q2⟩
 | @two g k a b hk _ _ i1 i2 =>
  intro hG p hp;obtain ⟨P,q1⟩:=i1 (hG.at7 (by simp [o8,Fm.args])) hp;obtain ⟨Q,q2⟩:=i2 (hG.at7 (by simp [o8,Fm.args])) hp;rcases hk with rfl|rfl
  ·exact ⟨_,.and q1 q2⟩
  ·exact ⟨_,.imp q1 q2⟩
 | @q g k s a hk _ ih =>
  intro hG p hp;have hs:TyF s:=by
   generalize e:fmQ k s a=f at hG;cases hG with
   | eq=>grind [u6,fmQ]
   | two=>grind [fmQ,o8]
   | q _ h2=>simp only [fmQ,Fm.mk.injEq] at e;rw [e.2.1];exact h2.1
  obtain ⟨u,rfl⟩:=hs.U;have hx:∀ x:u.val,∃ P,S7 (⟨u,x⟩::p) a P:=fun x=>ih (hG.at7 (by simp [fmQ,Fm.args])) (hp.snoc x);have hP:∃ P:u.val->Prop,∀ x,S7 (⟨u,x⟩::p) a (P x):=⟨fun x=>Classical.choose (hx x),fun x=>bB9 (hx x)⟩;obtain ⟨P,hP⟩:=hP;rcases hk with rfl|rfl|rfl|rfl
  ·exact ⟨_,.all (.inl rfl) hP⟩
  ·exact ⟨_,.ex (.inl rfl) hP⟩
  ·exact ⟨_,.all (.inr rfl) hP⟩
  ·exact ⟨_,.ex (.inr rfl) hP⟩
def B0 (p:List DV) (f:Fm):Prop:=∃ P,S7 p f P/\P
def cj5 (p:List DV) (f:Fm):Prop:=∃ P,S7 p f P
theorem B0.iff (h:S7 p f P):B0 p f↔P:=⟨fun ⟨Q,h1,h2⟩=>(h1.uniq h).1 h2,fun hP=>⟨P,h,hP⟩⟩
theorem B0.bg5 (h:B0 p f):cj5 p f:=let ⟨P,h1,_⟩:=h;⟨P,h1⟩
variable {y:Tm}
theorem B0.eq_iff {x:Tm}:B0 p (u6 x y)↔∃ n:Nat,Den p x .nat n/\Den p y .nat n:=by
 constructor
 ·rintro ⟨P,h1,h2⟩
  obtain ⟨m,n,q1,q2,rfl⟩:=h1.eq_inv
  grind
 ·rintro ⟨n,h1,h2⟩
  exact ⟨_,.eq h1 h2,rfl⟩
variable {b:Fm}
theorem B0.bO2:B0 p (o8 2 a b)↔B0 p a/\B0 p b:=by
 constructor
 ·rintro ⟨R,h1,h2⟩
  obtain ⟨P,Q,q1,q2,⟨_,rfl⟩|⟨h3,_⟩⟩:=h1.aw8
  ·exact ⟨⟨P,q1,h2.1⟩,⟨Q,q2,h2.2⟩⟩
  ·cases h3
 ·rintro ⟨⟨P,h1,h2⟩,⟨Q,h3,h4⟩⟩
  exact ⟨_,.and h1 h3,h2,h4⟩
theorem B0.dZ2 (h:B0 p (o8 3 a b)) (ha:B0 p a):B0 p b:=by
 obtain ⟨R,h1,h2⟩:=h;obtain ⟨P,Q,q1,q2,⟨h3,_⟩|⟨_,rfl⟩⟩:=h1.aw8
 all_goals grind [B0.iff]
theorem B0.dZ3 (da:cj5 p a) (db:cj5 p b) (h:B0 p a->B0 p b):B0 p (o8 3 a b):=by
 obtain ⟨P,h1⟩:=da;obtain ⟨Q,h2⟩:=db;exact ⟨_,.imp h1 h2,fun hP=>(B0.iff h2).1 (h ⟨P,h1,hP⟩)⟩
theorem B0.aZ4 {u:U} (hk:k=4\/k=6):B0 p (fmQ k u.ty a)↔∀ x:u.val,B0 (⟨u,x⟩::p) a:=by
 constructor
 ·rintro ⟨R,h1,h2⟩ x
  obtain ⟨u',P',eu,q1,⟨_,rfl⟩|⟨h3,_⟩⟩:=h1.bm9
  ·obtain rfl:=U.inj eu
   exact ⟨_,q1 x,h2 x⟩
  ·omega
 ·intro h
  have hP:∃ P:u.val->Prop,∀ x,S7 (⟨u,x⟩::p) a (P x)/\P x:=⟨fun x=>Classical.choose (h x),fun x=>bB9 (h x)⟩;obtain ⟨P,hP⟩:=hP;exact ⟨_,.all hk fun x=>(hP x).1,fun x=>(hP x).2⟩
theorem B0.dU0 {u:U} (hk:k=5\/k=7) (h:B0 p (fmQ k u.ty a)):∃ x:u.val,B0 (⟨u,x⟩::p) a:=by
 obtain ⟨R,h1,h2⟩:=h;obtain ⟨u',P',eu,q1,⟨h3,_⟩|⟨_,rfl⟩⟩:=h1.bm9
 ·omega
 ·obtain rfl:=U.inj eu
  obtain ⟨x,hx⟩:=h2;exact ⟨x,_,q1 x,hx⟩
theorem B0.dU1 {u:U} (hk:k=5\/k=7) (hd:∀ x:u.val,cj5 (⟨u,x⟩::p) a) {x:u.val} (h:B0 (⟨u,x⟩::p) a):B0 p (fmQ k u.ty a):=by
 have hP:∃ P:u.val->Prop,∀ x,S7 (⟨u,x⟩::p) a (P x):=⟨fun x=>Classical.choose (hd x),fun x=>bB9 (hd x)⟩;obtain ⟨P,hP⟩:=hP;exact ⟨_,.ex hk hP,x,(B0.iff (hP x)).1 h⟩
variable {m:List DV}
theorem S7.upl (h:S7 p f P):∀ l r:List DV,p=l++r->p.length+s6 f<=100000->m.length<=100000 ->
  S7 (l++m++r) (f.up (m.length:Int) (l.length:Int)) P:=by
 induction h with
 | eq h1 h2 =>
  intro l r e hb hm;rw [D7] at hb;exact .eq (h1.upl l r e a_ hm) (h2.upl l r e a_ hm)
 | and _ _ i1 i2 =>
  grind [y8,bw1,and]
 | imp _ _ i1 i2 =>
  grind [y8,bw1,imp]
 | @all p k u a P hk _ ih =>
  intro l r e hb hm;rw [G6] at hb;have hl:l.length<=100000:=by have:=congrArg List.length e;simp at this;omega
  rw [bw3 a_ a_ a_];refine .all hk fun x=>?_;have:=ih x (⟨u,x⟩::l) r (by simp [e]) (by simp;omega) hm;simpa using this
 | @ex p k u a P hk _ ih =>
  intro l r e hb hm;rw [G6] at hb;have hl:l.length<=100000:=by have:=congrArg List.length e;simp at this;omega
  rw [bw3 a_ a_ a_];refine .ex hk fun x=>?_;have:=ih x (⟨u,x⟩::l) r (by simp [e]) (by simp;omega) hm;simpa using this
theorem S7.inn {a:U} {v:a.val} (h:S7 p f P):∀ l r:List DV,p=l++⟨a,v⟩::r->Den r s a v ->
  p.length+s6 f<=50000->a8 s<=50000->S7 (l++r) (I3 s 0 f (l.length:Int)) P:=by
 induction h with
 | eq h1 h2 =>
  intro l r e hs hb hz;rw [D7] at hb;exact .eq (h1.inn l r e hs a_ hz) (h2.inn l r e hs a_ hz)
 | and _ _ i1 i2 =>
  grind [y8,ak1,Z8,H4,and]
 | imp _ _ i1 i2 =>
  grind [y8,ak1,Z8,H4,imp]
 | @all p k u b P hk _ ih =>
  intro l r e hs hb hz;rw [G6] at hb;have hq:u9 k=1:=by rcases hk with rfl|rfl<;>rfl
  refine .all hk fun x=>?_
  grind [w8]
 | @ex p k u b P hk _ ih =>
  intro l r e hs hb hz;rw [G6] at hb;have hq:u9 k=1:=by rcases hk with rfl|rfl<;>rfl
  grind [aS9,ex,w8]
theorem B0.dQ4 (hd:cj5 p f) (hb:p.length+s6 f<=100000) (hm:m.length<=100000):B0 (m++p) (f.up (m.length:Int) 0)↔B0 p f:=by
 obtain ⟨P,h⟩:=hd;have:=h.upl (m:=m) [] p rfl hb hm
 grind [B0.iff]
theorem B0.cE0 {a:U} {v:a.val} (hd:cj5 (⟨a,v⟩::p) f) (hs:Den p s a v) (hb:p.length+1+s6 f<=50000) (hz:a8 s<=50000) :
  B0 p (I3 s 0 f 0)↔B0 (⟨a,v⟩::p) f:=by
 obtain ⟨P,h⟩:=hd;have:=h.inn [] p rfl hs a_ hz
 grind [B0.iff]
variable {l:List Tm}
theorem af4 {ty:Ty} {n:Nat} (h1:(k==1)=false) (h2:m9 k=0) (hn:n<=1000000):(tmT k ty l).ak8 (n:Int)=l.any fun x=>x.ak8 (n:Int):=by
 grind [Tm.bb1,tmT,Tm.kind,Tm.args,H4]
theorem cA7 {ty:Ty} {n:Nat} (hn:n<=1000000):(tmT 2 ty [t]).ak8 (n:Int)=t.ak8 ((n+1:Nat):Int):=by
 grind [m9,Tm.bb1,tmT,Tm.kind,Tm.args,w8]
theorem cA8 {i:Int} {n:Nat}:(a9 i).ak8 (n:Int)=(i==(n:Int)):=by
 rw [Tm.bb1];simp [a9,Tm.kind,Tm.index,Tm.args]
theorem cC2 {i n:Nat} (hi:i<=1000000) (hn:n<=1000000):(a9 (i:Int)).up (-1) ((n:Int)+1)=a9 (if n+1<=i then ((i - 1:Nat):Int) else (i:Int)):=by
 rw [a9,Tm.up,Tm.upL];simp only [ad1,J7];by_cases h:n+1<=i
 ·rw [B8 h,bV8 a_]
  have e:o9 (i:Int) (-1)=((i - 1:Nat):Int):=x7 a_ a_ a_;rw [e];rfl
 ·rw [y9 h,decide_eq_false a_]
  rfl
theorem ac9 {ty:Ty} {b:Int} {n:Nat} (h1:(k==1)=false) (h2:m9 k=0) (hn:n<=100000):(tmT k ty l).up b ((n:Int)+1)=tmT k ty (l.map fun x=>x.up b ((n:Int)+1)):=by
 have:=aw9 (ty:=ty) (l:=l) (b:=b) (n:=n+1) h1 h2 a_;simpa using this
theorem cC1 {ty:Ty} {b:Int} {n:Nat} (hn:n<=100000):(tmT 2 ty [t]).up b ((n:Int)+1)=tmT 2 ty [t.up b (((n+1:Nat):Int)+1)]:=by
 have:=dl1 (ty:=ty) (t:=t) (b:=b) (n:=n+1) a_;simpa using this
theorem Den.low {a:U} {x:a.val} {w:U} {d:w.val} (h:Den p t w d):∀ l r:List DV,p=l++⟨a,x⟩::r->t.ak8 (l.length:Int)=false->p.length+a8 t<=50000 ->
  Den (l++r) (t.up (-1) ((l.length:Int)+1)) w d:=by
 induction h with
 | @var p i w d hi =>
  grind [cA8,cC2,var]
 | @lam p b w t f _ ih =>
  grind [ai9,cA7,cC1,lam]
 | zero=>intro l r e hv hb;exact .zero
 | nil=>intro l r e hv hb;exact .nil
 | unit=>intro l r e hv hb;exact .unit
 | succ _ i1 =>
  intro l r e hv hb;rw [ai9] at hb;subst e;simp only [F8,J1] at hb;rw [af4 rfl rfl a_] at hv;rw [ac9 rfl rfl a_]
  grind [succ]
 | fst _ i1 =>
  intro l r e hv hb;rw [ai9] at hb;subst e;simp only [F8,J1] at hb;rw [af4 rfl rfl a_] at hv;rw [ac9 rfl rfl a_]
  grind [fst]
 | snd _ i1 =>
  intro l r e hv hb;rw [ai9] at hb;subst e;simp only [F8,J1] at hb;rw [af4 rfl rfl a_] at hv;rw [ac9 rfl rfl a_]
  grind [snd]
 | app _ _ i1 i2 =>
  intro l r e hv hb;rw [aw7] at hb;subst e;simp only [F8,J1] at hb;rw [af4 rfl rfl a_] at hv;rw [ac9 rfl rfl a_]
  grind [app]
 | cons _ _ i1 i2 =>
  intro l r e hv hb;rw [aw7] at hb;subst e;simp only [F8,J1] at hb;rw [af4 rfl rfl a_] at hv;rw [ac9 rfl rfl a_]
  grind [cons]
 | pair _ _ i1 i2 =>
  intro l r e hv hb;rw [aw7] at hb;subst e;simp only [F8,J1] at hb;rw [af4 rfl rfl a_] at hv;rw [ac9 rfl rfl a_]
  grind [pair]
 | V8 _ _ _ i1 i2 i3 =>
  intro l r e hv hb;rw [P0] at hb;subst e;simp only [F8,J1] at hb;rw [af4 rfl rfl a_] at hv;rw [ac9 rfl rfl a_];simp only [aZ1,bj6,aR2,bo5] at hv;exact .V8 (i1 l r rfl hv.1 (by simp;omega)) (i2 l r rfl hv.2.1 (by simp;omega)) (i3 l r rfl hv.2.2 (by simp;omega))
 | fold _ _ _ i1 i2 i3 =>
  intro l r e hv hb;rw [P0] at hb;subst e;simp only [F8,J1] at hb;rw [af4 rfl rfl a_] at hv;rw [ac9 rfl rfl a_];simp only [aZ1,bj6,aR2,bo5] at hv;exact .fold (i1 l r rfl hv.1 (by simp;omega)) (i2 l r rfl hv.2.1 (by simp;omega)) (i3 l r rfl hv.2.2 (by simp;omega))
variable {Q:Ty->Prop} {g':List Ty}
theorem l7.low {a:Ty} {ty:Ty} (h:l7 Q g' t ty):∀ g l:List Ty,g'=g++[a]++l->t.ak8 (l.length:Int)=false->g'.length+a8 t<=50000 ->
  l7 Q (g++l) (t.up (-1) ((l.length:Int)+1)) ty:=by
 induction h with
 | @var g' i t hi h =>
  intro g l e hv hb;subst e;rw [cA8] at hv;have hne:i≠l.length:=by intro e;rw [e] at hv;simp at hv
  simp only [F8,J1,S0] at hi hb h;rw [cC2 a_ a_];by_cases hc:l.length+1<=i
  ·grind [var]
  ·rw [y9 hc]
   refine .var (by simp;omega) ?_
   grind
 | @lam g' b c t hQ _ ih =>
  intro g l e hv hb;subst e;rw [H7] at hb;simp only [F8,J1,S0] at hb;rw [cA7 a_] at hv;rw [cC1 a_]
  grind [lam]
 | n0 hN =>
  intro g l e hv hb;subst e;simp only [F8] at hb;rw [ac9 (by cases hN<;>rfl) (by cases hN<;>rfl) a_];exact .n0 hN
 | n1 hN _ i1 =>
  intro g l e hv hb;rw [H7] at hb;subst e;simp only [F8] at hb;rw [af4 (by cases hN<;>rfl) (by cases hN<;>rfl) a_] at hv;rw [ac9 (by cases hN<;>rfl) (by cases hN<;>rfl) a_]
  grind [n1]
 | n2 hN _ _ i1 i2 =>
  intro g l e hv hb;rw [ah2] at hb;subst e;simp only [F8] at hb;rw [af4 (by cases hN<;>rfl) (by cases hN<;>rfl) a_] at hv;rw [ac9 (by cases hN<;>rfl) (by cases hN<;>rfl) a_]
  grind [n2]
 | n3 hN _ _ _ i1 i2 i3 =>
  intro g l e hv hb;rw [P0] at hb;subst e;simp only [F8] at hb;rw [af4 (by cases hN<;>rfl) (by cases hN<;>rfl) a_] at hv;rw [ac9 (by cases hN<;>rfl) (by cases hN<;>rfl) a_];simp only [aZ1,bj6,aR2,bo5] at hv;exact .n3 hN (i1 g l rfl hv.1 (by grind)) (i2 g l rfl hv.2.1 (by grind)) (i3 g l rfl hv.2.2 (by grind))
mutual
def Fm.am4:Fm->Int->Bool
 | .mk k _ l a,d=>(l.any fun x=>x.ak8 d)||Fm.cc4 a (o9 d (u9 k))
def Fm.cc4:List Fm->Int->Bool
 | [],_=>false
 | f::l,d=>f.am4 d||Fm.cc4 l d
end
theorem Fm.bI8:∀ (l:List Fm) (d:Int),Fm.cc4 l d=l.any fun x=>x.am4 d
 | [],d=>by simp [Fm.cc4]
 | f::l,d=>by simp [Fm.cc4,Fm.bI8 l d]
theorem Fm.bq6 (f:Fm) (d:Int):f.am4 d=((f.a7.any fun x=>x.ak8 d)||f.args.any fun x=>x.am4 (o9 d (u9 f.kind))):=by cases f;rw [Fm.am4,Fm.bI8];rfl
variable {d:Int}
theorem cc5 {x:Tm}:(u6 x y).am4 d=(x.ak8 d||y.ak8 d):=by rw [Fm.bq6];simp [u6,Fm.a7,Fm.args]
theorem bw8 (hk:k=2\/k=3) {n:Nat} (hn:n<=1000000):(o8 k a b).am4 (n:Int)=(a.am4 (n:Int)||b.am4 (n:Int)):=by
 rw [Fm.bq6];grind [o8,Fm.a7,Fm.args,Fm.kind,Z8,H4]
variable {s:Ty}
theorem cp2 (hk:k=4\/k=5\/k=6\/k=7) {n:Nat} (hn:n<=1000000):(fmQ k s a).am4 (n:Int)=a.am4 ((n+1:Nat):Int):=by
 have hb:u9 k=1:=by rcases hk with rfl|rfl|rfl|rfl<;>rfl
 grind [Fm.bq6,fmQ,Fm.a7,Fm.args,Fm.kind,w8]
theorem S7.low {a:U} {x:a.val} (h:S7 p f P):∀ l r:List DV,p=l++⟨a,x⟩::r->f.am4 (l.length:Int)=false->p.length+s6 f<=50000 ->
  S7 (l++r) (f.up (-1) ((l.length:Int)+1)) P:=by
 induction h with
 | eq h1 h2 =>
  intro l r e hv hb;rw [D7] at hb;rw [cc5,bo5] at hv;exact .eq (h1.low l r e hv.1 a_) (h2.low l r e hv.2 a_)
 | and _ _ i1 i2 =>
  grind [y8,bw8,bw1,and]
 | imp _ _ i1 i2 =>
  grind [y8,bw8,bw1,imp]
 | @all p k u b P hk _ ih =>
  intro l r e hv hb;rw [G6] at hb;have hl:l.length<=50000:=by have:=congrArg List.length e;simp at this;omega
  rw [cp2 a_ a_] at hv;rw [bw3 a_ a_ a_];refine .all hk fun y=>?_
  grind
 | @ex p k u b P hk _ ih =>
  grind [G6,cp2,bw3,ex]
theorem R4.low {a:Ty} (h:R4 Q g' f):∀ g l:List Ty,g'=g++[a]++l->f.am4 (l.length:Int)=false->g'.length+s6 f<=50000 ->
  R4 Q (g++l) (f.up (-1) ((l.length:Int)+1)):=by
 induction h with
 | eq h1 h2 =>
  intro g l e hv hb;rw [D7] at hb;rw [cc5,bo5] at hv;exact .eq (h1.low g l e hv.1 a_) (h2.low g l e hv.2 a_)
 | two hk _ _ i1 i2 =>
  grind [y8,bw8,bw1,two]
 | @q g' k s b hk _ ih =>
  intro g l e hv hb;rw [G6] at hb;have hl:l.length<=50000:=by have:=congrArg List.length e;simp at this;omega
  rw [cp2 hk a_] at hv;rw [bw3 hk a_ a_]
  grind [q]
theorem TmG.low (h:TmG t):t.least 536870912=true->∀ n:Nat,n+a8 t<=1000000000->TmG (t.up (-1) ((n:Int)+1)):=by
 have am3:∀ (k:Int) (l:List Tm) (n:Nat),n+F7 l<=999999999->(∀ x∈l,x.least 536870912=true->∀ n:Nat,n+a8 x<=1000000000->TmG (x.up (-1) ((n:Int)+1)))->Tm.L4 536870912 l=true ->
   ∀ y∈l.map (fun x=>x.up (-1) (o9 ((n:Int)+1) (m9 k))),TmG y:=by
  intro k l n hn ih hl y hy;obtain ⟨x,hx,rfl⟩:=G5.1 hy;have hb:=I8 k;have hz:=I9 hx;have e:o9 ((n:Int)+1) (m9 k)=((n+(m9 k).toNat:Nat):Int)+1:=by rw [w8 a_ a_ a_ a_]<;>omega
  rw [e];exact ih x hx (Tm.G7.1 hl x hx) _ a_
 induction h with
 | @plain k l a ha hl ht h ih =>
  intro hle n hn;rw [Tm.I6,A3] at hle;rw [Tm.aL5];have e:(if (tm0 k l).kind==1&&decide ((tm0 k l).index>=(n:Int)+1) then o9 (tm0 k l).index (-1) else (tm0 k l).index)=0:=by
   have:decide ((0:Int)>=(n:Int)+1)=false:=by simp<;>omega
   simp [tm0,Tm.index,Tm.kind,this]
  rw [e];have hz:a8 (tm0 k l)=F7 l+1:=rfl;exact .plain ha (by grind [tm0,Tm.args]) ht (am3 k l n a_ ih hle.2)
 | @var i hi =>
  intro hle n hn;rw [Tm.I6,A3,aW3] at hle;rw [Tm.aL5];simp only [a9,Tm.kind,Tm.index,Tm.args,Tm.type,ad1,J7,B7] at hle ⊢;split
  ·rename_i hc
   have hc:(n:Int)+1<=i:=by simpa using hc
   rw [w8 a_ a_ a_ a_];exact .var (i:=i + -1) a_
  ·exact .var hi
 | @typd k t l a ha hl ht hg h ih =>
  intro hle n hn;rw [Tm.I6,A3] at hle;rw [Tm.aL5];have e:(if (tmT k t l).kind==1&&decide ((tmT k t l).index>=(n:Int)+1) then o9 (tmT k t l).index (-1) else (tmT k t l).index)=0:=by
   have:decide ((0:Int)>=(n:Int)+1)=false:=by simp<;>omega
   simp [tmT,Tm.index,Tm.kind,this]
  rw [e];have hz:a8 (tmT k t l)=F7 l+1:=rfl;exact .typd ha (by grind [tmT,Tm.args]) ht hg (am3 k l n a_ ih hle.2)
theorem FmG.low (h:FmG u f):f.least 536870912=true->∀ n:Nat,n+s6 f<=1000000000->FmG u (f.up (-1) ((n:Int)+1))/\s6 (f.up (-1) ((n:Int)+1))=s6 f:=by
 induction h with
 | @eq x y hx hy =>
  intro hl n hn;have l1:=at1 (x:=x) hl (by simp [u6,Fm.a7]);have l2:=at1 (x:=y) hl (by simp [u6,Fm.a7]);rw [D7] at hn;rw [bw2,D7,D7,aq9,aq9];exact ⟨.eq (hx.low l1 n a_) (hy.low l2 n a_),rfl⟩
 | @two k p q hk _ _ h1 h2 =>
  grind [y8,bw1,az2,o8,Fm.args,two]
 | @q k t p hk ht _ h1 =>
  intro hl n hn;rw [G6] at hn;have hk':k=4\/k=5\/k=6\/k=7:=by rcases hk with rfl|rfl|⟨_,rfl|rfl⟩<;>simp
  rw [bw3 hk' a_ a_];obtain ⟨a1,a2⟩:=h1 (az2 hl (by simp [fmQ,Fm.args])) (n+1) a_
  grind [G6,q]
def Z6:List Tm->List Tm->Int
 | x::l,y::l'=>if au4 11 x y != 0 then au4 11 x y else Z6 l l'
 | _,_=>0
mutual
def O5:Fm->Fm->Int
 | .mk k ty l a,.mk k' ty' l' a'=>if (k != k'||!Ty.same ty ty')=true then 11 else if Z6 l l' != 0 then Z6 l l' else ab4 a a'
def ab4:List Fm->List Fm->Int
 | x::l,y::l'=>if O5 x y != 0 then O5 x y else ab4 l l'
 | _,_=>0
end
theorem bh7 (a b:Fm):O5 a b=if (a.kind != b.kind||!Ty.same a.type b.type)=true then 11 else if Z6 a.a7 b.a7 != 0 then Z6 a.a7 b.a7 else ab4 a.args b.args:=by
 cases a;cases b;rfl
theorem aJ8 {x y:Fm} {l l':List Fm}:ab4 (x::l) (y::l')=if O5 x y != 0 then O5 x y else ab4 l l':=by rw [ab4]
theorem ce5:ab4 [] []=0:=by rw [ab4];simp
theorem by0 (h:O5 a b=0):a.kind=b.kind/\a.type=b.type/\Z6 a.a7 b.a7=0/\ab4 a.args b.args=0:=by
 grind [bh7,Ty.N6]
theorem ce8 {x x' y':Tm} (h:Z6 [x,y] [x',y']=0):au4 11 x x'=0/\au4 11 y y'=0:=by
 grind [Z6]
theorem ce7 {x y x' y':Fm} (h:ab4 [x,y] [x',y']=0):O5 x x'=0/\O5 y y'=0:=by
 grind [aJ8]
theorem ce6 {x x':Fm} (h:ab4 [x] [x']=0):O5 x x'=0:=by
 grind [aJ8]
theorem cr2 (ty:R4 TyG g f):∀ {f':Fm},O5 f f'=0->R4 TyG g f'->FmG true f->FmG true f'->s6 f<=4096->s6 f'<=4096->g.length+s6 f<=5000 ->
  ∀ {p:List DV},ao7 p g->∀ {P P':Prop},S7 p f P->S7 p f' P'->(P↔P'):=by
 induction ty with
 | @eq g x y h1 h2 =>
  intro f' hm ty' fg fg' z z' hb p hp P P' hd hd';obtain ⟨e1,e2,e3,e4⟩:=by0 hm;cases ty' with
  | eq h1' h2' =>
   obtain ⟨m,n,d1,d2,rfl⟩:=hd.eq_inv;obtain ⟨m',n',d1',d2',rfl⟩:=hd'.eq_inv;obtain ⟨q1,q2⟩:=ce8 e3;rw [D7] at z z' hb;have b1:=fg.aC1 (x:=x) (by simp [u6,Fm.a7]);have b2:=fg.aC1 (x:=y) (by simp [u6,Fm.a7]);have b3:=fg'.aC1 (by simp only [u6,Fm.a7,D9];exact .inl rfl);have b4:=fg'.aC1 (by simp only [u6,Fm.a7,D9];exact .inr (.inl rfl));have a1:=bK0 (me:=11) (by decide) a_ h1 h1' b1 b3 a_ a_ q1 (by rw [hp.1];omega) d1 d1';have a2:=bK0 (me:=11) (by decide) a_ h2 h2' b2 b4 a_ a_ q2 (by rw [hp.1];omega) d2 d2'
   grind
  | two hk=>grind [u6,o8,Fm.kind]
  | q hk=>grind [u6,fmQ,Fm.kind]
 | @two g k a b hk h1 h2 i1 i2 =>
  intro f' hm ty' fg fg' z z' hb p hp P P' hd hd';obtain ⟨e1,e2,e3,e4⟩:=by0 hm;cases ty' with
  | eq=>grind [u6,o8,Fm.kind]
  | @two _ k' a' b' hk' h1' h2' =>
   have ek:k=k':=e1;obtain ⟨q1,q2⟩:=ce7 e4;rw [y8] at z z' hb;have b1:=fg.at7 (x:=a) (by simp [o8,Fm.args]);have b2:=fg.at7 (x:=b) (by simp [o8,Fm.args]);have b3:=fg'.at7 (x:=a') (by simp [o8,Fm.args]);have b4:=fg'.at7 (x:=b') (by simp [o8,Fm.args]);obtain ⟨A,B,d1,d2,hc⟩:=hd.aw8;obtain ⟨A',B',d1',d2',hc'⟩:=hd'.aw8
   grind
  | q hk'=>grind [o8,fmQ,Fm.kind]
 | @q g k s a hk h1 ih =>
  intro f' hm ty' fg fg' z z' hb p hp P P' hd hd';obtain ⟨e1,e2,e3,e4⟩:=by0 hm;cases ty' with
  | eq=>grind [u6,fmQ,Fm.kind]
  | two hk'=>grind [o8,fmQ,Fm.kind]
  | @q _ k' s' a' hk' h1' =>
   have ek:k=k':=e1;have es:s=s':=e2;subst es;have q1:=ce6 e4;rw [G6] at z z' hb;have b1:=fg.at7 (x:=a) (by simp [fmQ,Fm.args]);have b3:=fg'.at7 (x:=a') (by simp [fmQ,Fm.args]);obtain ⟨u,A,eu,d1,hc⟩:=hd.bm9;obtain ⟨u',A',eu',d1',hc'⟩:=hd'.bm9;obtain rfl:u=u':=U.inj (eu.trans eu'.symm);have w:=fun x=>ih q1 h1' b1 b3 a_ a_ (by simp;omega) (p:=⟨u,x⟩::p) (eu ▸ hp.snoc x) (d1 x) (d1' x)
   grind
def L0:List Tm->List Tm × Int
 | []=>([],0)
 | t::l=>if (norm t).2.2 != 0 then ([],(norm t).2.2) else if (L0 l).2 != 0 then ([],(L0 l).2) else ((norm t).1::(L0 l).1,0)
mutual
def C9:Fm->Fm × Int
 | .mk k ty l a=>if (L0 l).2 != 0 then (A0,(L0 l).2) else if (H0 a).2 != 0 then (A0,(H0 a).2) else (.mk k ty (L0 l).1 (H0 a).1,0)
def H0:List Fm->List Fm × Int
 | []=>([],0)
 | f::l=>if (C9 f).2 != 0 then ([],(C9 f).2) else if (H0 l).2 != 0 then ([],(H0 l).2) else ((C9 f).1::(H0 l).1,0)
end
theorem ce9 (f:Fm):C9 f=if (L0 f.a7).2 != 0 then (A0,(L0 f.a7).2) else if (H0 f.args).2 != 0 then (A0,(H0 f.args).2) else (.mk f.kind f.type (L0 f.a7).1 (H0 f.args).1,0):=by
 cases f;rfl
theorem aK0:H0 []=([],0):=by rw [H0]
theorem cf0 {l:List Fm}:H0 (f::l)=if (C9 f).2 != 0 then ([],(C9 f).2) else if (H0 l).2 != 0 then ([],(H0 l).2) else ((C9 f).1::(H0 l).1,0):=by rw [H0]
theorem aJ9 (h:(C9 f).2=0):(L0 f.a7).2=0/\(H0 f.args).2=0/\(C9 f).1=.mk f.kind f.type (L0 f.a7).1 (H0 f.args).1:=by
 grind [ce9]
theorem by7 {x:Tm} (h:(L0 [x,y]).2=0):(norm x).2.2=0/\(norm y).2.2=0/\(L0 [x,y]).1=[(norm x).1,(norm y).1]:=by
 simp only [L0] at h ⊢
 grind
theorem by5 {x y:Fm} (h:(H0 [x,y]).2=0):(C9 x).2=0/\(C9 y).2=0/\(H0 [x,y]).1=[(C9 x).1,(C9 y).1]:=by
 grind [H0]
theorem by4 {x:Fm} (h:(H0 [x]).2=0):(C9 x).2=0/\(H0 [x]).1=[(C9 x).1]:=by
 grind [H0]
theorem aT7 (ty:R4 TyG g f):(C9 f).2=0->FmG true f->s6 f<=4096->g.length+s6 f<=5000 ->
  R4 TyG g (C9 f).1/\FmG true (C9 f).1/\∀ {p:List DV},p.length=g.length->∀ {P:Prop},S7 p f P->S7 p (C9 f).1 P:=by
 induction ty with
 | @eq g x y h1 h2 =>
  intro h fg z hb;obtain ⟨e1,e2,e3⟩:=aJ9 h;obtain ⟨q1,q2,q3⟩:=by7 e1;rw [D7] at z hb;have b1:=fg.aC1 (x:=x) (by simp [u6,Fm.a7]);have b2:=fg.aC1 (x:=y) (by simp [u6,Fm.a7]);obtain ⟨x1,x2,x3,x4⟩:=aE8 a_ h1 b1 a_ q1;obtain ⟨y1,y2,y3,y4⟩:=aE8 a_ h2 b2 a_ q2;have e:(C9 (u6 x y)).1=u6 (norm x).1 (norm y).1:=by
   rw [e3];show Fm.mk _ _ (L0 [x,y]).1 (H0 []).1=_;rw [q3,aK0];rfl
  rw [e];refine ⟨.eq x1 y1,.eq x2 y2,fun hp P hd=>?_⟩;obtain ⟨m,n,d1,d2,rfl⟩:=hd.eq_inv;exact .eq (x4 _ a_ _ _ d1) (y4 _ a_ _ _ d2)
 | @two g k a b hk h1 h2 i1 i2 =>
  intro h fg z hb;obtain ⟨e1,e2,e3⟩:=aJ9 h;obtain ⟨q1,q2,q3⟩:=by5 e2;rw [y8] at z hb;obtain ⟨x1,x2,x4⟩:=i1 q1 (fg.at7 (by simp [o8,Fm.args])) a_ a_;obtain ⟨y1,y2,y4⟩:=i2 q2 (fg.at7 (by simp [o8,Fm.args])) a_ a_;have e:(C9 (o8 k a b)).1=o8 k (C9 a).1 (C9 b).1:=by
   rw [e3];show Fm.mk _ _ (L0 []).1 (H0 [a,b]).1=_;rw [q3];rfl
  rw [e];refine ⟨.two hk x1 y1,.two hk x2 y2,fun hp P hd=>?_⟩;obtain ⟨A,B,d1,d2,hc⟩:=hd.aw8;rcases hc with ⟨rfl,rfl⟩|⟨rfl,rfl⟩
  ·exact .and (x4 hp d1) (y4 hp d2)
  ·exact .imp (x4 hp d1) (y4 hp d2)
 | @q g k s a hk h1 ih =>
  intro h fg z hb;obtain ⟨e1,e2,e3⟩:=aJ9 h;obtain ⟨q1,q3⟩:=by4 e2;rw [G6] at z hb;obtain ⟨x1,x2,x4⟩:=ih q1 (fg.at7 (by simp [fmQ,Fm.args])) a_ (by simp;omega);have e:(C9 (fmQ k s a)).1=fmQ k s (C9 a).1:=by
   rw [e3];show Fm.mk _ _ (L0 []).1 (H0 [a]).1=_;rw [q3];rfl
  have hs:TyG s:=by
   cases fg with
   | q _ hs _=>exact hs
  rw [e];refine ⟨.q hk x1,.q (by rcases hk with rfl|rfl|rfl|rfl<;>simp) hs x2,fun hp P hd=>?_⟩;obtain ⟨u,A,rfl,d1,hc⟩:=hd.bm9;rcases hc with ⟨hk',rfl⟩|⟨hk',rfl⟩
  ·exact .all hk' fun x=>x4 (by simp [hp]) (d1 x)
  ·exact .ex hk' fun x=>x4 (by simp [hp]) (d1 x)
theorem bm8:(L0 (t::l)).2=if (norm t).2.2 != 0 then (norm t).2.2 else (L0 l).2:=by
 simp only [L0]
 grind
theorem bK4:∀ {l:List Tm},(L0 l).2=0->(∀ x∈l,(norm x).2.2=0)/\(L0 l).1=l.map fun x=>(norm x).1
 | [],_=>by simp [L0]
 | t::l,h=>by
  rw [bm8] at h;by_cases h1:(norm t).2.2=0
  ·rw [h1] at h
   have h2:(L0 l).2=0:=by simpa using h
   obtain ⟨a1,a2⟩:=bK4 h2;refine ⟨by simp [h1];exact a1,?_⟩;simp [L0,h1,h2,a2]
  grind
theorem bc6 {t:Fm} {l:List Fm}:(H0 (t::l)).2=if (C9 t).2 != 0 then (C9 t).2 else (H0 l).2:=by
 grind [H0]
theorem bi0:∀ {l:List Fm},(H0 l).2=0->(∀ x∈l,(C9 x).2=0)/\(H0 l).1=l.map fun x=>(C9 x).1
 | [],_=>by simp [aK0]
 | t::l,h=>by
  rw [bc6] at h;by_cases h1:(C9 t).2=0
  ·rw [h1] at h
   have h2:(H0 l).2=0:=by simpa using h
   obtain ⟨a1,a2⟩:=bi0 h2;refine ⟨by simp [h1];exact a1,?_⟩;rw [cf0];simp [h1,h2,a2]
  grind
inductive AT:Fm->Prop
 | mk {k:Int} {t:Ty} {l:List Tm} {a:List Fm} (h:k=4->N0 1 t) (ha:∀ x∈a,AT x):AT (.mk k t l a)
theorem AT.arg {f x:Fm} (h:AT f) (hx:x∈f.args):AT x:=by cases h with|mk _ ha=>exact ha x hx
theorem AT.ty (h:AT f) (hk:f.kind=4):N0 1 f.type:=by cases h with|mk h _=>exact h hk
theorem AT.eq {x y:Tm}:AT (u6 x y):=.mk (by intro h;cases h) b_
theorem AT.two {k:Int} {a b:Fm} (hk:k=2\/k=3) (ha:AT a) (hb:AT b):AT (o8 k a b):=.mk a_ (by simp [ha,hb])
theorem AT.q {k:Int} {s:Ty} {a:Fm} (h:k=4->N0 1 s) (ha:AT a):AT (fmQ k s a):=.mk h (by simp [ha])
theorem AT.up {b:Int} (h:AT f):∀ d:Int,AT (f.up b d):=by
 induction h with
 | @mk k t l a h ha ih =>
  intro d;rw [Fm.aL5];refine .mk h fun x hx=>?_;obtain ⟨y,hy,rfl⟩:=G5.1 hx;exact ih y hy _
theorem AT.inn {s:Tm} (h:AT f):∀ d:Int,AT (I3 s 0 f d):=by
 induction h<;>grind [mk,I3,aJ2]
theorem AT.norm (h:AT f):(C9 f).2=0->AT (C9 f).1:=by
 induction h with
 | @mk k t l a h ha ih =>
  intro e;obtain ⟨_,e2,e3⟩:=aJ9 e;obtain ⟨e4,e5⟩:=bi0 e2;rw [e3];refine .mk h fun x hx=>?_;rw [e5] at hx;obtain ⟨y,hy,rfl⟩:=G5.1 hx;exact ih y hy (e4 y hy)
structure Jd (g:List Ty) (f:Fm):Prop where
 ty:R4 TyG g f
 fg:FmG true f
 sz:s6 f<=4096
 al:AT f
theorem Jd.least (h:Jd g f) (hg:g.length<=100):f.least 536870912=true:=h.ty.least (by have:=h.sz;omega)
def Tru (g:List Ty) (hs:List Fm) (f:Fm):Prop:=∀ p,ao7 p g->(∀ h∈hs,B0 p h)->B0 p f
structure Sq (g:List Ty) (hs:List Fm) (f:Fm):Prop where
 jd:Jd g f
 tr:Tru g hs f
structure Cx (g:List Ty) (hs:List Fm):Prop where
 gl:g.length<=100
 gg:∀ y∈g,TyG y
 hy:∀ h∈hs,Jd g h
theorem Jd.bg5 (h:Jd g f) (hp:ao7 p g):cj5 p f:=h.ty.ed8 h.fg hp
theorem Jd.two {g:List Ty} {k:Int} {a b:Fm} (hk:k=2\/k=3) (ha:Jd g a) (hb:Jd g b) (hz:s6 a+s6 b+1<=4096):Jd g (o8 k a b) :=
 ⟨.two hk ha.ty hb.ty,.two hk ha.fg hb.fg,by rw [y8];omega,.two hk ha.al hb.al⟩
theorem Jd.by9 (h:Jd g (o8 k a b)):Jd g a/\Jd g b:=by
 have hz:=h.sz;rw [y8] at hz;have h1:R4 TyG g a/\R4 TyG g b:=by
  have:=h.ty;generalize hf:o8 k a b=f at this;cases this with
  | eq=>grind [u6,o8]
  | two _ h1 h2=>grind [o8]
  | q=>grind [fmQ,o8]
 exact ⟨⟨h1.1,h.fg.at7 (by simp [o8,Fm.args]),a_,h.al.arg (by simp [o8,Fm.args])⟩,⟨h1.2,h.fg.at7 (by simp [o8,Fm.args]),a_,h.al.arg (by simp [o8,Fm.args])⟩⟩
theorem Jd.by8 (h:Jd g (fmQ k s a)):TyG s/\Jd (g++[s]) a/\s6 a+1<=4096:=by
 have hz:=h.sz;rw [G6] at hz;have h1:R4 TyG (g++[s]) a:=by
  have:=h.ty;generalize hf:fmQ k s a=f at this;cases this with
  | eq=>grind [u6,fmQ]
  | two=>grind [fmQ,o8]
  | q _ h1=>grind [fmQ]
 have hs:TyG s:=by
  have:=h.fg;generalize hf:fmQ k s a=f at this;cases this with
  | eq=>grind [u6,fmQ]
  | two=>grind [fmQ,o8]
  | q _ h1 _=>grind [fmQ]
 exact ⟨hs,⟨h1,h.fg.at7 (by simp [fmQ,Fm.args]),a_,h.al.arg (by simp [fmQ,Fm.args])⟩,hz⟩
theorem Jd.q {g:List Ty} {k:Int} {s:Ty} {a:Fm} (hk:k=4\/k=5\/k=6\/k=7) (hs:TyG s) (h:Jd (g++[s]) a) (hz:s6 a+1<=4096) (hC:k=4->N0 1 s):Jd g (fmQ k s a) :=
 ⟨.q hk h.ty,.q (by rcases hk with rfl|rfl|rfl|rfl<;>simp) hs h.fg,by rw [G6];omega,.q hC h.al⟩
theorem Jd.eqn {x:Tm} (hx:l7 TyG g x c8) (hy:l7 TyG g y c8) (gx:TmG x) (gy:TmG y) (hz:a8 x+a8 y+1<=4096):Jd g (u6 x y) :=
 ⟨.eq hx hy,.eq gx gy,by rw [D7];omega,.eq⟩
theorem Jd.up {m:List Ty} (h:Jd g f) (hg:g.length<=100) (hm:m.length<=100):Jd (g++m) (f.up (m.length:Int) 0):=by
 have hz:=h.sz;have h1:=h.ty.upl (m:=m) g [] b_ (by simp;omega) a_ a_;simp only [ae7,S0] at h1;obtain ⟨h2,h3⟩:=h.fg.up (b:=(m.length:Int)) a_ a_ (h.least hg) 0;exact ⟨h1,h2,by rw [h3];exact hz,h.al.up _⟩
theorem Jd.cQ8 {m:List Ty} (h:Jd (g++[s]) f) (hg:g.length<=98) (hm:m.length<=100):Jd (g++m++[s]) (f.up (m.length:Int) 1):=by
 have hz:=h.sz;have h1:=h.ty.upl (m:=m) g [s] rfl (by simp;omega) a_ a_;obtain ⟨h2,h3⟩:=h.fg.up (b:=(m.length:Int)) a_ a_ (h.least (by simp;omega)) 1;exact ⟨by simpa using h1,h2,by rw [h3];exact hz,h.al.up _⟩
theorem Jd.put (h:Jd (g++[s]) a) (hg:g.length<=98) (ht:l7 TyG g t s) (gt:TmG t) (zt:a8 t<=4096) (e:(D8 a 0 t).2=0) :
  (D8 a 0 t).1=I3 t 0 a 0/\Jd g (I3 t 0 a 0):=by
 have hz:=h.sz;obtain ⟨e1,e2⟩:=cL4 h.fg gt a_ a_ e;have h1:=h.ty.inn (x:=t) g [] b_ ht (by simp;omega) a_;simp only [ae7,S0] at h1;have lt:t.least 536870912=true:=ht.least _ a_ a_;exact ⟨by rw [e1],h1,h.fg.inn gt lt (h.least (by simp;omega)) 0 a_ a_,e2,h.al.inn _⟩
theorem ag0 (h:Jd (g++[s]) a) (zt:a8 t<=4096) (hg:g.length<=98) (hp:ao7 p g) {u:U} (hu:u.ty=s) {v:u.val} (hd:Den p t u v) :
  B0 p (I3 t 0 a 0)↔B0 (⟨u,v⟩::p) a:=by
 have hz:=h.sz;exact B0.cE0 (h.bg5 (hu ▸ hp.snoc v)) hd (by rw [hp.1];omega) a_
theorem br8 (h:Jd g f) (hg:g.length<=100) (hp:ao7 p g) (hm:m.length<=100):B0 (m++p) (f.up (m.length:Int) 0)↔B0 p f:=by
 have hz:=h.sz;exact B0.dQ4 (h.bg5 hp) (by rw [hp.1];omega) a_
theorem bj2 (h:Jd (g++[s]) f) (hg:g.length<=98) (hp:ao7 p g) (hm:m.length<=100) {u:U} (hu:u.ty=s) (x:u.val) :
  B0 (⟨u,x⟩::(m++p)) (f.up (m.length:Int) 1)↔B0 (⟨u,x⟩::p) f:=by
 have hz:=h.sz;obtain ⟨P,hP⟩:=h.bg5 (hu ▸ hp.snoc x);have:=hP.upl (m:=m) [⟨u,x⟩] p rfl (by simp [hp.1];omega) a_
 grind [B0.iff]
theorem Sq.hyp {g:List Ty} {hs:List Fm} {h:Fm} (c:Cx g hs) (hm:h∈hs):Sq g hs h:=⟨c.hy h hm,fun p _ hh=>hh h hm⟩
variable {hs:List Fm}
theorem Sq.ed4 (ha:Sq g hs a) (hb:Sq g hs b) (hz:s6 a+s6 b+1<=4096):Sq g hs (o8 2 a b) :=
 ⟨.two (.inl rfl) ha.jd hb.jd hz,fun p hp hh=>B0.bO2.2 ⟨ha.tr p hp hh,hb.tr p hp hh⟩⟩
theorem Sq.ed3 (h:Sq g hs (o8 2 a b)):Sq g hs a/\Sq g hs b :=
 ⟨⟨h.jd.by9.1,fun p hp hh=>(B0.bO2.1 (h.tr p hp hh)).1⟩,⟨h.jd.by9.2,fun p hp hh=>(B0.bO2.1 (h.tr p hp hh)).2⟩⟩
theorem Sq.eh3 (ja:Jd g a) (hb:Sq g (hs++[a]) b) (hz:s6 a+s6 b+1<=4096):Sq g hs (o8 3 a b) :=
 ⟨.two (.inr rfl) ja hb.jd hz,fun p hp hh=>B0.dZ3 (ja.bg5 hp) (hb.jd.bg5 hp) fun ha=>hb.tr p hp fun h hm=>by
  grind⟩
theorem af7 (ja:Jd g a) (jb:Jd g b) (hg:g.length<=100) (hm:O5 a b=0) (hp:ao7 p g):B0 p a↔B0 p b:=by
 obtain ⟨P,hP⟩:=ja.bg5 hp;obtain ⟨Q,hQ⟩:=jb.bg5 hp;rw [B0.iff hP,B0.iff hQ];have hz:=ja.sz;exact cr2 ja.ty hm jb.ty ja.fg jb.fg ja.sz jb.sz a_ hp hP hQ
theorem Sq.eh2 {a':Fm} (c:Cx g hs) (h:Sq g hs (o8 3 a b)) (h':Sq g hs a') (hm:O5 a a'=0):Sq g hs b :=
 ⟨h.jd.by9.2,fun p hp hh=>(h.tr p hp hh).dZ2 ((af7 h.jd.by9.1 h'.jd c.gl hm hp).2 (h'.tr p hp hh))⟩
theorem Sq.allI (c:Cx g hs) (hk:k=4\/k=6) (hs':TyG s) (hC:N0 1 s) (h:Sq (g++[s]) (hs.map fun x=>x.up 1 0) b) (hz:s6 b+1<=4096):Sq g hs (fmQ k s b):=by
 refine ⟨.q a_ hs' h.jd hz (fun _=>hC),fun p hp hh=>?_⟩;obtain ⟨u,rfl⟩:=hs'.1.U;refine (B0.aZ4 hk).2 fun x=>h.tr _ (hp.snoc x) fun y hy=>?_;obtain ⟨z,hz,rfl⟩:=G5.1 hy;exact (br8 (m:=[⟨u,x⟩]) (c.hy z hz) c.gl hp b_).2 (hh z hz)
theorem Sq.ec8 (hk:k=4\/k=6) (hg:g.length<=98) (h:Sq g hs (fmQ k s a)) (ht:l7 TyG g t s) (gt:TmG t) (zt:a8 t<=4096) (e:(D8 a 0 t).2=0) :
  Sq g hs (D8 a 0 t).1:=by
 obtain ⟨j1,j2,_⟩:=h.jd.by8;obtain ⟨e1,e2⟩:=j2.put hg ht gt zt e;rw [e1];refine ⟨e2,fun p hp hh=>?_⟩;obtain ⟨u,d,rfl,hd⟩:=ht.den hp;exact (ag0 j2 zt hg hp rfl hd).2 ((B0.aZ4 hk).1 (h.tr p hp hh) d)
theorem Sq.exI {x:Fm} (c:Cx g hs) (hk:k=5\/k=7) (hg:g.length<=98) (j:Jd g (fmQ k s a)) (ht:l7 TyG g t s) (gt:TmG t) (zt:a8 t<=4096) (hx:Sq g hs x)
  (e:(D8 a 0 t).2=0) (hm:O5 (D8 a 0 t).1 x=0):Sq g hs (fmQ k s a):=by
 obtain ⟨j1,j2,_⟩:=j.by8;obtain ⟨e1,e2⟩:=j2.put hg ht gt zt e;rw [e1] at hm;refine ⟨j,fun p hp hh=>?_⟩;obtain ⟨u,d,rfl,hd⟩:=ht.den hp;have h1:=(af7 e2 hx.jd c.gl hm hp).2 (hx.tr p hp hh);exact B0.dU1 hk (fun y=>j2.bg5 (hp.snoc y)) ((ag0 j2 zt hg hp rfl hd).1 h1)
theorem Jd.low (j:Jd (g++[s]) b) (hg:g.length<=98) (hv:b.am4 0=false):Jd g (b.up (-1) 1):=by
 have hz:=j.sz;have h1:=j.ty.low (a:=s) g [] b_ (by simpa using hv) (by simp;omega);obtain ⟨h2,h3⟩:=j.fg.low (j.least (by simp;omega)) 0 a_;have e:((0:Nat):Int)+1=1:=rfl;rw [e] at h2 h3;simp only [ae7,S0] at h1;exact ⟨h1,h2,by rw [h3];exact hz,j.al.up _⟩
theorem df6 (j:Jd (g++[s]) b) (hg:g.length<=98) (hv:b.am4 0=false) (hp:ao7 p g) {u:U} (hu:u.ty=s) (x:u.val):B0 p (b.up (-1) 1)↔B0 (⟨u,x⟩::p) b:=by
 have hz:=j.sz;obtain ⟨P,hP⟩:=j.bg5 (hu ▸ hp.snoc x);have:=hP.low [] p rfl (by simpa using hv) (by simp [hp.1];omega)
 grind [B0.iff]
theorem Sq.exE (c:Cx g hs) (hk:k=5\/k=7) (hg:g.length<=98) (h:Sq g hs (fmQ k s a)) (hb:Sq (g++[s]) ((hs.map fun x=>x.up 1 0)++[a]) b) (hv:b.am4 0=false) :
  Sq g hs (b.up (-1) 1):=by
 refine ⟨hb.jd.low hg hv,fun p hp hh=>?_⟩;obtain ⟨j1,j2,_⟩:=h.jd.by8;obtain ⟨u,rfl⟩:=j1.1.U;obtain ⟨x,hx⟩:=(h.tr p hp hh).dU0 hk;refine (df6 hb.jd hg hv hp rfl x).2 (hb.tr _ (hp.snoc x) fun y hy=>?_);rcases Q8.1 hy with hy|hy
 ·obtain ⟨z,hz,rfl⟩:=G5.1 hy
  exact (br8 (m:=[⟨u,x⟩]) (c.hy z hz) c.gl hp b_).2 (hh z hz)
 grind
theorem Sq.norm (h:Sq g hs b) (hg:g.length<=100) (e:(C9 b).2=0) (hz:s6 (C9 b).1<=4096):Sq g hs (C9 b).1:=by
 have h0:=h.jd.sz;obtain ⟨a1,a2,a3⟩:=aT7 h.jd.ty e h.jd.fg h.jd.sz a_;refine ⟨⟨a1,a2,hz,h.jd.al.norm e⟩,fun p hp hh=>?_⟩;obtain ⟨P,hP,ht⟩:=h.tr p hp hh;exact ⟨P,a3 hp.1 hP,ht⟩
theorem Sq.refl {g:List Ty} {hs:List Fm} {t:Tm} (ht:l7 TyG g t c8) (gt:TmG t) (hz:a8 t+a8 t+1<=4096):Sq g hs (u6 t t) :=
 ⟨.eqn ht ht gt gt hz,fun p hp _=>by
  obtain ⟨u,d,hu,hd⟩:=ht.den hp;obtain rfl:=U.au9 hu
  grind [B0.eq_iff]⟩
theorem Jd.of_eq {x:Tm} (h:Jd g (u6 x y)):l7 TyG g x c8/\l7 TyG g y c8/\TmG x/\TmG y/\a8 x+a8 y+1<=4096:=by
 have hz:=h.sz;rw [D7] at hz;have h1:l7 TyG g x c8/\l7 TyG g y c8:=by
  have:=h.ty;generalize hf:u6 x y=f at this;cases this with
  | eq h1 h2=>grind [u6]
  | two=>grind [u6,o8]
  | q=>grind [u6,fmQ]
 exact ⟨h1.1,h1.2,h.fg.aC1 (by simp [u6,Fm.a7]),h.fg.aC1 (by simp [u6,Fm.a7]),a_⟩
theorem Sq.subst {g:List Ty} {hs:List Fm} {x y:Tm} {f z:Fm} (c:Cx g hs) (hg:g.length<=98) (j:Jd (g++[c8]) f) (h:Sq g hs (u6 x y)) (hz:Sq g hs z) (e1:(D8 f 0 x).2=0) (hm:O5 (D8 f 0 x).1 z=0) (e2:(D8 f 0 y).2=0) :
  Sq g hs (D8 f 0 y).1:=by
 obtain ⟨h1,h2,g1,g2,s1⟩:=h.jd.of_eq;obtain ⟨a1,a2⟩:=j.put hg h1 g1 a_ e1;obtain ⟨b1,b2⟩:=j.put hg h2 g2 a_ e2;rw [b1];rw [a1] at hm;refine ⟨b2,fun p hp hh=>?_⟩;obtain ⟨n,d1,d2⟩:=B0.eq_iff.1 (h.tr p hp hh);have h3:=(af7 a2 hz.jd c.gl hm hp).2 (hz.tr p hp hh);exact (ag0 j a_ hg hp (u:=.nat) rfl d2).2 ((ag0 j a_ hg hp (u:=.nat) rfl d1).1 h3)
theorem aK6:l7 TyG (g++[s]) (a9 0) s:=.var (i:=0) b_ b_
theorem br9 {u:Ty}:l7 TyG (g++[s]++[u]) (a9 1) s:=.var (i:=1) b_ b_
theorem Sq.ind {g:List Ty} {hs:List Fm} {f z0 z1:Fm} {t:Tm} (c:Cx g hs) (hg:g.length<=90) (j:Jd (g++[c8]) f) (ht:l7 TyG g t c8) (gt:TmG t) (zt:a8 t<=4096)
  (h0:Sq g hs z0) (p0:(D8 f 0 (tm0 4 [])).2=0) (m0:O5 (D8 f 0 (tm0 4 [])).1 z0=0)
  (h1:Sq (g++[c8]) ((hs.map fun x=>x.up 1 0)++[f]) z1) (p1:(D8 (f.up 1 1) 0 (tm0 5 [a9 0])).2=0) (m1:O5 (D8 (f.up 1 1) 0 (tm0 5 [a9 0])).1 z1=0)
  (e:(D8 f 0 t).2=0):Sq g hs (D8 f 0 t).1:=by
 have gz:TmG (tm0 4 []):=.plain (a:=0) rfl rfl rfl b_;have gv:TmG (a9 0):=.var a_;have gs:TmG (tm0 5 [a9 0]):=.plain (a:=1) rfl rfl rfl (by simp [gv]);have tz:∀ g:List Ty,l7 TyG g (tm0 4 []) c8:=fun g=>.n0 (ty:=.mk 0 []) .zero;have ts:l7 TyG (g++[c8]) (tm0 5 [a9 0]) c8:=.n1 (ty:=.mk 0 []) .succ aK6;have sz:a8 (tm0 4 [])<=4096:=by decide
 have ss:a8 (tm0 5 [a9 0])<=4096:=by decide
 have j1:Jd (g++[c8]++[c8]) (f.up 1 1):=j.cQ8 (m:=[c8]) a_ b_;obtain ⟨a1,a2⟩:=j.put a_ (tz g) gz sz p0;obtain ⟨b1,b2⟩:=j1.put (by simp;omega) ts gs ss p1;obtain ⟨c1,c2⟩:=j.put a_ ht gt zt e;rw [a1] at m0;rw [b1] at m1;rw [c1];refine ⟨c2,fun p hp hh=>?_⟩;obtain ⟨u,d,hu,hd⟩:=ht.den hp;obtain rfl:=U.au9 hu;refine (ag0 j zt a_ hp (u:=.nat) rfl hd).2 ?_;have key:∀ n:Nat,B0 (⟨.nat,n⟩::p) f:=by
  intro n
  induction n with
  | zero=>exact (ag0 j sz a_ hp (u:=.nat) rfl .zero).1 ((af7 a2 h0.jd c.gl m0 hp).2 (h0.tr p hp hh))
  | succ n ih =>
   have hp':ao7 (⟨.nat,n⟩::p) (g++[c8]):=hp.snoc (u:=.nat) n;have hz:B0 (⟨.nat,n⟩::p) z1:=h1.tr _ hp' fun y hy=>by
    rcases Q8.1 hy with hy|hy
    ·obtain ⟨z,hz,rfl⟩:=G5.1 hy
     exact (br8 (m:=[⟨.nat,n⟩]) (c.hy z hz) c.gl hp b_).2 (hh z hz)
    grind
   have h3:=(af7 b2 h1.jd (by simp;omega) m1 hp').2 hz;have h4:=(ag0 j1 ss (by simp;omega) hp' (u:=.nat) (v:=(n+1:Nat)) rfl (.succ (.var b_))).1 h3;exact (bj2 j (m:=[⟨.nat,n⟩]) a_ hp b_ (u:=.nat) rfl (n+1:Nat)).1 h4
 exact key d
theorem Sq.lists {z0 z1:Fm} (c:Cx g hs) (hg:g.length<=90) (j:Jd (g++[r5]) f) (ht:l7 TyG g t r5) (gt:TmG t) (zt:a8 t<=4096)
  (h0:Sq g hs z0) (p0:(D8 f 0 (tm0 7 [])).2=0) (m0:O5 (D8 f 0 (tm0 7 [])).1 z0=0)
  (h1:Sq (g++[c8,r5]) ((hs.map fun x=>x.up 2 0)++[f.up 1 1]) z1) (p1:(D8 (f.up 2 1) 0 (tm0 8 [a9 1,a9 0])).2=0) (m1:O5 (D8 (f.up 2 1) 0 (tm0 8 [a9 1,a9 0])).1 z1=0)
  (e:(D8 f 0 t).2=0):Sq g hs (D8 f 0 t).1:=by
 have gz:TmG (tm0 7 []):=.plain (a:=0) rfl rfl rfl b_;have gv:TmG (a9 0):=.var a_;have gw:TmG (a9 1):=.var a_;have gs:TmG (tm0 8 [a9 1,a9 0]):=.plain (a:=2) rfl rfl rfl (by simp [gv,gw]);have tz:∀ g:List Ty,l7 TyG g (tm0 7 []) r5:=fun g=>.n0 (ty:=.mk 0 []) .nil;have eg:g++[c8,r5]=g++[c8]++[r5]:=by simp
 have ts:l7 TyG (g++[c8,r5]) (tm0 8 [a9 1,a9 0]) r5:=by rw [eg];exact .n2 (ty:=.mk 0 []) .cons br9 aK6
 have sz:a8 (tm0 7 [])<=4096:=by decide
 have ss:a8 (tm0 8 [a9 1,a9 0])<=4096:=by decide
 have j1:Jd (g++[c8,r5]++[r5]) (f.up 2 1):=j.cQ8 (m:=[c8,r5]) a_ b_;obtain ⟨a1,a2⟩:=j.put a_ (tz g) gz sz p0;obtain ⟨b1,b2⟩:=j1.put (by simp;omega) ts gs ss p1;obtain ⟨c1,c2⟩:=j.put a_ ht gt zt e;rw [a1] at m0;rw [b1] at m1;rw [c1];refine ⟨c2,fun p hp hh=>?_⟩;obtain ⟨u,d,hu,hd⟩:=ht.den hp;obtain rfl:=U.br6 hu;refine (ag0 j zt a_ hp (u:=.list) rfl hd).2 ?_;have key:∀ l:List Nat,B0 (⟨.list,l⟩::p) f:=by
  intro l
  induction l with
  | nil=>exact (ag0 j sz a_ hp (u:=.list) rfl .nil).1 ((af7 a2 h0.jd c.gl m0 hp).2 (h0.tr p hp hh))
  | cons n l ih =>
   have hp':ao7 (⟨.list,l⟩::⟨.nat,n⟩::p) (g++[c8,r5]):=by
    rw [eg];exact (hp.snoc (u:=.nat) n).snoc (u:=.list) l
   have hz:B0 (⟨.list,l⟩::⟨.nat,n⟩::p) z1:=h1.tr _ hp' fun y hy=>by
    rcases Q8.1 hy with hy|hy
    ·obtain ⟨z,hz,rfl⟩:=G5.1 hy
     exact (br8 (m:=[⟨.list,l⟩,⟨.nat,n⟩]) (c.hy z hz) c.gl hp b_).2 (hh z hz)
    ·simp at hy;subst hy
     exact (bj2 j (m:=[⟨.nat,n⟩]) a_ hp b_ (u:=.list) rfl l).2 ih
   have h3:=(af7 b2 h1.jd (by simp;omega) m1 hp').2 hz;have h4:=(ag0 j1 ss (by simp;omega) hp' (u:=.list) (v:=(n::l:List Nat)) rfl (.cons (.var (i:=1) b_) (.var (i:=0) b_))).1 h3;exact (bj2 j (m:=[⟨.list,l⟩,⟨.nat,n⟩]) a_ hp b_ (u:=.list) rfl (n::l:List Nat)).1 h4
 exact key d
theorem Sq.choice {u:Ty} (c:Cx g hs) (hg:g.length<=90) (h:Sq g hs (fmQ 4 s (fmQ 5 u b))) (ht:TyG (x9 s u)) (e:(D8 (b.up 1 2) 0 (tm0 3 [a9 1,a9 0])).2=0)
  (hz:s6 (fmQ 5 (x9 s u) (fmQ 4 s (D8 (b.up 1 2) 0 (tm0 3 [a9 1,a9 0])).1))<=4096):Sq g hs (fmQ 5 (x9 s u) (fmQ 4 s (D8 (b.up 1 2) 0 (tm0 3 [a9 1,a9 0])).1)):=by
 obtain ⟨q1,q2,_⟩:=h.jd.by8;obtain ⟨r1,r2,_⟩:=q2.by8;have hb:=r2.sz;have gv:TmG (a9 0):=.var a_;have gw:TmG (a9 1):=.var a_;have gs:TmG (tm0 3 [a9 1,a9 0]):=.plain (a:=2) rfl rfl rfl (by simp [gv,gw]);have ss:a8 (tm0 3 [a9 1,a9 0])<=4096:=by decide
 have ts:l7 TyG (g++[x9 s u]++[s]) (tm0 3 [a9 1,a9 0]) u:=.n2 (ty:=.mk 0 []) .app br9 aK6;have j1:Jd (g++[x9 s u]++[s]++[u]) (b.up 1 2):=by
  have h1:=r2.ty.upl (m:=[x9 s u]) g [s,u] b_ (by simp;omega) a_ b_;obtain ⟨h2,h3⟩:=r2.fg.up (b:=1) a_ a_ (r2.least (by simp;omega)) 2;exact ⟨by simpa using h1,h2,by rw [h3];exact hb,r2.al.up _⟩
 obtain ⟨b1,b2⟩:=j1.put (by simp;omega) ts gs ss e;rw [b1] at hz ⊢;rw [G6,G6] at hz;have jq:Jd (g++[x9 s u]) (fmQ 4 s (I3 (tm0 3 [a9 1,a9 0]) 0 (b.up 1 2) 0)):=b2.q (.inl rfl) q1 a_ (fun _=>h.jd.al.ty rfl);refine ⟨jq.q a_ ht (by rw [G6];omega) (fun e=>by cases e),fun p hp hh=>?_⟩;obtain ⟨S,rfl⟩:=q1.1.U;obtain ⟨T,rfl⟩:=r1.1.U;have h1:=h.tr p hp hh;have h2:∀ x:S.val,∃ y:T.val,B0 (⟨T,y⟩::⟨S,x⟩::p) b:=fun x=>((B0.aZ4 (.inl rfl)).1 h1 x).dU0 (.inl rfl);obtain ⟨F,hF⟩:=cw5 h2;refine B0.dU1 (u:=.fn S T) (.inl rfl) (fun y=>jq.bg5 (hp.snoc (u:=.fn S T) y)) (x:=F) ((B0.aZ4 (.inl rfl)).2 fun x=>?_);have hp':ao7 (⟨S,x⟩::⟨.fn S T,F⟩::p) (g++[x9 S.ty T.ty]++[S.ty]):=(hp.snoc (u:=.fn S T) F).snoc x;refine (ag0 j1 ss (by simp;omega) hp' (u:=T) rfl (v:=F x) (.app (.var (i:=1) b_) (.var (i:=0) b_))).2 ?_;obtain ⟨P,hP⟩:=r2.bg5 ((hp.snoc x).snoc (F x));have h3:=hP.upl (m:=[⟨.fn S T,F⟩]) [⟨T,F x⟩,⟨S,x⟩] p rfl (by simp [hp.1];omega) b_
 grind [B0.iff]
def lns (F:Ty->List PVl):List Ty->List (List PVl)
 | []=>[[]]
 | t::ts=>(F t).flatMap fun v=>(lns F ts).map (v::·)
def aF1 (bs:List PVl) (L:List (List PVl)):List (List V):=L.map fun l=>[V.sl .any ((bs++l).map PVl.cells)]
theorem bK8 (bs:List PVl) (L:List (List PVl)):(aF1 bs L).length=L.length:=by simp [aF1]
theorem ct4 (F:Ty->List PVl) (bs:List PVl) (t:Ty) (ts:List Ty):aF1 bs (lns F (t::ts))=(F t).flatMap fun v=>aF1 (bs++[v]) (lns F ts):=by
 simp only [aF1,lns,List.map_flatMap,aR3];congr 1
 funext v
 simp_all
theorem cP2 (F:Ty->List PVl) (bs:List PVl):aF1 bs (lns F [])=[[V.sl .any (bs.map PVl.cells)]]:=by simp [aF1,lns]
theorem cR2 {b:Nat} (hb:b<=16) {t:Ty} (ht:PlT t):∀ v∈ac3 b t,∃ s,ao9 t v s/\a8 s<=50 * E5 t:=by
 induction ht with
 | nat =>
  intro v hv;have e:ac3 b c8=aF7 b:=by rw [c8];rfl
  rw [e] at hv;obtain ⟨n,hn,rfl⟩:=G5.1 hv;have:=bC4.1 hn;exact ⟨_,.num n,by rw [Y2,V4];omega⟩
 | list =>
  intro v hv;have e:ac3 b r5=an3 b:=by rw [r5];rfl
  rw [e] at hv;unfold an3 at hv;have key:∀ l:List Nat,lsz l<=50->∃ s,ao9 r5 (az3 l) s/\a8 s<=50 * E5 r5:=fun l hl=>⟨_,.list l,by rw [aE6,ax4];omega⟩;rcases Q8.1 hv with h|h
  ·rcases D9.1 h with rfl|h
   ·grind [lsz]
   ·obtain ⟨n,hn,rfl⟩:=G5.1 h
    have:=bC4.1 hn;exact key [n] (by simp [lsz];omega)
  ·obtain ⟨n,hn,h⟩:=List.mem_flatMap.1 h
   obtain ⟨m,hm,rfl⟩:=G5.1 h;have:=bC4.1 hn;have:=bC4.1 hm;exact key [n,m] (by simp [lsz];omega)
 | unit =>
  intro v hv;have e:ac3 b O7=[bo0]:=by rw [O7];rfl
  rw [e] at hv;obtain rfl:=List.mem_singleton.1 hv;exact ⟨_,.unit,by rw [bi8,aF5];omega⟩
 | @pair a c _ _ h1 h2 =>
  intro v hv;have e:ac3 b (B6 a c)=aV8 (ac3 b a) (ac3 b c):=by rw [B6,ac3]
  rw [e] at hv;unfold aV8 at hv;obtain ⟨x,hx,h⟩:=List.mem_flatMap.1 hv;obtain ⟨y,hy,rfl⟩:=G5.1 h;obtain ⟨s,i1,z1⟩:=h1 x hx;obtain ⟨u,i2,z2⟩:=h2 y hy;exact ⟨_,.pair i1 i2,by rw [ad8,S4];omega⟩
theorem ah4.cons {g:List Ty} {l:List PVl} {ts:List Tm} {a:Ty} {v:PVl} {t:Tm} (h:ah4 g l ts) (i1:ao9 a v t) (ha:TyG a) (hz:a8 t<=4096):ah4 (a::g) (v::l) (t::ts):=by
 induction h with
 | nil=>exact .snoc .nil i1 ha hz
 | snoc _ j1 j2 j3 ih=>exact .snoc ih j1 j2 j3
theorem bJ7 {b m:Nat} (hb:b<=16):∀ (ts:List Ty),(∀ t∈ts,PlT t/\TyG t/\E5 t<=80)->∀ l∈lns (fun t=>(ac3 b t).take m) ts,∃ tms,ah4 ts l tms
 | [],_,l,hl=>by
  simp only [lns,List.mem_singleton] at hl;subst hl;exact ⟨[],.nil⟩
 | t::ts,ht,l,hl=>by
  simp only [lns] at hl;obtain ⟨v,hv,h⟩:=List.mem_flatMap.1 hl;obtain ⟨l',hl',rfl⟩:=G5.1 h;obtain ⟨p1,p2,p3⟩:=ht t b_;obtain ⟨s,i1,z1⟩:=cR2 hb p1 v (cw8 hv);obtain ⟨tms,i2⟩:=bJ7 hb ts (fun t q=>ht t (by simp [q])) l' hl';exact ⟨s::tms,i2.cons i1 p2 a_⟩
def aO7 (H:List PVl->Nat->Ans):List (List PVl)->Nat->Option (List PVl) × Int
 | [],_=>(none,0)
 | l::L,w=>if (H l w).2.2 != 0 then (none,(H l w).2.2) else if (H l w).1 then aO7 H L (w - (H l w).2.1) else (some l,0)
theorem dk4 {ts:List Ty}:∃ T:List PVl->List Tm,∀ l,(∃ tms,ah4 ts l tms)->ah4 ts l (T l):=by
 classical
 exact ⟨fun l=>if h:∃ tms,ah4 ts l tms then Classical.choose h else [],fun l h=>by grind⟩
theorem bX0 {f:Fm}:∀ g:List Ty,(aN1 g f).univ=(g++f.univ.1,f.univ.2)
 | []=>rfl
 | s::g=>by
  show (fmQ 4 s (aN1 g f)).univ=_;rw [Fm.bU5 (f:=fmQ 4 s (aN1 g f)) (a:=aN1 g f) rfl rfl,bX0 g];rfl
theorem cy1 {f:Fm}:∀ (g' g:List Ty),(∀ t∈g',TyG t)->R4 TyG (g++g') f->R4 TyG g (aN1 g' f)
 | [],g,_,h=>by rw [ae7] at h;exact h
 | s::g',g,ht,h=>by
  exact .q b_ (cy1 g' (g++[s]) (fun t q=>ht t (by simp [q])) (by simpa using h))
theorem cO8:∀ n:Nat,aU7 (0:Nat) (fun k _=>k) n=n - 1
 | 0=>rfl
 | n+1=>rfl
theorem cg3 (x:Nat):∀ n:Nat,aU7 x (fun _ r=>r - 1) n=x - n
 | 0=>rfl
 | n+1=>by rw [aU7,cg3 x n];omega
theorem Den.pred:Den p aF0 (.fn .nat .nat) (fun n=>aU7 (0:Nat) (fun k _=>k) n) :=
 .lam (a:=.nat) (u:=.nat) fun n=>.V8 (a:=.nat) .zero (.lam (a:=.nat) (u:=.fn .nat .nat) fun k=>.lam (a:=.nat) (u:=.nat) fun r=>.var (i:=1) rfl) (.var (i:=0) rfl)
theorem Den.sub {p:List DV}:Den p aM5 (.fn .nat (.fn .nat .nat)) (fun x y=>aU7 x (fun (_:Nat) r=>aU7 (0:Nat) (fun k _=>k) r) y) :=
 .lam (a:=.nat) (u:=.fn .nat .nat) fun x=>.lam (a:=.nat) (u:=.nat) fun y=>.V8 (a:=.nat) (.var (i:=1) rfl)
  (.lam (a:=.nat) (u:=.fn .nat .nat) fun k=>.lam (a:=.nat) (u:=.nat) fun r=>.app Den.pred (.var (i:=0) rfl)) (.var (i:=0) rfl)
theorem df5 {s:Tm} {m n:Nat} (hs:Den p s .nat m) (ht:Den p t .nat n):S7 p (V5 s t) (m+1 - n=0):=by
 have h:Den p (tm0 3 [tm0 3 [aM5,tm0 5 [s]],t]) .nat ((fun x y=>aU7 x (fun (_:Nat) r=>aU7 (0:Nat) (fun k _=>k) r) y) (m+1) n):=.app (a:=.nat) (b:=.nat) (.app (a:=.nat) (b:=.fn .nat .nat) Den.sub (.succ hs)) ht;have e:(fun x y=>aU7 x (fun (_:Nat) r=>aU7 (0:Nat) (fun k _=>k) r) y) (m+1) n=m+1 - n:=by
  simp only [cO8];exact cg3 (m+1) n
 rw [e] at h;exact .eq h .zero
theorem Den.ea0:∀ n:Nat,Den p (G3 n) .nat n
 | 0=>.zero
 | n+1=>.succ (Den.ea0 n)
theorem da3 {D:Nat->Fm->Ans} {lim:Nat} {f:Fm} {Q:Nat->Prop} (hD:∀ (j w:Nat) (b:Bool) (w':Nat),dW D f j w=(b,w',0)->(b=true↔Q j)) (all:Bool) :
  ∀ (n k w:Nat) (b:Bool) (w':Nat),dB D lim all f n k w=(b,w',0)->(all=true->(b=true↔∀ j,k<=j->j<k+n->Q j))/\(all=false->(b=true↔∃ j,k<=j/\j<k+n/\Q j))
 | 0,k,w,b,w',h=>by
  grind [dB]
 | n+1,k,w,b,w',h=>by
  rw [dB] at h;split at h
  ·simp at h
  ·cases hr:dW D f k (w+1) with|mk c r=>?_
   obtain ⟨w1,e1⟩:=r;rw [hr] at h;split at h
   ·grind
   ·rename_i hc
    have hc':e1=0/\c=all:=by simpa using hc
    obtain ⟨rfl,rfl⟩:=hc';obtain ⟨i1,i2⟩:=da3 hD c n (k+1) w1 b w' h
    grind
theorem dD4 {lim:Nat}:∀ (n w:Nat) (f:Fm),(dT lim n w f).1=true->(dT lim n w f).2.2=0
 | 0,w,f,h=>by cases h
 | n + 1,w,f,h=>by
  have ih:=dD4 (lim:=lim) n;have hB:∀ all a m k w,(dB (fun w f=>dT lim n w f) lim all a m k w).1=true->(dB (fun w f=>dT lim n w f) lim all a m k w).2.2=0:=by
   intro all a m
   induction m with
   | zero=>intro k w h;rfl
   | succ m im =>
    intro k w h;rw [dB] at h ⊢;split at h
    ·cases h
    ·rename_i hl
     rw [y9 hl];split at h
     ·rename_i hc
      rw [B8 hc];unfold dW at h ⊢;split at h
      ·cases h
      ·rename_i h1
       rw [y9 h1];split at h
       ·cases h
       ·rename_i h2;rw [y9 h2];exact ih _ _ h
     ·rename_i hc;rw [y9 hc];exact im _ _ h
  grind [dT,dE]
theorem cy6 {q:Tm} (gq:TmG q) (tq:l7 TyG ([]++[c8]) q c8) (oq:F6 q 0=0) (zq:a8 q<=5000):q.least 536870912=true/\q.ak8 0=false:=by
 have lq:q.least 536870912=true:=tq.least _ a_ (by simp;omega);refine ⟨lq,?_⟩;rw [gq.has lq a_,gq.ap4 (a:=0) a_ (tq.least _ a_ (by simp;omega)) a_ a_,oq];rfl
theorem cV7 {q:Tm} (gq:TmG q) (tq:l7 TyG ([]++[c8]) q c8) (oq:F6 q 0=0) (zq:a8 q<=5000):l7 TyG [] (ac0 q 0 I4) c8:=by
 obtain ⟨lq,hv⟩:=cy6 gq tq oq zq;have:=tq.low (a:=c8) [] [] rfl (by simpa using hv) (by simp;omega)
 grind [cg1]
theorem da6 {lim:Nat}:∀ (n:Nat) (f:Fm),Dc [] f->s6 f<=4096->fdp f<=n->∀ {P:Prop} {w:Nat} {b:Bool} {w':Nat},S7 [] f P->dT lim n w f=(b,w',0)->(b=true↔P)
 | 0,f,_,_,hn,_,_,_,_,_,_=>by grind [bQ9]
 | n + 1,f,hd,hz,hn,P,w,b,w',hf,h=>by
  have ih:=da6 (lim:=lim) n;generalize hg:([]:List Ty)=g at hd;cases hd with
  | @eq g x y gx gy t1 t2 =>
   rw [da5] at h;obtain ⟨m,k,d1,d2,rfl⟩:=hf.eq_inv
   grind [dK4]
  | @two g k a c hk da db =>
   rw [bR0] at hn;rw [y8] at hz;have code:=dD4 (lim:=lim) n w a;obtain ⟨P,Q,hP,hQ,hk2⟩:=hf.aw8
   grind [cn7,cn9]
  | @bnd g all q a gq tq oq da =>
   subst hg;rw [cA3] at hn;rw [aX0] at hz;obtain ⟨lq,hv⟩:=cy6 gq tq oq a_;have el:=cg1 (s:=I4) gq lq oq a_;have tl:l7 TyG [] (q.up (-1) 1) c8:=by rw [el];exact cV7 gq tq oq a_
   obtain ⟨u0,M,hu,hM⟩:=tl.den ao7.nil;obtain rfl:=U.au9 hu;have hq:∀ x:Nat,Den [⟨.nat,x⟩] q .nat M:=fun x=>by
    obtain ⟨u1,m1,hu1,h1⟩:=tq.den (ao7.nil.snoc (u:=.nat) x);obtain rfl:=U.au9 hu1;have h2:=h1.low (a:=.nat) (x:=x) [] [] rfl (by simpa using hv) (by simp;omega);have:=aO1 (h2.uniq hM);rw [<- this];exact h1
   rw [cn8,<- el] at h;cases hN:dN lim w (q.up (-1) 1) with|mk N r=>?_
   obtain ⟨w1,e1⟩:=r;rw [hN] at h;split at h
   ·grind
   ·rename_i he
    have e0:e1=0:=by simpa using he
    subst e0;obtain rfl:=da4 tl hM hN;have inst:∀ (Q:Nat->Prop),(∀ x:Nat,S7 [⟨.nat,x⟩] a (Q x))->∀ (j w:Nat) (b:Bool) (w':Nat),dW (fun w f=>dT lim n w f) a j w=(b,w',0)->(b=true↔Q j):=by
     intro Q hQ j w b w' hw;unfold dW at hw;split at hw
     ·simp at hw
     ·split at hw
      ·grind
      ·rename_i hp
       unfold ad0 at hw hp;split at hw
       ·rename_i hle
        have zj:a8 (G3 j)<=4096:=by rw [Y2];omega
        have dj:Dc [] (I3 (G3 j) 0 a 0):=Dc.dN2 (g:=[]) da (am8 j) (l7.num j) zj b_ a_;have sj:s6 (I3 (G3 j) 0 a 0)<=4096:=by
         rw [(da.G (u:=true)).az0 0 a_ a_];exact hle
        have fj:=(hQ j).inn (s:=G3 j) [] [] rfl (Den.ea0 j) (by simp;omega) a_;exact ih _ dj sj (by rw [cA4];omega) (by simpa using fj) hw
       grind
    obtain ⟨u,A,eu,hA,hR⟩:=hf.bm9;obtain rfl:=U.au9 eu;have parts:∀ x:Nat,∃ L Q:Prop,S7 [⟨.nat,x⟩] (V5 (a9 0) q) L/\S7 [⟨.nat,x⟩] a Q/\((all=false/\A x=(L/\Q))\/(all=true/\A x=(L->Q))):=fun x=>by
     obtain ⟨L,Q,h1,h2,h3⟩:=(hA x).aw8
     grind
    have hL:∀ (x:Nat) (L:Prop),S7 [⟨.nat,x⟩] (V5 (a9 0) q) L->(L↔x<N):=fun x L hl=>by
     have:=hl.uniq (df5 (.var (i:=0) rfl) (hq x))
     grind
    obtain ⟨Q,hQ⟩:=cw5 fun x:Nat=>let ⟨_,Q,_,h2,_⟩:=parts x;(⟨Q,h2⟩:∃ Q,S7 [⟨.nat,x⟩] a Q);obtain ⟨r1,r2⟩:=da3 (inst Q hQ) all _ _ _ _ _ h;cases all with
    | true =>
     rw [r1 rfl];rcases hR with ⟨_,rfl⟩|⟨h4,_⟩
     ·constructor
      ·intro h x
       obtain ⟨L,Q',h1,h2,h3⟩:=parts x;rcases h3 with ⟨h4,_⟩|⟨_,h3⟩
       ·cases h4
       ·rw [h3];exact fun l=>(h2.uniq (hQ x)).2 (h x (az9 _) (by grind))
      ·intro h j _ hj
       obtain ⟨L,Q',h1,h2,h3⟩:=parts j;rcases h3 with ⟨h4,_⟩|⟨_,h3⟩
       ·cases h4
       ·have:=h j
        rw [h3] at this;exact (h2.uniq (hQ j)).1 (this ((hL j L h1).2 (by grind)))
     ·simp at h4
    | false =>
     rw [r2 rfl];rcases hR with ⟨h4,_⟩|⟨_,rfl⟩
     ·simp at h4
     ·constructor
      ·intro ⟨j,_,hj,hq'⟩
       obtain ⟨L,Q',h1,h2,h3⟩:=parts j;rcases h3 with ⟨_,h3⟩|⟨h4,_⟩
       ·exact ⟨j,by rw [h3];exact ⟨(hL j L h1).2 (by grind),(h2.uniq (hQ j)).2 hq'⟩⟩
       ·cases h4
      ·intro ⟨j,hA'⟩
       obtain ⟨L,Q',h1,h2,h3⟩:=parts j;rcases h3 with ⟨_,h3⟩|⟨h4,_⟩
       ·rw [h3] at hA'
        exact ⟨j,az9 _,by grind,(h2.uniq (hQ j)).1 hA'.2⟩
       ·cases h4
inductive Pf where
 | mk (kind index:Int) (type:Ty) (a7:List Tm) (N5:List Fm) (args:List Pf)
def Pf.kind:Pf->Int | .mk k _ _ _ _ _=>k
def Pf.index:Pf->Int | .mk _ i _ _ _ _=>i
def Pf.type:Pf->Ty | .mk _ _ t _ _ _=>t
def Pf.a7:Pf->List Tm | .mk _ _ _ l _ _=>l
def Pf.N5:Pf->List Fm | .mk _ _ _ _ l _=>l
def Pf.args:Pf->List Pf | .mk _ _ _ _ _ l=>l
theorem Pf.ind {p:Pf->Prop} (h:∀ t,(∀ x∈t.args,p x)->p t):∀ t,p t:=by
 intro t;refine Pf.rec (motive_1:=p) (motive_2:=fun l=>∀ x∈l,p x) (fun k i ty l fs as ih=>h _ ih) b_ (fun a l ha hl x hx=>?_) t
 grind
mutual
def Pf.cells:Pf->List V
 | .mk k i t l fs as=>[.int .i64 k,.int .i64 i,.int .i64 t.kind,.sl .any (t.args.map Ty.cells),.sl .any (l.map Tm.cells),.sl .any (fs.map Fm.cells),.sl .any (Pf.rows as)]
def Pf.rows:List Pf->List (List V)
 | []=>[]
 | t::l=>t.cells::Pf.rows l
end
theorem Pf.X9:∀ l,Pf.rows l=l.map Pf.cells
 | []=>by simp [Pf.rows]
 | t::l=>by simp [Pf.rows,Pf.X9 l]
theorem Pf.l4 (t:Pf):t.cells=[.int .i64 t.kind,.int .i64 t.index,.int .i64 t.type.kind,.sl .any (t.type.args.map Ty.cells),.sl .any (t.a7.map Tm.cells),.sl .any (t.N5.map Fm.cells),.sl .any (t.args.map Pf.cells)]:=by
 cases t;simp [Pf.cells,Pf.X9,Pf.kind,Pf.index,Pf.type,Pf.a7,Pf.N5,Pf.args]
section
variable (t:Pf)
theorem Pf.w9:t.cells.length=7:=by rw [Pf.l4];rfl
theorem Pf.al8:t.cells[0]? = some (.int .i64 t.kind):=by rw [Pf.l4];rfl
theorem Pf.al9:t.cells[1]? = some (.int .i64 t.index):=by rw [Pf.l4];rfl
theorem Pf.av9:t.cells[2]? = some (.int .i64 t.type.kind):=by rw [Pf.l4];rfl
theorem Pf.aH7:t.cells[3]? = some (.sl .any (t.type.args.map Ty.cells)):=by rw [Pf.l4];rfl
theorem Pf.ba4:t.cells[4]? = some (.sl .any (t.a7.map Tm.cells)):=by rw [Pf.l4];rfl
theorem Pf.ds9:t.cells[5]? = some (.sl .any (t.N5.map Fm.cells)):=by rw [Pf.l4];rfl
theorem Pf.dt0:t.cells[6]? = some (.sl .any (t.args.map Pf.cells)):=by rw [Pf.l4];rfl
theorem Pf.Q5:List.take 7 t.cells=t.cells:=ak6 (by grind [Pf.w9])
theorem Pf.ay3:List.take 2 (List.drop 2 t.cells)=t.type.cells:=by rw [Pf.l4,Ty.l4];rfl
theorem Pf.N4:t.cells.all am9=true:=by rw [Pf.l4];rfl
end
variable {cs:List V} {t:Pf}
theorem cQ0 (h:cs.length=7):G8 cs 0 t.cells=t.cells:=P4 (by rw [h,Pf.w9])
theorem ci6:∀ t:Pf,B1 t.cells=t.cells:=by
 intro t
 induction t using Pf.ind with
 | h t ih =>
  rw [Pf.l4];simp only [B1,J5,aL7,V.sl.injEq,ag3,ag2,F4,ax5,aF8]
  grind [J0,List.map_congr_left]
theorem cR4 (l:List Pf):A7 (l.map Pf.cells)=l.map Pf.cells:=by
 grind [J0,List.map_congr_left,ci6]
section
variable {S:Id->Prop}
theorem aW9:∀ t:Pf,InL S t.cells:=by
 intro t
 induction t using Pf.ind with
 | h t ih =>
  rw [Pf.l4];simp only [InL,InV,ae0,ag2,ag3,ai5,aH0,aG9]
  grind [R5]
theorem bN7 (l:List Pf):S8 S (l.map Pf.cells):=by
 grind [R5,aW9]
end
theorem cj8 (l:List Pf):(l.map Pf.cells).all (fun e=>e.length==7)=true:=by simp [Pf.w9]
theorem ck1 (l:List Pf):(l.map Pf.cells).flatten.all am9=true:=by
 rw [ad2];intro v hv;obtain ⟨c,hc,hv⟩:=bj4.1 hv;obtain ⟨x,_,rfl⟩:=G5.1 hc;exact ad2.1 (Pf.N4 x) v hv
theorem Pf.r7 (k i:Int) (t:Ty) (l:List Tm) (fs:List Fm) (as:List Pf):(Pf.mk k i t l fs as).cells=[.int .i64 k,.int .i64 i,.int .i64 t.kind,.sl .any (t.args.map Ty.cells),.sl .any (l.map Tm.cells),.sl .any (fs.map Fm.cells),.sl .any (as.map Pf.cells)]:=by
 rw [Pf.l4];rfl
inductive PfW:Pf->Prop
 | mk (k i:Int) (t:Ty) (l:List Tm) (fs:List Fm) (as:List Pf) (ht:TyW t) (h1:l.length<=100000) (h2:∀ x∈l,TmW x) (h3:fs.length<=100000) (h4:∀ x∈fs,FmW x) (h5:as.length<=100000) (h6:∀ x∈as,PfW x):PfW (.mk k i t l fs as)
theorem PfW.ty (h:PfW t):TyW t.type:=by cases h;assumption
theorem PfW.au6 (h:PfW t):t.a7.length<=100000:=by cases h;assumption
theorem PfW.dt9 (h:PfW t):t.N5.length<=100000:=by cases h;assumption
theorem PfW.len (h:PfW t):t.args.length<=100000:=by cases h;assumption
theorem PfW.term {x:Tm} (h:PfW t) (hx:x∈t.a7):TmW x:=by cases h with|mk k i t l fs as ht h1 h2 h3 h4 h5 h6=>exact h2 x hx
theorem PfW.form {x:Fm} (h:PfW t) (hx:x∈t.N5):FmW x:=by cases h with|mk k i t l fs as ht h1 h2 h3 h4 h5 h6=>exact h4 x hx
theorem PfW.arg {t x:Pf} (h:PfW t) (hx:x∈t.args):PfW x:=by cases h with|mk k i t l fs as ht h1 h2 h3 h4 h5 h6=>exact h6 x hx
def tyZ:Ty:=.mk 0 []
def pfK (k:Int) (l:List Pf):Pf:=.mk k 0 tyZ [] [] l
def ae3 (i:Int):Pf:=.mk 1 i tyZ [] [] []
def at2 (f:Fm) (p:Pf):Pf:=.mk 6 0 tyZ [] [f] [p]
def ae2 (k:Int) (s:Ty) (p:Pf):Pf:=.mk k 0 s [] [] [p]
def aY4 (k:Int) (t:Tm) (p:Pf):Pf:=.mk k 0 tyZ [t] [] [p]
def aA6 (k:Int) (f:Fm) (t:Tm) (p:Pf):Pf:=.mk k 0 tyZ [t] [f] [p]
def aB8 (k:Int) (f:Fm) (t:Tm) (p q:Pf):Pf:=.mk k 0 tyZ [t] [f] [p,q]
def E9 (t:Tm):Pf:=.mk 18 0 tyZ [t] [] []
def ai8 (f:Fm) (p q:Pf):Pf:=.mk 19 0 tyZ [] [f] [p,q]
theorem aQ2:TyW tyZ:=.mk _ _ b_ b_
theorem bK7 {l:List Pf} (h:l.length<=10) (hw:∀ x∈l,PfW x):PfW (pfK k l):=.mk _ _ _ _ _ _ aQ2 b_ b_ b_ b_ a_ hw
theorem aB7 {i:Int}:PfW (ae3 i):=.mk _ _ _ _ _ _ aQ2 b_ b_ b_ b_ b_ b_
variable {p:Pf}
theorem cD6 (hf:FmW f) (hp:PfW p):PfW (at2 f p):=.mk _ _ _ _ _ _ aQ2 b_ b_ b_ (by simpa using hf) b_ (by simpa using hp)
theorem bT1 (hs:TyW s) (hp:PfW p):PfW (ae2 k s p):=.mk _ _ _ _ _ _ hs b_ b_ b_ b_ b_ (by simpa using hp)
variable {t:Tm}
theorem dO7 (ht:TmW t) (hp:PfW p):PfW (aY4 k t p):=.mk _ _ _ _ _ _ aQ2 b_ (by simpa using ht) b_ b_ b_ (by simpa using hp)
theorem bz3 (hf:FmW f) (ht:TmW t) (hp:PfW p):PfW (aA6 k f t p):=.mk _ _ _ _ _ _ aQ2 b_ (by simpa using ht) b_ (by simpa using hf) b_ (by simpa using hp)
theorem cD7 {q:Pf} (hf:FmW f) (ht:TmW t) (hp:PfW p) (hq:PfW q):PfW (aB8 k f t p q):=.mk _ _ _ _ _ _ aQ2 b_ (by simpa using ht) b_ (by simpa using hf) b_ (by simp [hp,hq])
theorem Q2 (ht:TmW t):PfW (E9 t):=.mk _ _ _ _ _ _ aQ2 b_ (by simpa using ht) b_ b_ b_ b_
theorem aT8 {q:Pf} (hf:FmW f) (hp:PfW p) (hq:PfW q):PfW (ai8 f p q):=.mk _ _ _ _ _ _ aQ2 b_ b_ b_ (by simpa using hf) b_ (by simp [hp,hq])
attribute [go_sem] Pf.w9 Pf.al8 Pf.al9 Pf.av9 Pf.aH7 Pf.ba4 Pf.ds9 Pf.dt0 Pf.Q5 Pf.ay3 Pf.N4 cQ0 ci6 cR4 aW9 bN7 cj8 ck1
def cs9 (k:Int):Option (Int × Int × Int × Bool × Bool) :=
 if k=1\/k=2 then some (0,0,0,true,false)
 else if k=3\/k=7 then some (0,0,2,false,false)
 else if k=4\/k=5\/k=20 then some (0,0,1,false,false)
 else if k=6 then some (0,1,1,false,false)
 else if k=8\/k=12 then some (0,0,1,false,true)
 else if k=9\/k=13 then some (1,0,1,false,false)
 else if k=10\/k=14 then some (1,1,1,false,false)
 else if k=11\/k=15 then some (0,0,2,false,false)
 else if k=16\/k=17 then some (1,1,2,false,false)
 else if k=18 then some (1,0,0,false,false)
 else if k=19 then some (0,1,2,false,false)
 else none
def bT2 (k:Int):V:=match cs9 k with
 | some (a,b,c,x,y)=>.tup [.agg [.int .i64 a,.int .i64 b,.int .i64 c,.bool x,.bool y],.bool true]
 | none=>.undef
structure TmS (t:Tm):Prop where
 g:TmG t
 z:a8 t<=100000
structure FmS (f:Fm):Prop where
 g:FmG true f
 z:s6 f<=1000000000
 al:AT f
inductive PfG:Pf->Prop
 | hyp {i:Int} (h:0<=i):PfG (ae3 i)
 | two {k:Int} {p q:Pf} (hk:k=3\/k=7\/k=11\/k=15):PfG p->PfG q->PfG (pfK k [p,q])
 | one {k:Int} {p:Pf} (hk:k=4\/k=5\/k=20):PfG p->PfG (pfK k [p])
 | imp {f:Fm} {p:Pf}:FmS f->PfG p->PfG (at2 f p)
 | all {k:Int} {s:Ty} {p:Pf} (hk:k=8\/k=12):N0 1 s->PfG p->PfG (ae2 k s p)
 | at {k:Int} {t:Tm} {p:Pf} (hk:k=9\/k=13):TmS t->PfG p->PfG (aY4 k t p)
 | ex {k:Int} {f:Fm} {t:Tm} {p:Pf} (hk:k=10\/k=14):FmS f->TmS t->PfG p->PfG (aA6 k f t p)
 | ind {k:Int} {f:Fm} {t:Tm} {p q:Pf} (hk:k=16\/k=17):FmS f->TmS t->PfG p->PfG q->PfG (aB8 k f t p q)
 | refl {t:Tm}:TmS t->PfG (E9 t)
 | subst {f:Fm} {p q:Pf}:FmS f->PfG p->PfG q->PfG (ai8 f p q)
theorem PfG.facts (h:PfG p):∃ a b c x y,cs9 p.kind=some (a,b,c,x,y)/\(1<=p.kind/\p.kind<=20)/\(p.a7.length:Int)=a/\(p.N5.length:Int)=b/\(p.args.length:Int)=c/\0<=p.index/\(x=false->p.index=0) /\
  (y=true->TyG p.type)/\(y=false->p.type=tyZ)/\(∀ t∈p.a7,TmS t)/\(∀ f∈p.N5,FmS f)/\(∀ q∈p.args,PfG q):=by
 cases h with
 | @hyp i h=>exact ⟨0,0,0,true,false,rfl,(by show (1:Int)<=1/\(1:Int)<=20;decide),rfl,rfl,rfl,h,b_,b_,fun _=>rfl,by simp [ae3,Pf.a7],by simp [ae3,Pf.N5],by simp [ae3,Pf.args]⟩
 | @two k p q hk h1 h2 =>
  refine ⟨0,0,2,false,false,?_,?_,rfl,rfl,rfl,aK7 _,fun _=>rfl,b_,fun _=>rfl,by simp [pfK,Pf.a7],by simp [pfK,Pf.N5],by grind [pfK,Pf.args]⟩
  ·rcases hk with rfl|rfl|rfl|rfl<;>rfl
  ·show 1<=k/\k<=20;omega
 | @one k p hk h1 =>
  refine ⟨0,0,1,false,false,?_,?_,rfl,rfl,rfl,aK7 _,fun _=>rfl,b_,fun _=>rfl,by simp [pfK,Pf.a7],by simp [pfK,Pf.N5],by simp [pfK,Pf.args,h1]⟩
  ·rcases hk with rfl|rfl|rfl<;>rfl
  ·show 1<=k/\k<=20;omega
 | @imp f p hf h1=>exact ⟨0,1,1,false,false,rfl,(by show (1:Int)<=6/\(6:Int)<=20;decide),rfl,rfl,rfl,aK7 _,fun _=>rfl,b_,fun _=>rfl,by simp [at2,Pf.a7],by grind [at2,Pf.N5],by grind [at2,Pf.args]⟩
 | @all k s p hk hs h1 =>
  refine ⟨0,0,1,false,true,?_,?_,rfl,rfl,rfl,aK7 _,fun _=>rfl,fun _=>hs.G a_,b_,by simp [ae2,Pf.a7],by simp [ae2,Pf.N5],by grind [ae2,Pf.args]⟩
  ·rcases hk with rfl|rfl<;>rfl
  ·show 1<=k/\k<=20;omega
 | @«at» k t p hk ht h1 =>
  refine ⟨1,0,1,false,false,?_,?_,rfl,rfl,rfl,aK7 _,fun _=>rfl,b_,fun _=>rfl,by grind [aY4,Pf.a7],by simp [aY4,Pf.N5],by grind [aY4,Pf.args]⟩
  ·rcases hk with rfl|rfl<;>rfl
  ·show 1<=k/\k<=20;omega
 | @ex k f t p hk hf ht h1 =>
  refine ⟨1,1,1,false,false,?_,?_,rfl,rfl,rfl,aK7 _,fun _=>rfl,b_,fun _=>rfl,by grind [aA6,Pf.a7],by grind [aA6,Pf.N5],by grind [aA6,Pf.args]⟩
  ·rcases hk with rfl|rfl<;>rfl
  ·show 1<=k/\k<=20;omega
 | @ind k f t p q hk hf ht h1 h2 =>
  refine ⟨1,1,2,false,false,?_,?_,rfl,rfl,rfl,aK7 _,fun _=>rfl,b_,fun _=>rfl,by grind [aB8,Pf.a7],by grind [aB8,Pf.N5],by grind [aB8,Pf.args]⟩
  ·rcases hk with rfl|rfl<;>rfl
  ·show 1<=k/\k<=20;omega
 | @refl t ht=>exact ⟨1,0,0,false,false,rfl,(by show (1:Int)<=18/\(18:Int)<=20;decide),rfl,rfl,rfl,aK7 _,fun _=>rfl,b_,fun _=>rfl,by grind [E9,Pf.a7],by simp [E9,Pf.N5],by simp [E9,Pf.args]⟩
 | @subst f p q hf h1 h2=>exact ⟨0,1,2,false,false,rfl,(by show (1:Int)<=19/\(19:Int)<=20;decide),rfl,rfl,rfl,aK7 _,fun _=>rfl,b_,fun _=>rfl,by simp [ai8,Pf.a7],by grind [ai8,Pf.N5],by grind [ai8,Pf.args]⟩
mutual
def Pf.szW:Pf->Int
 | .mk _ _ _ l fs as=>Pf.Q6 (Fm.Q6 (Tm.Q6 1 l) fs) as
def Pf.Q6:Int->List Pf->Int
 | n,[]=>n
 | n,p::l=>Pf.Q6 (IntKind.i64.wrap (n+p.szW)) l
end
theorem Pf.aY7 (t:Pf):t.szW=Pf.Q6 (Fm.Q6 (Tm.Q6 1 t.a7) t.N5) t.args:=by cases t;rfl
theorem Pf.aa1 {n:Int}:Pf.Q6 n []=n:=by rw [Pf.Q6]
theorem Pf.U7 {n:Int} {t:Pf} {l:List Pf}:Pf.Q6 n (t::l)=Pf.Q6 (IntKind.i64.wrap (n+t.szW)) l:=by rw [Pf.Q6]
mutual
def Pf.small:Pf->Bool
 | .mk _ _ _ l fs as=>l.all (fun t=>!decide (t.szW>4096))&&fs.all (fun f=>!decide (f.szW>4096))&&Pf.an1 as
def Pf.an1:List Pf->Bool
 | []=>true
 | p::l=>p.small&&Pf.an1 l
end
theorem Pf.dj3 (t:Pf):t.small=(t.a7.all (fun t=>!decide (t.szW>4096))&&t.N5.all (fun f=>!decide (f.szW>4096))&&Pf.an1 t.args):=by cases t;rfl
theorem Pf.cu5:Pf.an1 []=true:=by rw [Pf.an1]
theorem Pf.ch5 {t:Pf} {l:List Pf}:Pf.an1 (t::l)=(t.small&&Pf.an1 l):=by rw [Pf.an1]
def Pf.fits (p:Pf):Bool:=p.small&&decide (p.szW<=16384)
end GoAbs
namespace GoAbs
open Go Go.RowKit
theorem Rel.below {env:Nat->Option (List V)} {g:G} {w w':World} {h:H} (r:Rel env g w h) (hB:Below w.heap.size w w') (b0 n:Nat) (hb0:w.heap.size<=b0) (hlt:b0<w'.heap.size) :
  ∃ g',Ext g w g' w'/\Rel env g' w' h/\g'.lim b0=n:=by
 let g':G:={ g with lim:=fun b=>if b=b0 then n else g.lim b }
 have S9:∀ b,b≠b0->g'.lim b=g.lim b:=fun b hb=>by grind
 have hold:∀ b,b<w.heap.size->w'.heap[b]? = w.heap[b]? := fun b hb=>hB.block b hb;have hx:Ext g w g' w':=by
  refine ⟨hB.os,hB.tape,hB.output,hB.size,fun b=>?_,fun b o ho=>?_,⟨fun b hb hw=>⟨hold b hb,hw⟩,fun b ok vs ty hb hn=>⟨.inl (hold b (Z3.1 hb).1),hn⟩⟩,fun id h=>⟨h,rfl,.inl rfl⟩,w7 _⟩
  ·by_cases e:b=b0
   ·rw [e,r.B3 b0 hb0];exact az9 _
   grind
  ·have hb:=r.bx8 (b:=b) a_
   grind [World.cell?]
 refine ⟨g',hx,?_,by grind⟩;refine ⟨r.dom,r.top,fun id cs e=>?_,r.inj,fun id n' k e=>?_,r.apart,r.U9,r.bp3 fun id l e=>⟨e,fun m=>⟨rfl,hold _ m.lt,fun a=>a⟩⟩,fun b hb=>?_,fun k cs e=>(r.glob k cs e).mono hx⟩
 ·obtain ⟨vs,⟨ty,h1⟩,h2,h3,h4,h5⟩:=r.box id cs e
  exact ⟨vs,⟨ty,by grind⟩,h2,fun i c v x y=>(h3 i c v x y).mono hx,by grind,h5⟩
 ·obtain ⟨h1,h2,h3,hk⟩:=r.tok id n' k e
  refine ⟨h1,h2,fun hl=>?_,hk⟩;obtain ⟨b,off,vs',s1,⟨ty,s2⟩,s3,s4,s5⟩:=h3 hl;exact ⟨b,off,vs',s1,⟨ty,by grind⟩,s3,by grind,s5⟩
 ·rw [S9 b a_];exact r.B3 b a_
theorem Ext.same {env:Nat->Option (List V)} {g:G} {w w':World} {h:H} (r:Rel env g w h) (hB:Below w.heap.size w w'):∃ g',Ext g w g' w'/\Rel env g' w' h:=by
 by_cases hs:w.heap.size<w'.heap.size
 ·obtain ⟨g',h1,h2,_⟩:=r.below hB w.heap.size 0 (w7 _) hs
  exact ⟨g',h1,h2⟩
 ·
  have he:w'.heap.size=w.heap.size:=by have:=hB.size;omega
  have hold:∀ b,b<w.heap.size->w'.heap[b]? = w.heap[b]? := fun b hb=>hB.block b hb;have hx:Ext g w g w':=by
   refine ⟨hB.os,hB.tape,hB.output,hB.size,fun b=>w7 _,fun b o ho=>?_,⟨fun b hb hw=>⟨hold b hb,hw⟩,fun b ok vs ty hb hn=>⟨.inl (hold b (Z3.1 hb).1),hn⟩⟩,fun id h=>⟨h,rfl,.inl rfl⟩,w7 _⟩;have hb:=r.bx8 (b:=b) a_;simp only [World.cell?,hold b hb]
  refine ⟨g,hx,r.dom,r.top,fun id cs e=>?_,r.inj,fun id n' k e=>?_,r.apart,r.U9,r.bp3 fun id l e=>⟨e,fun m=>⟨rfl,hold _ m.lt,fun a=>a⟩⟩,fun b hb=>r.B3 b a_,fun k cs e=>(r.glob k cs e).mono hx⟩
  ·obtain ⟨vs,⟨ty,h1⟩,h2,h3,h4,h5⟩:=r.box id cs e
   exact ⟨vs,⟨ty,by grind⟩,h2,fun i c v x y=>(h3 i c v x y).mono hx,h4,h5⟩
  ·obtain ⟨h1,h2,h3,hk⟩:=r.tok id n' k e
   refine ⟨h1,h2,fun hl=>?_,hk⟩;obtain ⟨b,off,vs',s1,⟨ty,s2⟩,s3,s4,s5⟩:=h3 hl;exact ⟨b,off,vs',s1,⟨ty,by grind⟩,s3,s4,s5⟩
theorem bJ4:∀ l:List Int,(ints l).flatten=l.map fun x=>V.int .i64 x
 | []=>rfl
 | x::l=>by have:=bJ4 l;grind [ints]
variable {l:List Int}
theorem dy3 {P:Program} {env:Nat->Option (List V)} {f:FuncId} (hf:ac4 P f) {k e:TypeId} (hk:P.underlying k=some (.int .i64)) (he:P.underlying e=some .bool) {id:Id} {h:H} (hid:h id=some (.map l))
  (hc:∀ (b n:Nat) (D0:DataW Unit) (w:World),w.ownsMap P k (plainElem (H:=Unit) P e) b n D0->(∀ x:Int,Maps.has D0 (.int .i64 x)=true↔x∈l)->l.Pairwise (·<·) ->
   Calls P f #[.map (some b)] w fun e w'=>∃ v,e=.returned v/\w'.ownsRow w.heap.size k 1 v l.length (l.map (Value.int .i64))/\Below w.heap.size w w'):Ret P env f [.mpr id] h (.sl .any (ints l)) h:=by
 refine ⟨hf,fun g w vs r hv=>?_⟩;obtain ⟨c,rfl⟩:∃ c,vs=#[c]:=by
  have h1:=hv.1;obtain ⟨l'⟩:=vs
  match l',h1 with
  | [c],_=>exact ⟨c,rfl⟩
 have h0:=hv.2 0 c (.mpr id) b_ b_;cases h0 with|mpr _ bE7=>?_
 obtain ⟨m1,m2,m3⟩:=r.map id l hid;obtain ⟨D,o,hD⟩:=m1.owns hk he;refine (hc (g.loc id) l.length D w o hD m1.sorted).mono ?_;rintro e w' ⟨v,rfl,ho,hB⟩;rcases ho.2 with ⟨rfl,hl⟩|⟨gk,cap,cur,rfl,hb,ac8,hle,_,hcs,dY7⟩
 ·obtain ⟨g',x1,x2⟩:=Ext.same r hB
  have:l=[]:=aR1.1 hl;subst this;exact ⟨_,g',rfl,x1,x2,.sl none 0 .any [] 1 (fun _=>.nilFunc) b_ b_ b_ b_ trivial⟩
 ·have hgl:gk<w'.heap.size:=(Z3.1 ac8).1
  obtain ⟨g',x1,x2,x3⟩:=r.below hB gk l.length hb hgl;refine ⟨_,g',rfl,x1,x2,?_⟩;have hlen:(ints l).length=l.length:=by simp [ints]
  have hfl:=bJ4 l;rw [<- hlen];refine .sl (some ⟨gk,0,none⟩) cap .any (ints l) 1 (fun i=>cur[i]?.getD undef) (fun x hx=>?_) (by rw [hlen];exact hle) (fun _=>⟨gk,0,rfl,a_,fun i hi=>?_⟩) (fun i v hv=>?_) trivial
  ·grind [ints]
  ·grind [World.cell?]
  ·rw [hfl,ah6] at hv
   cases hx:l[i]? with
   | none=>rw [hx] at hv;cases hv
   | some x =>
    rw [hx] at hv;cases hv;have hi:i<l.length:=(F2.1 hx).1;have h4:(cur.toList.take (l.length * 1))[i]? = some (.int .i64 x):=by rw [dY7,ah6,hx];rfl
    rw [be2,B8 a_] at h4;have h5:cur[i]? = some (.int .i64 x):=by simpa using h4
    rw [h5];exact .int _ _
def T0 (l m:List Int):List Int:=l.foldl (fun m x=>V2 x m) m
def V9 (a b:List Int):List Int:=T0 b (T0 a [])
mutual
def Tm.marks:Tm->Int->List Int->List Int
 | .mk k i _ l,d,m=>Tm.ap9 l (d+m9 k) (if (k==1&&decide (i>=d))=true then V2 (i - d) m else m)
def Tm.ap9:List Tm->Int->List Int->List Int
 | [],_,m=>m
 | t::l,d,m=>Tm.ap9 l d (t.marks d m)
end
theorem Tm.bc3 (t:Tm) (d:Int) (m:List Int):t.marks d m=Tm.ap9 t.args (d+m9 t.kind) (if (t.kind==1&&decide (t.index>=d))=true then V2 (t.index - d) m else m):=by
 cases t;rfl
theorem Tm.aJ7 {d:Int} {m:List Int}:Tm.ap9 [] d m=m:=by rw [Tm.ap9]
variable {t:Tm}
theorem Tm.bm5 {l:List Tm} {d:Int} {m:List Int}:Tm.ap9 (t::l) d m=Tm.ap9 l d (t.marks d m):=by rw [Tm.ap9]
def aF6 (t:Tm):List Int:=t.marks 0 []
theorem aK3 (n:Int):∀ l:List Int,(V2 n l).length<=l.length+1
 | []=>by simp [V2]
 | x::l=>by
  rw [V2];split
  ·simp
  ·split
   ·simp
   ·have:=aK3 n l;grind
theorem aq3:∀ (l m:List Int),(T0 l m).length<=l.length+m.length
 | [],m=>by simp [T0]
 | x::l,m=>by
  have h1:=aq3 l (V2 x m)
  grind [aK3,T0]
theorem bA2:∀ {l m:List Int} {x:Int},x∈T0 l m↔x∈l\/x∈m
 | [],m,x=>by simp [T0]
 | y::l,m,x=>by
  have:=bA2 (l:=l) (m:=V2 y m) (x:=x)
  grind [T0,az4]
theorem aD2:∀ {l m:List Int},m.Pairwise (·<·)->(T0 l m).Pairwise (·<·)
 | [],m,h=>h
 | x::l,m,h=>aD2 (l:=l) (aq7 h)
theorem bn7 {i:Nat} {x:Int} (h:l[i]? = some x) (m:List Int):T0 (l.take (i+1)) m=V2 x (T0 (l.take i) m):=by
 grind [List.take_add_one,T0]
theorem cv6 {a b:List Int} {x:Int}:x∈V9 a b↔x∈a\/x∈b:=by
 grind [V9,bA2]
theorem bF2 (a b:List Int):(V9 a b).Pairwise (·<·):=aD2 (aD2 List.Pairwise.nil)
theorem Tm.bS5:∀ (t:Tm) (d:Int) (m:List Int),m.Pairwise (·<·)->(t.marks d m).Pairwise (·<·):=by
 intro t
 induction t using Tm.ind with|h t ih=>?_
 intro d m hm;rw [Tm.bc3];have h0:(if (t.kind==1&&decide (t.index>=d))=true then V2 (t.index - d) m else m).Pairwise (·<·):=by
  split
  ·exact aq7 hm
  ·exact hm
 have:∀ (l:List Tm),(∀ x∈l,x∈t.args)->∀ m0:List Int,m0.Pairwise (·<·)->(Tm.ap9 l (d+m9 t.kind) m0).Pairwise (·<·):=by
  intro l
  induction l with
  | nil=>intro _ m0 h0;exact h0
  | cons x l ihl =>
   intro hl m0 h0;exact ihl (fun y hy=>hl y (by simp [hy])) _ (ih x (hl x b_) _ _ h0)
 grind
theorem Tm.bJ9:∀ (t:Tm) (d:Int) (m:List Int),(t.marks d m).length<=a8 t+m.length:=by
 intro t
 induction t using Tm.ind with|h t ih=>?_
 intro d m;rw [Tm.bc3,show a8 t=F7 t.args+1 by cases t;rfl];have h0:(if (t.kind==1&&decide (t.index>=d))=true then V2 (t.index - d) m else m).length<=1+m.length:=by
  split
  ·have:=aK3 (t.index - d) m;omega
  ·omega
 generalize (if (t.kind==1&&decide (t.index>=d))=true then V2 (t.index - d) m else m)=m0 at h0;have:∀ (l:List Tm),(∀ x∈l,x∈t.args)->∀ m0:List Int,(Tm.ap9 l (d+m9 t.kind) m0).length<=F7 l+m0.length:=by
  intro l
  induction l with
  | nil=>intro _ m0;rw [Tm.aJ7];omega
  | cons x l ihl =>
   intro hl m0;rw [Tm.bm5,F7];have h1:=ihl (fun y hy=>hl y (by simp [hy])) (x.marks (d+m9 t.kind) m0);have h2:=ih x (hl x b_) (d+m9 t.kind) m0;omega
 grind
theorem ed9 {P:Program} {env:Nat->Option (List V)} {n:Nat} {fn:Func} {g0:G} {w0:World} {h0:H} {v:V} {gen:Nat} {σ:St} {k:List It}
  {d:Id} {o:Obj} (g9:Rel env g0 w0 h0) (hd:h0 d=some o)
  (hin:InV (fun id=>p8 h0 d (.map l) id≠none) v) (hag:a6 d h0 σ.h) (hat:σ.h d=some (.map l))
  (hv:bd1 P σ fn.results.toList v):AR ⟨P,env,n,fn,g0,w0,h0,v,p8 h0 d (.map l)⟩ gen k .ret σ:=by
 unfold bd1 at hv;split at hv
 ·rename_i vs hvs
  refine ao5 (bN4 hvs hv ?_ ?_ hin ?_ g9)
  ·intro id hid
   by_cases e:id=d
   ·subst e;rw [hat];exact A1.symm
   ·simp only [m7 e] at hid ⊢
    exact hag id e hid
  all_goals grind [A1,m7]
 ·exact hv.elim
def pvC (f:Fm) (u:List Int):List V:=[.int .i64 f.kind,.int .i64 f.type.kind,.sl .any (f.type.args.map Ty.cells),.sl .any (f.a7.map Tm.cells),.sl .any (f.args.map Fm.cells),.sl .any (ints u)]
section
variable (f:Fm) (u:List Int)
theorem cE1:(pvC f u).length=6:=rfl
theorem ea6:(pvC f u)[0]? = some (.int .i64 f.kind):=rfl
theorem ea7:(pvC f u)[1]? = some (.int .i64 f.type.kind):=rfl
theorem ea8:(pvC f u)[2]? = some (.sl .any (f.type.args.map Ty.cells)):=rfl
theorem ea9:(pvC f u)[3]? = some (.sl .any (f.a7.map Tm.cells)):=rfl
theorem eb0:(pvC f u)[4]? = some (.sl .any (f.args.map Fm.cells)):=rfl
theorem eb1:(pvC f u)[5]? = some (.sl .any (ints u)):=rfl
theorem dh5:List.take 6 (pvC f u)=pvC f u:=rfl
theorem cO7:List.take 5 (pvC f u)=f.cells:=by rw [Fm.l4];rfl
theorem dh6:List.take 2 (List.drop 1 (pvC f u))=f.type.cells:=by rw [Ty.l4];rfl
theorem dy0:(pvC f u).all am9=true:=rfl
theorem cR5:B1 (pvC f u)=pvC f u:=by simp only [pvC,B1,J5,F4,ax5,aF8,aa6]
end
theorem dm8 {S:Id->Prop} (f:Fm) (u:List Int):InL S (pvC f u):=by simp only [pvC,InL,InV,ae0,ai5,aH0,aG9,aD5,L6]
variable {f:Fm} {u:List Int}
theorem cv2 {cs:List V} (h:cs.length=6):G8 cs 0 (pvC f u)=pvC f u:=P4 (by rw [h,cE1])
theorem cu6 {cs:List V} {off:Nat} (h:5<cs.length):G8 cs off f.cells=G8 cs off [.int .i64 f.kind,.int .i64 f.type.kind,.sl .any (f.type.args.map Ty.cells),.sl .any (f.a7.map Tm.cells),.sl .any (f.args.map Fm.cells)]:=by rw [Fm.l4]
attribute [go_sem] cE1 ea6 ea7 ea8 ea9 eb0 eb1 dh5 cO7 dh6 dy0 cR5 dm8 cv2 cu6
structure aa8 (g:List Ty) (u:List Int):Prop where
 so:u.Pairwise (·<·)
 mem:∀ x∈u,0<=x/\x<g.length
theorem aa8.nil {g:List Ty}:aa8 g []:=⟨List.Pairwise.nil,b_⟩
variable {g:List Ty}
theorem aa8.len (h:aa8 g u):u.length<=g.length:=by
 have:=bc5 u ((List.range g.length).map Int.ofNat) (h.so.imp fun h=>Int.ne_of_lt h) (fun x hx=>by
  obtain ⟨h1,h2⟩:=h.mem x hx;exact G5.2 ⟨x.toNat,by simp;omega,by simp;omega⟩)
 simpa using this
theorem aa8.union {v:List Int} (h:aa8 g u) (h':aa8 g v):aa8 g (V9 u v) :=
 ⟨bF2 u v,fun x hx=>by
  rcases cv6.1 hx with hx|hx
  ·exact h.mem x hx
  ·exact h'.mem x hx⟩
theorem aa8.rng (h:aa8 g u) (hg:g.length<=100):∀ x∈u,0<=x/\x<=1000000:=fun x hx=>by
 have:=h.mem x hx;omega
variable {s:Ty}
theorem cO1 {Q:Ty->Prop} {g':List Ty} (h:l7 Q g' t s):∀ (g:List Ty) (d:Nat),g'.length=g.length+d->∀ m:List Int,(∀ x∈m,0<=x/\x<g.length)->∀ x∈t.marks (d:Int) m,0<=x/\x<g.length:=by
 have node:∀ (k:Int) (ty:Ty) (l:List Tm) (d:Nat) (g:List Ty) (m:List Int),(k==1)=false->m9 k=0->(∀ y∈l,∀ m:List Int,(∀ x∈m,0<=x/\x<g.length)->∀ x∈y.marks (d:Int) m,0<=x/\x<g.length)->(∀ x∈m,0<=x/\x<g.length) ->
   ∀ x∈(tmT k ty l).marks (d:Int) m,0<=x/\x<g.length:=by
  intro k ty l d g m hk hb ih hm;have e:(tmT k ty l).marks (d:Int) m=Tm.ap9 l (d:Int) m:=by
   show Tm.ap9 l ((d:Int)+m9 k) (if (k==1&&_)=true then _ else m)=_;rw [hk,hb];simp
  rw [e];clear e
  induction l generalizing m with
  | nil=>grind [Tm.aJ7]
  | cons y l ihl =>
   exact ihl _ (fun z hz=>ih z (by simp [hz])) (ih y b_ m hm)
 induction h with
 | @var g' i t hi h =>
  grind [Tm.bc3,a9,Tm.index,Tm.args,Tm.aJ7,az4]
 | @lam g' a b t hQ _ ih =>
  intro g d hd m hm x hx;exact ih g (d+1) (by simp;omega) m hm x hx
 | @n0 g' k ty s hN =>
  intro g d hd m hm;exact node k ty [] d g m (by cases hN<;>rfl) (by cases hN<;>rfl) b_ hm
 | @n1 g' k ty s a x hN h1 i1 =>
  intro g d hd m hm;exact node k ty [x] d g m (by cases hN<;>rfl) (by cases hN<;>rfl) (by simpa using i1 g d hd) hm
 | @n2 g' k ty s a b x y hN h1 h2 i1 i2 =>
  intro g d hd m hm;refine node k ty [x,y] d g m (by cases hN<;>rfl) (by cases hN<;>rfl) (fun z hz=>?_) hm
  grind
 | @n3 g' k ty s a b c x y z hN h1 h2 h3 i1 i2 i3 =>
  intro g d hd m hm;refine node k ty [x,y,z] d g m (by cases hN<;>rfl) (by cases hN<;>rfl) (fun q hq=>?_) hm
  grind
theorem aa8.term (h:l7 TyG g t s):aa8 g (aF6 t) :=
 ⟨t.bS5 0 [] List.Pairwise.nil,fun x hx=>cO1 h g 0 b_ [] b_ x hx⟩
structure ak7 (g:List Ty) (hs:List Fm):Prop where
 gl:g.length<=16
 hl:hs.length<=16
 gg:∀ y∈g,TyG y
 hy:∀ h∈hs,Jd g h
variable {hs:List Fm}
theorem ak7.cx (c:ak7 g hs):Cx g hs:=⟨by have:=c.gl;omega,c.gg,c.hy⟩
variable {k:Int}
theorem Jd.k2 (h:Jd g f) (hk:k=2\/k=3) (e:f.kind=k):∃ a b,f=o8 k a b:=by
 cases h.ty with
 | eq=>grind [u6,Fm.kind]
 | @two _ k' a b hk'=>have:k'=k:=e;grind
 | q hk'=>grind [fmQ,Fm.kind]
theorem Jd.k4 (h:Jd g f) (hk:k=4\/k=5\/k=6\/k=7) (e:f.kind=k):∃ s a,f=fmQ k s a:=by
 cases h.ty with
 | eq=>grind [u6,Fm.kind]
 | two hk'=>grind [o8,Fm.kind]
 | @q _ k' s a hk'=>have:k'=k:=e;grind
theorem Jd.k1 (h:Jd g f) (e:f.kind=1):∃ x y,f=u6 x y:=by
 cases h.ty<;>grind [o8,Fm.kind,fmQ]
theorem ak7.with {g:List Ty} {hs:List Fm} {f:Fm} (c:ak7 g hs) (h:hs.length+1<=16) (j:Jd g f):ak7 g (hs++[f]) :=
 ⟨c.gl,by simpa using h,c.gg,fun x hx=>by
  rcases Q8.1 hx with hx|hx
  ·exact c.hy x hx
  grind⟩
theorem ak7.below {m:List Ty} (c:ak7 g hs) (h:g.length+m.length<=16) (hm:∀ y∈m,TyG y):ak7 (g++m) (hs.map fun x=>x.up (m.length:Int) 0) :=
 ⟨by simpa using h,by simpa using c.hl,fun y hy=>by
  rcases Q8.1 hy with hy|hy
  ·exact c.gg y hy
  ·exact hm y hy,fun x hx=>by
  obtain ⟨z,hz,rfl⟩:=G5.1 hx;exact (c.hy z hz).up a_ a_⟩
theorem Sq.S (h:Sq g hs f):FmS f:=⟨h.jd.fg,by have:=h.jd.sz;omega,h.jd.al⟩
theorem aa8.sub {g m:List Ty} {u:List Int} (h:aa8 (g++m) u):aa8 g ((u.filter fun x=>decide (x>=(m.length:Int))).map fun x=>x - (m.length:Int)):=by
 refine ⟨List.pairwise_map.2 ((h.so.filter _).imp fun h=>by omega),fun x hx=>?_⟩;obtain ⟨y,hy,rfl⟩:=G5.1 hx;obtain ⟨h1,h2⟩:=List.mem_filter.1 hy;have h2:y>=(m.length:Int):=by simpa using h2
 have:=h.mem y h1;simp at this;omega
theorem bI3 {a:Int} {s:Tm} (h:(D8 f a s).2≠0):(D8 f a s).1=A0:=by
 grind [D8]
theorem cD9 {a:Fm} (j:Jd (g++[s]) a) (hg:g.length<=16) (ht:l7 TyG g t s) (gt:TmG t) (zt:a8 t<=4096):FmW (D8 a 0 t).1:=by
 by_cases e:(D8 a 0 t).2=0
 ·obtain ⟨q1,q2⟩:=j.put a_ ht gt zt e
  rw [q1];exact q2.fg.toW
 grind [bI3,cF6]
variable {t:Ty}
theorem aq4.plT (h:aq4 t):PlT t:=by
 rcases h with rfl|rfl|rfl|rfl|rfl
 ·exact .nat
 ·exact .list
 ·exact .unit
 ·exact .pair .nat .list
 ·exact .pair .nat .nat
structure cS1 (g:List Ty) (f:Fm) (k:List Ty) (b:Fm):Prop where
 univ:(aN1 g f).univ=(k,b)
 dc:Dc k b
 sz:s6 b<=300
 plain:∀ y∈k,aq4 y
 len:k.length<=3
 ty:R4 TyG [] (aN1 g f)
 J4:FmG true (aN1 g f)
 size:s6 (aN1 g f)<=400
def tries (bd m:Nat) (k:List Ty):List (List PVl):=lns (fun t=>(ac3 bd t).take m) k
def bx1 (b:Fm) (T:List PVl->List Tm) (l:List PVl) (w:Nat):Ans:=aD1 w b (T l)
theorem ao7.dQ3 {p':List DV} (h:ao7 p' (g++[s])):∃ (u:U) (x:u.val) (p:List DV),p'=⟨u,x⟩::p/\u.ty=s/\ao7 p g:=by
 obtain ⟨h1,h2⟩:=h;obtain ⟨u,x,e1,e2⟩:=h2 0 s b_ b_;cases p' with
 | nil=>simp at e1
 | cons y p =>
  simp at e1;subst e1;refine ⟨u,x,p,rfl,e2,by simpa using h1,fun i a hi ha=>?_⟩;have:=h2 (i+1) a (by simp;omega) (by
   grind)
  simpa using this
theorem bB3:∀ (n:Nat) {g:List Ty} {f:Fm},s6 f<=n->Jd g f->Jd (g++f.univ.1) f.univ.2/\(∀ t∈f.univ.1,N0 1 t)/\f.univ.1.length+s6 f.univ.2<=s6 f /\
  ((∀ p,ao7 p g->B0 p f)->∀ p,ao7 p (g++f.univ.1)->B0 p f.univ.2)
 | 0,g,f,hz,j=>by obtain ⟨k,t,l,a⟩:=f;rw [s6] at hz;omega
 | n+1,g,f,hz,j=>by
  cases hk:(f.kind==4) with
  | false =>
   rw [Fm.bU6 hk];exact ⟨by simpa using j,b_,b_,b_⟩
  | true =>
   obtain ⟨s,a,rfl⟩:=j.k4 (k:=4) a_ (by simpa using hk);obtain ⟨hs,ja,za⟩:=j.by8;rw [G6] at hz;obtain ⟨i1,i2,i3,i4⟩:=bB3 n (g:=g++[s]) (f:=a) a_ ja;rw [Fm.bU5 hk (show (fmQ 4 s a).args=[a] from rfl)];have et:(fmQ 4 s a).type=s:=rfl;rw [et];have ea:g++s::a.univ.1=g++[s]++a.univ.1:=by simp
   rw [ea,G6];refine ⟨i1,?_,by simp;omega,fun h=>i4 fun p' hp'=>?_⟩
   ·intro t ht
    rcases D9.1 ht with rfl|ht
    ·exact j.al.ty rfl
    ·exact i2 t ht
   ·obtain ⟨u,x,p,rfl,rfl,hp⟩:=hp'.dQ3
    exact (B0.aZ4 (.inl rfl)).1 (h p hp) x
theorem cp8 {l:List PVl} {ts:List Tm} (h:ah4 g l ts):∀ {b:Fm},Dc g b->g.length<=5000->s6 b<=4096->(∀ p,ao7 p g->B0 p b)->∀ {lim:Nat} {r:Bool} {u:Nat},aD1 lim b ts=(r,u,0)->r=true:=by
 induction h with
 | nil =>
  intro b hd hg hz ht lim r u hr;obtain ⟨P,hP,hp⟩:=ht [] ao7.nil;exact (da6 _ b hd hz (w7 _) hP hr).2 hp
 | @snoc g l ts a v t hs hv ha zt ih =>
  intro b hd hg hz ht lim r u hr;have hg':g.length<=5000:=by simp at hg;omega
  unfold aD1 at hr;rw [List.reverse_append,show ([t].reverse++ts.reverse)=t::ts.reverse from rfl,av3] at hr;by_cases he:((ad0 b t).2 != 0)=true
  ·grind
  ·have e0:(ad0 b t).2=0:=by simpa using he
   obtain ⟨d1,z1⟩:=bT6 hd hv ha zt hg' hz e0;refine ih d1 hg' z1 (fun p hp=>?_) (lim:=lim) (u:=u) ?_
   ·have e1:(ad0 b t).1=I3 t 0 b 0:=by
     unfold ad0 at e0 ⊢;split at e0
     ·rename_i hle;rw [B8 hle]
     ·simp at e0
    rw [e1];obtain ⟨w,d,rfl,hdn⟩:=(hv.ty ha g).den hp;have h1:=ht _ (hp.snoc d);exact (B0.cE0 h1.bg5 hdn (by rw [hp.1];omega) a_).2 h1
   grind [aD1]
theorem dD2 {lim w:Nat} {t:Tm} (ht:l7 TyG [] t c8) (hw:w<=lim):(dN lim w t).2.1<=lim:=by
 obtain ⟨r,u,o,h1,h2,h3⟩:=bQ7 (m:=lim - w) ht
 grind [dN]
theorem dT7 {lim w:Nat} {x y:Tm} (hx:l7 TyG [] x c8) (hy:l7 TyG [] y c8) (hw:w<=lim):(dE lim w x y).2.1<=lim:=by
 grind [dD2,dE]
theorem dD1 {D:Nat->Fm->Ans} {lim:Nat} {all:Bool} {f:Fm} (hD:∀ j w,w<=lim->(dW D f j w).2.1<=lim):∀ n k w:Nat,w<=lim->(dB D lim all f n k w).2.1<=lim
 | 0,k,w,hw=>hw
 | n+1,k,w,hw=>by
  rw [dB];split
  ·exact hw
  ·have h:=hD k (w+1) a_
   split
   ·exact h
   ·exact dD1 hD n _ _ h
theorem dD3 {lim:Nat}:∀ (n:Nat) (f:Fm) (w:Nat),Dc [] f->s6 f<=4096->w<=lim->(dT lim n w f).2.1<=lim
 | 0,f,w,_,_,hw=>hw
 | n + 1,f,w,hd,hz,hw=>by
  have ih:=dD3 (lim:=lim) n;generalize hg:([]:List Ty)=g at hd;cases hd with
  | eq _ _ t1 t2=>grind [da5,dT7]
  | @two g k a c hk da db =>
   grind [y8,cn7,cn9]
  | @bnd g all q a gq tq oq da =>
   subst hg;rw [aX0] at hz;have tl:l7 TyG [] (ac0 q 0 I4) c8:=cV7 gq tq oq a_;have h1:=dD2 tl hw;rw [cn8];split
   ·exact h1
   ·refine dD1 (fun j w hw=>?_) _ _ _ h1
    unfold dW;split
    ·exact hw
    ·split
     ·exact hw
     ·rename_i hj hp
      unfold ad0 at hp ⊢;split
      ·rename_i hle
       refine ih _ _ (Dc.dN2 (g:=[]) da (am8 j) (l7.num j) (by rw [Y2];omega) b_ a_) ?_ hw;rw [(da.G (u:=true)).az0 0 a_ a_];exact hle
      grind
theorem de2 {l:List PVl} {ts:List Tm} (h:ah4 g l ts):∀ {b:Fm},Dc g b->g.length<=5000->s6 b<=4096->∀ {lim:Nat},(aD1 lim b ts).2.1<=lim:=by
 induction h with
 | nil =>
  intro b hd hg hz lim;exact dD3 _ b 0 hd hz (az9 _)
 | @snoc g l ts a v t hs hv ha zt ih =>
  intro b hd hg hz lim;have hg':g.length<=5000:=by simp at hg;omega
  unfold aD1;rw [List.reverse_append,show ([t].reverse++ts.reverse)=t::ts.reverse from rfl,av3];by_cases he:((ad0 b t).2 != 0)=true
  ·grind
  ·obtain ⟨d1,z1⟩:=bT6 hd hv ha zt hg' hz (by simpa using he)
   have:=ih d1 hg' z1 (lim:=lim)
   grind [aD1]
theorem cb0 {H:List PVl->Nat->Ans}:∀ (L:List (List PVl)) (w:Nat),(∀ l∈L,∀ w b u,H l w=(b,u,0)->b=true)->(aO7 H L w).1=none
 | [],_,_=>rfl
 | l::L,w,h=>by
  rw [aO7];split
  ·rfl
  ·rename_i he
   split
   ·exact cb0 L _ fun x hx=>h x (by simp [hx])
   ·rename_i hb
    exact absurd (h l b_ w _ _ (by rw [show H l w=((H l w).1,(H l w).2.1,(H l w).2.2) from rfl,show (H l w).2.2=0 by simpa using he])) hb
def aJ1 (E:Ty->Int):List Ty->Int
 | []=>0
 | t::ts=>if E t != 0 then E t else aJ1 E ts
theorem bv7 {E:Ty->Int}:∀ {ts:List Ty},aJ1 E ts=0->∀ t∈ts,E t=0
 | [],_,t,ht=>by cases ht
 | x::ts,h,t,ht=>by
  rw [aJ1] at h;by_cases e:E x=0
  ·rw [e] at h
   rcases D9.1 ht with rfl|ht
   ·exact e
   ·exact bv7 (by simpa using h) t ht
  ·rw [B8 (by simpa using e)] at h;exact absurd h e
theorem cO3 (h:N0 1 t):(PlT t/\(t=c8\/t=r5\/t=O7\/∃ ka kb:Int,t.cells=[.int .i64 3,.sl .any [[.int .i64 ka,.sl .any []],[.int .i64 kb,.sl .any []]]]/\ka≠4/\kb≠4)) \/
  ∃ ka kb:Int,t.cells=[.int .i64 4,.sl .any [[.int .i64 ka,.sl .any []],[.int .i64 kb,.sl .any []]]]:=by
 have leaf:∀ {a:Ty},N0 0 a->PlT a/\∃ k:Int,a.cells=[.int .i64 k,.sl .any []]/\k≠4:=by
  intro a ha;cases ha with
  | nat=>exact ⟨.nat,1,by rfl,by decide⟩
  | list=>exact ⟨.list,2,by rfl,by decide⟩
  | unit=>exact ⟨.unit,5,by rfl,by decide⟩
 cases h with
 | nat=>exact .inl ⟨.nat,.inl rfl⟩
 | list=>exact .inl ⟨.list,.inr (.inl rfl)⟩
 | unit=>exact .inl ⟨.unit,.inr (.inr (.inl rfl))⟩
 | @pair _ a b ha hb =>
  obtain ⟨pa,ka,ea,na⟩:=leaf ha;obtain ⟨pb,kb,eb,nb⟩:=leaf hb;refine .inl ⟨.pair pa pb,.inr (.inr (.inr ⟨ka,kb,?_,na,nb⟩))⟩;show [V.int .i64 3,V.sl .any [a.cells,b.cells]]=_;rw [ea,eb]
 | @func _ a b ha hb =>
  obtain ⟨pa,ka,ea,na⟩:=leaf ha;obtain ⟨pb,kb,eb,nb⟩:=leaf hb;refine .inr ⟨ka,kb,?_⟩;show [V.int .i64 4,V.sl .any [a.cells,b.cells]]=_;rw [ea,eb]
mutual
def Ty.cnt:Ty->Nat->Nat
 | .mk _ l,m=>Ty.W7 m 1 l
def Ty.W7 (m:Nat):Nat->List Ty->Nat
 | n,[]=>n
 | n,t::l=>if n<=m then Ty.W7 m (n+t.cnt (m - n)) l else n
end
theorem Ty.aX4 (t:Ty) (m:Nat):t.cnt m=Ty.W7 m 1 t.args:=by cases t;rw [Ty.cnt];rfl
def aF4 (t:Ty) (m:Nat):Nat:=if m=0 then 1 else t.cnt (m - 1)
mutual
def Tm.cnt:Tm->Nat->Nat
 | .mk _ _ ty l,m=>Tm.W7 m (1+aF4 ty m) l
def Tm.W7 (m:Nat):Nat->List Tm->Nat
 | n,[]=>n
 | n,t::l=>if n<=m then Tm.W7 m (n+t.cnt (m - n)) l else n
end
theorem Tm.aX4 (t:Tm) (m:Nat):t.cnt m=Tm.W7 m (1+aF4 t.type m) t.args:=by cases t;rw [Tm.cnt];rfl
theorem Ty.aw0:∀ (l:List Ty) (m n:Nat),n<=Ty.W7 m n l
 | [],m,n=>by rw [Ty.W7];omega
 | t::l,m,n=>by
  rw [Ty.W7];split
  ·have:=Ty.aw0 l m (n+t.cnt (m - n));omega
  ·omega
theorem Ty.ba6 (t:Ty) (m:Nat):1<=t.cnt m:=by rw [Ty.aX4];exact Ty.aw0 _ _ _
theorem Tm.aw0:∀ (l:List Tm) (m n:Nat),n<=Tm.W7 m n l
 | [],m,n=>by rw [Tm.W7];omega
 | t::l,m,n=>by
  rw [Tm.W7];split
  ·have:=Tm.aw0 l m (n+t.cnt (m - n));omega
  ·omega
theorem Tm.ba6 (t:Tm) (m:Nat):1<=t.cnt m:=by rw [Tm.aX4];have:=Tm.aw0 t.args m (1+aF4 t.type m);omega
theorem Ty.aj9:∀ (l:List Ty) (m n:Nat),Ty.W7 m n l<=m->(∀ x∈l,∃ m',m'<=m/\x.cnt m'<=m')/\n+l.length<=m
 | [],m,n,h=>by rw [Ty.W7] at h;exact ⟨b_,by simpa using h⟩
 | t::l,m,n,h=>by
  rw [Ty.W7] at h;split at h
  ·obtain ⟨h1,h2⟩:=Ty.aj9 l m _ h
   have:=t.ba6 (m - n);refine ⟨fun x hx=>?_,by simp only [J1];omega⟩;rcases D9.1 hx with rfl|hx
   ·exact ⟨m - n,a_,a_⟩
   ·exact h1 x hx
  ·omega
theorem Tm.aj9:∀ (l:List Tm) (m n:Nat),Tm.W7 m n l<=m->(∀ x∈l,∃ m',m'<=m/\x.cnt m'<=m')/\n+l.length<=m
 | [],m,n,h=>by rw [Tm.W7] at h;exact ⟨b_,by simpa using h⟩
 | t::l,m,n,h=>by
  rw [Tm.W7] at h;split at h
  ·obtain ⟨h1,h2⟩:=Tm.aj9 l m _ h
   have:=t.ba6 (m - n);refine ⟨fun x hx=>?_,by simp only [J1];omega⟩;rcases D9.1 hx with rfl|hx
   ·exact ⟨m - n,a_,a_⟩
   ·exact h1 x hx
  ·omega
mutual
def Fm.cnt:Fm->Nat->Nat
 | .mk _ ty ts l,m=>Fm.W7 m (Tm.W7 m (1+aF4 ty m) ts) l
def Fm.W7 (m:Nat):Nat->List Fm->Nat
 | n,[]=>n
 | n,t::l=>if n<=m then Fm.W7 m (n+t.cnt (m - n)) l else n
end
theorem Fm.aX4 (t:Fm) (m:Nat):t.cnt m=Fm.W7 m (Tm.W7 m (1+aF4 t.type m) t.a7) t.args:=by cases t;rw [Fm.cnt];rfl
theorem Fm.aw0:∀ (l:List Fm) (m n:Nat),n<=Fm.W7 m n l
 | [],m,n=>by rw [Fm.W7];omega
 | t::l,m,n=>by
  rw [Fm.W7];split
  ·have:=Fm.aw0 l m (n+t.cnt (m - n));omega
  ·omega
theorem Fm.ba6 (t:Fm) (m:Nat):1<=t.cnt m:=by
 rw [Fm.aX4];have h1:=Fm.aw0 t.args m (Tm.W7 m (1+aF4 t.type m) t.a7);have h2:=Tm.aw0 t.a7 m (1+aF4 t.type m);omega
theorem Fm.aj9:∀ (l:List Fm) (m n:Nat),Fm.W7 m n l<=m->(∀ x∈l,∃ m',m'<=m/\x.cnt m'<=m')/\n+l.length<=m
 | [],m,n,h=>by rw [Fm.W7] at h;exact ⟨b_,by simpa using h⟩
 | t::l,m,n,h=>by
  rw [Fm.W7] at h;split at h
  ·obtain ⟨h1,h2⟩:=Fm.aj9 l m _ h
   have:=t.ba6 (m - n);refine ⟨fun x hx=>?_,by simp only [J1];omega⟩;rcases D9.1 hx with rfl|hx
   ·exact ⟨m - n,a_,a_⟩
   ·exact h1 x hx
  ·omega
mutual
theorem Ty.bg1:∀ (t:Ty) (m:Nat),t.cnt m<=m->E5 t<=t.cnt m
 | .mk _ l,m,h=>by
  rw [Ty.cnt] at h ⊢;rw [E5];have:=Ty.aw1 l m 1 h;omega
theorem Ty.aw1:∀ (l:List Ty) (m n:Nat),Ty.W7 m n l<=m->n+ci4 l<=Ty.W7 m n l
 | [],m,n,h=>by rw [Ty.W7,ci4];omega
 | t::l,m,n,h=>by
  rw [Ty.W7] at h ⊢;split at h
  ·rename_i h1
   rw [B8 h1];have h2:=Ty.aw1 l m _ h;have h3:=Ty.bg1 t (m - n) a_;rw [ci4];omega
  ·omega
end
mutual
theorem Tm.bg1:∀ (t:Tm) (m:Nat),t.cnt m<=m->a8 t<=t.cnt m
 | .mk _ _ ty l,m,h=>by
  rw [Tm.cnt] at h ⊢;rw [a8];have:=Tm.aw1 l m _ h;omega
theorem Tm.aw1:∀ (l:List Tm) (m n:Nat),Tm.W7 m n l<=m->n+F7 l<=Tm.W7 m n l
 | [],m,n,h=>by rw [Tm.W7,F7];omega
 | t::l,m,n,h=>by
  rw [Tm.W7] at h ⊢;split at h
  ·rename_i h1
   rw [B8 h1];have h2:=Tm.aw1 l m _ h;have h3:=Tm.bg1 t (m - n) a_;rw [F7];omega
  ·omega
end
mutual
theorem Fm.bg1:∀ (t:Fm) (m:Nat),t.cnt m<=m->s6 t<=t.cnt m
 | .mk _ ty ts l,m,h=>by
  rw [Fm.cnt] at h ⊢;rw [s6];have h1:=Fm.aw1 l m _ h;have h2:=Tm.aw1 ts m (1+aF4 ty m) a_;omega
theorem Fm.aw1:∀ (l:List Fm) (m n:Nat),Fm.W7 m n l<=m->n+av1 l<=Fm.W7 m n l
 | [],m,n,h=>by rw [Fm.W7,av1];omega
 | t::l,m,n,h=>by
  rw [Fm.W7] at h ⊢;split at h
  ·rename_i h1
   rw [B8 h1];have h2:=Fm.aw1 l m _ h;have h3:=Fm.bg1 t (m - n) a_;rw [av1];omega
  ·omega
end
theorem bU4 {w:Int} (h:au8 k=some w):(w=0/\(k=1\/k=2\/k=5))\/(w=2/\(k=3\/k=4)):=by
 unfold au8 at h;split at h
 ·rename_i h1
  simp only [S6] at h;simp only [bp0,L1] at h1;omega
 ·split at h
  ·rename_i h1
   simp only [S6] at h;simp only [bp0,L1] at h1;omega
  ·cases h
variable {α:Type}
theorem bJ3 {l:List α} (h:(l.length:Int)=0):l=[]:=aR1.1 a_
theorem dZ1 {l:List α} (h:(l.length:Int)=1):∃ a,l=[a]:=dx4 a_
theorem de7 {l:List α} (h:(l.length:Int)=2):∃ a b,l=[a,b]:=by
 match l,h with
 | [a,b],_=>exact ⟨a,b,rfl⟩
 | [],h=>simp at h
 | [_],h=>simp at h
 | _::_::_::_,h=>simp at h;omega
theorem cT1:∀ t:Ty,t.J4=true->TyF t:=by
 intro t
 induction t using Ty.ind with|h t ih=>?_
 intro h;rw [Ty.aq6] at h;cases t with|mk k l =>
 simp only [Ty.kind,Ty.args] at h ih;cases hw:au8 k with
 | none=>rw [hw] at h;cases h
 | some w =>
  rw [hw] at h;simp only [A3,L1,ad2] at h;obtain ⟨h1,h2⟩:=h;rcases bU4 hw with ⟨rfl,hk⟩|⟨rfl,hk⟩
  ·obtain rfl:=bJ3 h1
   rcases hk with rfl|rfl|rfl
   ·exact .nat
   ·exact .list
   ·exact .unit
  ·obtain ⟨a,b,rfl⟩:=de7 h1
   have ha:=ih a b_ (h2 a b_);have hb:=ih b b_ (h2 b b_);rcases hk with rfl|rfl
   ·exact .pair ha hb
   ·exact .func ha hb
theorem da1 {m:Int} {o:Option Int} (h:(chk m o).2=0):o.isSome=true:=by
 cases o with
 | none=>simp [chk] at h
 | some _=>rfl
theorem dk7 {m:Nat} (hm:m<=100000) (hc:t.cnt m<=m) (h:ae5 t=0):TyG t:=by
 have h1:=cT1 t (da1 h);have h2:=Ty.bg1 t m hc;rw [h1.err a_] at h;split at h
 ·exact ⟨h1,l_⟩
 ·cases h
theorem bh9 (h:Z1 t=true):t=.mk 0 []:=by
 cases t with|mk k l =>
 simp only [Z1,Ty.kind,Ty.args,A3,L1] at h;obtain ⟨rfl,h2⟩:=h;rw [bJ3 h2]
theorem bs8:∀ (t:Tm) (m:Nat),m<=100000->t.cnt m<=m->t.J4=true->TmG t:=by
 intro t
 induction t using Tm.ind with|h t ih=>?_
 intro m hm hc h;rw [Tm.aX4] at hc;obtain ⟨h1,h2⟩:=Tm.aj9 _ _ _ hc;rw [Tm.aq6] at h;cases t with|mk k i ty l =>
 simp only [Tm.kind,Tm.index,Tm.type,Tm.args,A3,ad2] at h ih h1 h2;obtain ⟨hh,hr⟩:=h;have hl:∀ x∈l,TmG x:=fun x hx=>by
  obtain ⟨m',a,b⟩:=h1 x hx;exact ih x hx m' a_ b (hr x hx)
 unfold L5 at hh;cases ha:arity k with
 | none=>rw [ha] at hh;cases hh
 | some a =>
  rw [ha] at hh;simp only [A3,bp0,L1,aW3] at hh;obtain ⟨⟨⟨hn,h0⟩,hi⟩,ht⟩:=hh;cases hty:typed k with
  | true =>
   rw [hty] at ht;simp only [p7,L1] at ht;have hk:k≠1:=by rintro rfl;cases hty
   obtain rfl:i=0:=by rcases hi with h|h<;>omega
   have hg:TyG ty:=by
    have hcc:aF4 ty m<=m:=by omega
    unfold aF4 at h2 hcc;split at h2
    ·omega
    ·exact dk7 (m:=m - 1) a_ a_ ht
   exact .typd ha hn hty hg hl
  | false =>
   rw [hty] at ht;simp only [B2,r6] at ht;obtain rfl:=bh9 ht;by_cases hk:k=1
   ·subst hk
    have:a=0:=by rw [show arity 1=some 0 from rfl] at ha;simpa using ha.symm
    subst this;obtain rfl:=bJ3 hn;exact .var h0
   ·obtain rfl:i=0:=by rcases hi with h|h<;>omega
    exact .plain ha hn hty hl
theorem bR5 {p:Int × Int × Bool} (h:ap7 k=some p):(k=1/\p=(2,0,false))\/((k=2\/k=3)/\p=(0,2,false))\/((k=4\/k=5\/k=6\/k=7)/\p=(0,1,true)):=by
 unfold ap7 at h;split at h
 ·rename_i h1
  simp only [S6] at h;exact .inl ⟨by simpa using h1,h.symm⟩
 ·split at h
  ·rename_i h1
   simp only [S6] at h;exact .inr (.inl ⟨by simpa using h1,h.symm⟩)
  ·split at h
   ·rename_i h1
    simp only [S6] at h;refine .inr (.inr ⟨?_,h.symm⟩);simp only [bp0,L1] at h1;omega
   ·cases h
theorem bW5:∀ (t:Fm) (m:Nat),m<=100000->t.cnt m<=m->t.J4=true->FmG true t:=by
 intro t
 induction t using Fm.ind with|h t ih=>?_
 intro m hm hc h;rw [Fm.aX4] at hc;obtain ⟨h1,h2⟩:=Fm.aj9 _ _ _ hc;obtain ⟨h3,h4⟩:=Tm.aj9 t.a7 m (1+aF4 t.type m) a_;rw [Fm.aq6] at h;cases t with|mk k ty ts l =>
 simp only [Fm.kind,Fm.type,Fm.a7,Fm.args,A3,ad2] at h ih h1 h2 h3 h4;obtain ⟨⟨hh,hs⟩,hr⟩:=h;have hl:∀ x∈l,FmG true x:=fun x hx=>by
  obtain ⟨m',a,b⟩:=h1 x hx;exact ih x hx m' a_ b (hr x hx)
 have ht:∀ x∈ts,TmG x:=fun x hx=>by
  obtain ⟨m',a,b⟩:=h3 x hx;exact bs8 x m' a_ b (hs x hx)
 unfold formed at hh;cases hw:ap7 k with
 | none=>rw [hw] at hh;cases hh
 | some p =>
  rw [hw] at hh;rcases bR5 hw with ⟨hk,rfl⟩|⟨hk,rfl⟩|⟨hk,rfl⟩
  ·simp only [B2,r6,A3,L1] at hh
   obtain ⟨⟨e1,e2⟩,e3⟩:=hh;obtain rfl:=bh9 e1;obtain ⟨x,y,rfl⟩:=de7 e2;obtain rfl:=bJ3 e3;subst hk;exact .eq (ht x b_) (ht y b_)
  ·simp only [B2,r6,A3,L1] at hh
   obtain ⟨⟨e1,e2⟩,e3⟩:=hh;obtain rfl:=bh9 e1;obtain rfl:=bJ3 e2;obtain ⟨x,y,rfl⟩:=de7 e3;exact .two hk (hl x b_) (hl y b_)
  ·simp only [p7,A3,L1] at hh
   obtain ⟨⟨e1,e2⟩,e3⟩:=hh;obtain rfl:=bJ3 e2;obtain ⟨x,rfl⟩:=dZ1 e3;have hg:TyG ty:=by
    have hcc:aF4 ty m<=m:=by omega
    unfold aF4 at h4 hcc;split at h4
    ·omega
    ·exact dk7 (m:=m - 1) a_ a_ e1
   refine .q ?_ hg (hl x b_);rcases hk with h|h|h|h
   ·exact .inl h
   ·exact .inr (.inl h)
   ·exact .inr (.inr ⟨rfl,.inl h⟩)
   ·exact .inr (.inr ⟨rfl,.inr h⟩)
theorem dg1 (ty:R4 TyG g f):(C9 f).2=0->FmG true f->s6 f<=4096->g.length+s6 f<=5000->s6 (C9 f).1<=4096 * s6 f:=by
 induction ty with
 | @eq g x y h1 h2 =>
  intro h fg z hb;obtain ⟨e1,e2,e3⟩:=aJ9 h;obtain ⟨q1,q2,q3⟩:=by7 e1;rw [D7] at z hb;have b1:=fg.aC1 (x:=x) (by simp [u6,Fm.a7]);have b2:=fg.aC1 (x:=y) (by simp [u6,Fm.a7]);obtain ⟨_,_,x3,_⟩:=aE8 a_ h1 b1 a_ q1;obtain ⟨_,_,y3,_⟩:=aE8 a_ h2 b2 a_ q2;have e:(C9 (u6 x y)).1=u6 (norm x).1 (norm y).1:=by
   rw [e3];show Fm.mk _ _ (L0 [x,y]).1 (H0 []).1=_;rw [q3,aK0];rfl
  grind [D7,N8]
 | @two g k a b hk h1 h2 i1 i2 =>
  intro h fg z hb;obtain ⟨e1,e2,e3⟩:=aJ9 h;obtain ⟨q1,q2,q3⟩:=by5 e2;rw [y8] at z hb;have j1:=i1 q1 (fg.at7 (by simp [o8,Fm.args])) a_ a_;have j2:=i2 q2 (fg.at7 (by simp [o8,Fm.args])) a_ a_;have e:(C9 (o8 k a b)).1=o8 k (C9 a).1 (C9 b).1:=by
   rw [e3];show Fm.mk _ _ (L0 []).1 (H0 [a,b]).1=_;rw [q3];rfl
  grind [y8]
 | @q g k s a hk h1 ih =>
  intro h fg z hb;obtain ⟨e1,e2,e3⟩:=aJ9 h;obtain ⟨q1,q3⟩:=by4 e2;rw [G6] at z hb;have j1:=ih q1 (fg.at7 (by simp [fmQ,Fm.args])) a_ (by simp;omega);have e:(C9 (fmQ k s a)).1=fmQ k s (C9 a).1:=by
   rw [e3];show Fm.mk _ _ (L0 []).1 (H0 [a]).1=_;rw [q3];rfl
  grind [G6]
theorem Sq.opened {a b b':Fm} (c:ak7 g hs) (hl:g.length+1<=16) (hk:k=5\/k=7) (h:Sq g hs (fmQ k s a)) (hb:Sq (g++[s]) ((hs.map fun x=>x.up 1 0)++[a]) b)
  (hb':b'=b\/((C9 b).2=0/\b'=(C9 b).1)) (hv:b'.am4 0=false):FmW (b'.up (-1) 1)/\FmS (b'.up (-1) 1)/\(s6 (b'.up (-1) 1)<=4096->Sq g hs (b'.up (-1) 1)):=by
 have z0:=hb.jd.sz;have key:R4 TyG (g++[s]) b'/\FmG true b'/\s6 b'<=20000000/\AT b':=by
  rcases hb' with rfl|⟨e,rfl⟩
  ·exact ⟨hb.jd.ty,hb.jd.fg,a_,hb.jd.al⟩
  ·obtain ⟨a1,a2,_⟩:=aT7 hb.jd.ty e hb.jd.fg z0 (by simp;omega)
   have a3:=dg1 hb.jd.ty e hb.jd.fg z0 (by simp;omega);exact ⟨a1,a2,a_,hb.jd.al.norm e⟩
 obtain ⟨k1,k2,k3,k4⟩:=key;obtain ⟨h2,h3⟩:=k2.low (k1.least (by simp;omega)) 0 a_;have e:((0:Nat):Int)+1=1:=rfl;rw [e] at h2 h3;refine ⟨h2.toW,⟨h2,a_,k4.up _⟩,fun hz=>?_⟩;rw [h3] at hz;refine Sq.exE c.cx hk a_ h ?_ hv;rcases hb' with rfl|⟨e,rfl⟩
 ·exact hb
 ·exact hb.norm (by simp;omega) e hz
end GoAbs
set_option maxRecDepth 20000
namespace GoAbs
open Go
def aL4:Tm:=tmT 2 c8 [tm0 5 [a9 0]]
def av2:Tm:=tm0 3 [tm0 3 [aL3,G3 0],a9 0]
def bH6 (g s:Tm):Fm:=u6 (tm0 3 [g.up 1 0,s.up 1 0]) (tm0 3 [g.up 1 0,a9 0])
def bl3 (g s:Tm) (p:Pf):Pf:=ai8 (bH6 g s) p (E9 (tm0 3 [g,s]))
def bn8:Pf:=bl3 aL4 av2 (ae3 0)
def bB6 (t:Tm):Pf:=aB8 16 (u6 av2 (a9 0)) t (E9 (G3 0)) bn8
theorem bd5:TmG aL4:=.lam TyG.nat (.plain (a:=1) rfl rfl rfl (by simp;exact .var a_))
theorem bd0:TmG av2:=by
 refine .plain (a:=2) rfl rfl rfl ?_;intro x hx;simp only [D9,K0,D1] at hx;rcases hx with rfl|rfl
 ·refine .plain (a:=2) rfl rfl rfl ?_
  grind [bT4,am8]
 ·exact .var a_
theorem bX9 {a b:Tm} (ha:TmG a) (hb:TmG b):TmG (tm0 3 [a,b]):=.plain (a:=2) rfl rfl rfl (by simp [ha,hb])
theorem ch8:aL4.up 1 0=aL4:=by rfl
theorem dh3:av2.up 1 0=tm0 3 [tm0 3 [aL3,G3 0],a9 1]:=by rfl
theorem cD8:TmG (av2.up 1 0):=by
 rw [dh3];exact bX9 (bX9 bT4 (am8 0)) (.var a_)
theorem cA0:FmG true (bH6 aL4 av2):=by
 exact .eq (bX9 bd5 cD8) (bX9 bd5 (.var a_))
theorem dt4:s6 (bH6 aL4 av2)<=100:=by decide
theorem dH3:a8 (tm0 3 [aL4,av2])<=100:=by decide
theorem dA0:PfG bn8:=.subst ⟨cA0,by have:=dt4;omega,.eq⟩ (.hyp a_) (.refl ⟨bX9 bd5 bd0,by have:=dH3;omega⟩)
theorem cv3:bn8.fits=true:=by rfl
theorem dA1:PfW bn8:=aT8 cA0.toW aB7 (Q2 (G9 bd5.toW bd0.toW))
theorem dB1 {t:Tm} (ht:TmW t):PfW (bB6 t):=cD7 (ap5 bd0.toW (A6 _)) ht (Q2 (aq2 0)) dA1
theorem dB0 {t:Tm} (ht:TmS t):PfG (bB6 t) :=
 .ind (.inl rfl) ⟨.eq bd0 (.var a_),by decide,.eq⟩ ht (.refl ⟨am8 0,by decide⟩) dA0
variable {g:List Ty}
theorem bh8 {t:Ty} {x:Tm} (h:J3 1 g t x) (hg:∀ y∈g,N0 1 y) (ht:N0 1 t):TmS x/\l7 TyG g x t/\a8 x<=67:=by
 have b1:aD8 3 1=67:=rfl;have h1:=(h.sz (M:=3) a_ (fun y hy=>(hg y hy).sz1) ht.sz1).1;exact ⟨⟨h.G (fun y hy=>(hg y hy).G a_) (ht.G a_),a_⟩,h.ty (dN9 hg) ⟨ht.F,by have:=ht.sz1;omega⟩,h1⟩
variable {f:Fm}
theorem aM1.AT {n:Nat} (h:aM1 true n g f):AT f:=by
 induction h with
 | eq=>exact .eq
 | two hk _ _ h1 h2=>exact .two hk h1 h2
 | q hk hs _ h1=>exact .q (fun _=>hs) h1
theorem dO0 (h:aM1 true 1 g f) (hg:∀ y∈g,N0 1 y):Jd g f:=by
 have h1:=h.sz (fun y hy=>(hg y hy).sz1);refine ⟨h.ty hg,h.G (fun y hy=>(hg y hy).G a_),a_,h.AT⟩
def H5 (t:Tm):Fm:=u6 (t.up 1 0) (a9 0)
theorem dl0 {x:Tm} (hx:l7 TyG g x c8) (gx:TmG x) (zx:a8 x<=1000) (hl:g.length<=20):l7 TyG (g++[c8]) (x.up 1 0) c8/\TmG (x.up 1 0):=by
 have j:Jd g (u6 x x):=.eqn hx hx gx gx a_;have j2:=j.up (m:=[c8]) a_ b_;exact ⟨j2.of_eq.1,j2.of_eq.2.2.1⟩
theorem br4 {x:Tm} (h:J3 1 g c8 x) (hg:∀ y∈g,N0 1 y) (hl:g.length<=20):Jd (g++[c8]) (H5 x):=by
 obtain ⟨⟨gx,_⟩,hx,zx⟩:=bh8 h hg .nat;obtain ⟨h1,h2⟩:=dl0 hx gx a_ hl;exact .eqn h1 aK6 h2 (.var a_) (by rw [aq9,aK5];omega)
theorem bU2 {k:Int} {x:Tm} (hk:k=5\/k=7) (h:J3 1 g c8 x) (hg:∀ y∈g,N0 1 y) (hl:g.length<=20):Jd g (fmQ k c8 (H5 x)):=by
 have j:=br4 h hg hl;obtain ⟨_,_,zx⟩:=bh8 h hg .nat;exact j.q a_ TyG.nat (by rw [H5,D7,aq9,aK5];omega) (fun _=>.nat)
structure Plc (n:Nat) (g:List Ty) (hs:List Fm):Prop where
 gl:g.length+n<=8
 hl:hs.length+n<=8
 gg:∀ y∈g,N0 1 y
 hy:∀ h∈hs,Jd g h
variable {hs:List Fm}
theorem Plc.ck {n:Nat} (c:Plc n g hs):ak7 g hs:=⟨by have:=c.gl;omega,by have:=c.hl;omega,fun y hy=>(c.gg y hy).G a_,c.hy⟩
theorem Plc.pred {n:Nat} (c:Plc (n+1) g hs):Plc n g hs:=⟨by have:=c.gl;omega,by have:=c.hl;omega,c.gg,c.hy⟩
theorem Plc.with {n:Nat} {g:List Ty} {hs:List Fm} {f:Fm} (c:Plc (n+1) g hs) (j:Jd g f):Plc n g (hs++[f]) :=
 ⟨by have:=c.gl;omega,by have:=c.hl;simp;omega,c.gg,fun x hx=>by
  rcases Q8.1 hx with hx|hx
  ·exact c.hy x hx
  grind⟩
theorem Plc.below {n:Nat} {s:Ty} (c:Plc (n+1) g hs) (h:N0 1 s):Plc n (g++[s]) (hs.map fun x=>x.up 1 0) :=
 ⟨by have:=c.gl;simp;omega,by have:=c.hl;simp;omega,fun y hy=>by
  rcases Q8.1 hy with hy|hy
  ·exact c.gg y hy
  grind,fun x hx=>by
  obtain ⟨z,hz,rfl⟩:=G5.1 hx;exact (c.hy z hz).up (m:=[s]) (by have:=c.gl;omega) b_⟩
theorem Plc.dH6 {n:Nat} {s:Ty} (c:Plc (n+1) g hs) (h:N0 1 s) (j:Jd (g++[s]) f):Plc n (g++[s]) ((hs.map fun x=>x.up 1 0)++[f]) :=
 ⟨by have:=c.gl;simp;omega,by have:=c.hl;simp;omega,(c.below h).gg,fun x hx=>by
  rcases Q8.1 hx with hx|hx
  ·exact (c.below h).hy x hx
  grind⟩
theorem Plc.H {n:Nat} (c:Plc n g hs):∀ y∈g,TyF y/\tyH y<=40:=fun y hy=>⟨(c.gg y hy).F,by have:=(c.gg y hy).H;omega⟩
section
variable {P:Program} {env:Nat->Option (List V)} {g:G} {w:World} {h:H} {ρc:Operand->Value} (r:Rel env g w h)
include r
end
section
variable {F:Fence} (hF:∀ f,F.fn f) (hdp:F.depth=none) {m:Nat} {ds:List Deferred}
variable {P:Program} (hcl:∀ k args w R,Calls P k args w R->CallsIn F (m - 1) P k args w R)
variable {env:Nat->Option (List V)} {ops:Array Oper} {gen reg n:Nat} (hn:aL1 n ops=true) (hok:aO0 ops=true)
include hF hdp hcl hn hok
end
section
variable {F:Fence} (hF:∀ f,F.fn f) {m:Nat} {P:Program} {ops:Array Oper}
include hF
end
section
variable {F:Fence} (hF:∀ f,F.fn f) {m:Nat} {ds:List Deferred} {P:Program} {env:Nat->Option (List V)} {ops:Array Oper} {n:Nat}
include hF
end
end GoAbs
