/-
 The abstract layer: plain laws, further ones.
-/
import Derived.Test.YteaijonkbbkkjaaGreatDoorAbsDd
import Derived.Test.YteaijonkbbkkjaaGreatDoorAbsDc
import Derived.Test.YteaijonkbbkkjaaGreatDoorAbsDb
import Derived.Test.YteaijonkbbkkjaaGreatDoorAbsD
set_option linter.unusedSimpArgs false
set_option linter.unusedVariables false
set_option linter.unusedSectionVars false
namespace GoAbs
open Go
def evW (t:Tm) (w:Nat):Nat × Nat × Int :=
 match ev w (w+1) 0 t [] with
 | some (r,u,false)=>(r.num,w - u,0)
 | _=>(0,w,5)
def bY7 (x y:Tm) (w:Nat):Bool × Nat × Int :=
 if (evW x w).2.2 != 0 then (false,0,(evW x w).2.2) else (((evW x w).1:Int)==(evW y (evW x w).2.1).1,(evW y (evW x w).2.1).2.1,(evW y (evW x w).2.1).2.2)
def aV3 (k:Int) (A B:Nat→Bool × Nat × Int) (w:Nat):Bool × Nat × Int :=
 if (A w).2.2 != 0 then (false,0,(A w).2.2) else if (A w).1 then B (A w).2.1 else (k==3,(A w).2.1,0)
theorem aH7 {t:Tm} {w:Nat}:(evW t w).2.1≤w:=by unfold evW;split<;>simp
def rB (R:Nat→Fm→Ans) (all:Bool) (f:Fm):Nat→Nat→Nat→Ans
 | 0,_,l=>(all,l,0)
 | n+1,k,l=>if l=0 then (false,0,5) else if 4096≤k then (false,0,4) else if (H3 f (C5 k)).2 != 0 then (false,0,(H3 f (C5 k)).2)
  else if (R (l - 1) (H3 f (C5 k)).1).2.2 != 0||(R (l - 1) (H3 f (C5 k)).1).1 != all then R (l - 1) (H3 f (C5 k)).1 else rB R all f n (k+1) (R (l - 1) (H3 f (C5 k)).1).2.1
def rT:Nat→Nat→Fm→Ans
 | 0,l,_=>(false,l,0)
 | n+1,l,f =>
  if f.kind==1 then bY7 (f.r8.getD 0 C6) (f.r8.getD 1 C6) l
  else if f.kind==2||f.kind==3 then aV3 f.kind (fun l=>rT n l (fa f 0)) (fun l=>rT n l (fa f 1)) l
  else if (evW (Q5 (M9 f) 0 C6) l).2.2 != 0 then (false,0,(evW (Q5 (M9 f) 0 C6) l).2.2)
  else rB (fun l f=>rT n l f) (f.kind==4) (aa9 f) (evW (Q5 (M9 f) 0 C6) l).1 0 (evW (Q5 (M9 f) 0 C6) l).2.1
theorem df7 {n l:Nat} {x y:Tm}:rT (n+1) l (M3 x y)=bY7 x y l:=rfl
theorem cM6 {n l:Nat} {k:Int} {a b:Fm} (hk:k=2∨k=3):rT (n+1) l (E8 k a b)=aV3 k (fun l=>rT n l a) (fun l=>rT n l b) l:=by rcases hk with rfl|rfl<;>rfl
theorem cR0 {n l:Nat} {all:Bool} {q:Tm} {a:Fm}:rT (n+1) l (J0 all q a) =
  if (evW (Q5 q 0 C6) l).2.2 != 0 then (false,0,(evW (Q5 q 0 C6) l).2.2)
  else rB (fun l f=>rT n l f) all a (evW (Q5 q 0 C6) l).1 0 (evW (Q5 q 0 C6) l).2.1:=by
 cases all<;>rfl
def cN2 (lim:Nat) (p r:Ans):Prop:=r.2.2=p.2.2∧(p.2.2≠0→p.1=false)∧(p.2.2=0→r.1=p.1∧r.2.1=lim - p.2.1)
theorem bC0 {lim w:Nat} {t:Tm}:(evW t (lim - w)).2.2=(dN lim w t).2.2∧((dN lim w t).2.2=0→(evW t (lim - w)).1=(dN lim w t).1∧(evW t (lim - w)).2.1=lim - (dN lim w t).2.1):=by
 unfold evW dN evN;cases h:ev (lim - w) (lim - w+1) 0 t [] with
 | none=>simp
 | some p =>
  obtain ⟨r,u,o⟩:=p;cases o with
  | true=>simp
  | false=>simp;omega
theorem db6 {lim:Nat} {D R:Nat→Fm→Ans} {all:Bool} {f:Fm} (h:∀ k w,(H3 f (C5 k)).2=0→k<4096→cN2 lim (D w (H3 f (C5 k)).1) (R (lim - w) (H3 f (C5 k)).1)) :
  ∀ n k w,cN2 lim (dB D lim all f n k w) (rB R all f n k (lim - w)):=by
 intro n
 induction n with
 | zero=>intro k w;exact ⟨rfl,fun h=>absurd rfl h,fun _=>⟨rfl,rfl⟩⟩
 | succ n ih =>
  intro k w;rw [dB,rB];by_cases hw:lim≤w
  ·rw [if_pos hw,if_pos (show lim - w=0 by omega)]
   exact ⟨rfl,fun _=>rfl,fun h=>absurd h sp_⟩
  rw [if_neg hw,if_neg (show ¬ lim - w=0 by omega)];unfold dW;by_cases hk:4096≤k
  ·simp only [if_pos hk]
   exact ⟨rfl,fun _=>rfl,fun h=>absurd h sp_⟩
  simp only [if_neg hk];cases hp:((H3 f (C5 k)).2 != 0) with
  | true =>
   simp only [if_true,hp,Bool.true_or];exact ⟨rfl,fun _=>rfl,fun h=>absurd h (by simpa using hp)⟩
  | false =>
   simp only [Bool.false_eq_true,if_false];have hr:=h k (w+1) (by simpa using hp) om_;rw [show lim - (w+1)=lim - w - 1 by omega] at hr;generalize D (w+1) (H3 f (C5 k)).1=p at *;generalize R (lim - w - 1) (H3 f (C5 k)).1=r at *;obtain ⟨pb,pw,pe⟩:=p;obtain ⟨rb,rw',re⟩:=r;obtain ⟨h1,h2,h3⟩:=hr;simp only at h1 h2 h3;subst h1;by_cases he:re=0
   ·subst he
    obtain ⟨rfl,rfl⟩:=h3 rfl;cases hb:(rb != all) with
    | true=>simp only [hb,Bool.or_true,if_true];exact ⟨rfl,fun h=>absurd rfl h,fun _=>⟨rfl,rfl⟩⟩
    | false =>
     simp only [hb,Bool.or_false];exact ih (k+1) pw
   ·have:(re != 0)=true:=by simpa using he
    simp only [this,Bool.true_or,if_true];exact ⟨rfl,fun _=>h2 he,fun h=>absurd h he⟩
theorem da2 {lim:Nat}:∀ (n:Nat) (f:Fm) (w:Nat),cN2 lim (dT lim n w f) (rT n (lim - w) f):=by
 intro n
 induction n with
 | zero=>intro f w;exact ⟨rfl,fun h=>absurd rfl h,fun _=>⟨rfl,rfl⟩⟩
 | succ n ih =>
  intro f w;rw [dT,rT];by_cases k1:(f.kind==1)=true
  ·rw [if_pos k1,if_pos k1]
   unfold dE bY7;generalize f.r8.getD 0 C6=x;generalize f.r8.getD 1 C6=y;obtain ⟨a1,a2⟩:=bC0 (lim:=lim) (w:=w) (t:=x);obtain ⟨b1,b2⟩:=bC0 (lim:=lim) (w:=(dN lim w x).2.1) (t:=y);rw [a1];cases e1:((dN lim w x).2.2 != 0) with
   | true=>simp only [if_true];exact ⟨rfl,fun _=>rfl,fun h=>absurd h (by simpa using e1)⟩
   | false =>
    simp only [Bool.false_eq_true,if_false];obtain ⟨a3,a4⟩:=a2 (by simpa using e1);rw [a3,a4];cases e2:((dN lim (dN lim w x).2.1 y).2.2 != 0) with
    | true=>simp only [if_true];exact ⟨b1,fun _=>rfl,fun h=>absurd h (by simpa using e2)⟩
    | false =>
     simp only [Bool.false_eq_true,if_false];have e2:(dN lim (dN lim w x).2.1 y).2.2=0:=by simpa using e2
     obtain ⟨b3,b4⟩:=b2 e2;exact ⟨by rw [b1,e2],fun h=>absurd rfl h,fun _=>⟨by rw [b3,Bool.eq_iff_iff];simp only [beq_iff_eq];omega,b4⟩⟩
  rw [if_neg k1,if_neg k1];by_cases k2:(f.kind==2)=true
  ·have e:f.kind=2:=by simpa using k2
   rw [if_pos k2,if_pos (show (f.kind==2||f.kind==3)=true by rw [k2];rfl),e];unfold aV3;have h1:=ih (fa f 0) w;have h2:=ih (fa f 1) (dT lim n w (fa f 0)).2.1;simp only;generalize dT lim n w (fa f 0)=p at *;generalize rT n (lim - w) (fa f 0)=r at *;obtain ⟨pb,pw,pe⟩:=p;obtain ⟨rb,rw',re⟩:=r;obtain ⟨g1,g2,g3⟩:=h1;simp only at *;subst g1;by_cases he:re=0
   ·subst he
    obtain ⟨rfl,rfl⟩:=g3 rfl;cases rb with
    | true=>simpa using h2
    | false=>exact ⟨rfl,fun h=>absurd rfl h,fun _=>⟨rfl,rfl⟩⟩
   ·have:(re != 0)=true:=by simpa using he
    obtain rfl:=g2 he;rw [if_pos this];exact ⟨rfl,fun _=>rfl,fun h=>absurd h he⟩
  by_cases k3:(f.kind==3)=true
  ·have e:f.kind=3:=by simpa using k3
   rw [if_neg k2,if_pos k3,if_pos (show (f.kind==2||f.kind==3)=true by rw [k3,Bool.or_true]),e];unfold aV3;have h1:=ih (fa f 0) w;have h2:=ih (fa f 1) (dT lim n w (fa f 0)).2.1;simp only;generalize dT lim n w (fa f 0)=p at *;generalize rT n (lim - w) (fa f 0)=r at *;obtain ⟨pb,pw,pe⟩:=p;obtain ⟨rb,rw',re⟩:=r;obtain ⟨g1,g2,g3⟩:=h1;simp only at *;subst g1;by_cases he:re=0
   ·subst he
    obtain ⟨rfl,rfl⟩:=g3 rfl;cases rb with
    | true=>simpa using h2
    | false=>exact ⟨rfl,fun h=>absurd rfl h,fun _=>⟨rfl,rfl⟩⟩
   ·have:(re != 0)=true:=by simpa using he
    rw [if_pos this];simp only [this,Bool.true_or,if_true];exact ⟨rfl,fun _=>by simpa using he,fun h=>absurd h he⟩
  rw [if_neg k2,if_neg k3,if_neg (show ¬ (f.kind==2||f.kind==3)=true by simp only [Bool.or_eq_true];exact fun h=>h.elim k2 k3)];generalize Q5 (M9 f) 0 C6=q;obtain ⟨a1,a2⟩:=bC0 (lim:=lim) (w:=w) (t:=q);rw [a1];cases e1:((dN lim w q).2.2 != 0) with
  | true=>simp only [if_true];exact ⟨rfl,fun _=>rfl,fun h=>absurd h (by simpa using e1)⟩
  | false =>
   simp only [Bool.false_eq_true,if_false];obtain ⟨a3,a4⟩:=a2 (by simpa using e1);rw [a3,a4];exact db6 (fun k w _ _=>ih _ w) _ _ _
theorem ag9 {n:Int} (h0:0≤n) (h1:n≤1000000000):I64 n:=by
 unfold I64 Lit.wf;have e1:IntKind.i64.min = -9223372036854775808:=rfl;have e2:IntKind.i64.max=9223372036854775807:=rfl;simp only [e1,e2,Bool.and_eq_true,decide_eq_true_eq];omega
theorem TyF.N {t:Ty} (h:TyF t):TyN t:=by
 induction h with
 | nat=>exact .mk (ag9 om_ om_) sp_
 | list=>exact .mk (ag9 om_ om_) sp_
 | unit=>exact .mk (ag9 om_ om_) sp_
 | pair _ _ h1 h2=>exact .mk (ag9 om_ om_) (by simp;exact ⟨h1,h2⟩)
 | func _ _ h1 h2=>exact .mk (ag9 om_ om_) (by simp;exact ⟨h1,h2⟩)
theorem aT3 {k a:Int} (h:arity k=some a):0≤k∧k≤13:=by
 unfold arity at h;split at h
 ·cases h
 ·rename_i hc
  simp at hc;omega
theorem TmG.N {t:Tm} (h:TmG t):t.least 536870912=true→TmN t:=by
 induction h with
 | @plain k l a ha hl ht _ ih =>
  intro hm;rw [tm0,Tm.R2,Bool.and_eq_true] at hm;have:=aT3 ha;exact .mk (ag9 om_ om_) (ag9 om_ om_) (.mk (ag9 om_ om_) sp_) (fun x hx=>ih x hx (Tm.F6.1 hm.2 x hx))
 | @var i hi =>
  intro hm;rw [u5,Tm.R2,Bool.and_eq_true] at hm;have:i≤536870912:=of_decide_eq_true hm.1;exact .mk (ag9 om_ om_) (ag9 hi om_) (.mk (ag9 om_ om_) sp_) sp_
 | @typd k t l a ha hl ht hg _ ih =>
  intro hm;rw [tmT,Tm.R2,Bool.and_eq_true] at hm;have:=aT3 ha;exact .mk (ag9 om_ om_) (ag9 om_ om_) hg.1.N (fun x hx=>ih x hx (Tm.F6.1 hm.2 x hx))
theorem TmG.has {t:Tm} (h:TmG t) (hm:t.least 536870912=true) (hs:m7 t≤900000):t.aB2 0=decide (t.count 0>0):=ce4 (h.N hm) hs
theorem cC9 {s:Tm}:∀ (n:Nat) {t:Tm},TmG t→m7 t≤n→∀ d:Int,0≤d→d+n≤100000→E2 t d=0→t.least 1000000000=true→t.rb (aE6 0 s) d=t.up (-1) (1+d):=by
 intro n
 induction n with
 | zero=>intro t _ hn;have:=Q3 t;omega
 | succ n ih =>
  intro t gt hn d h0 hd ho hl
  revert hn ho hl
  refine gt.aj9 (p:=fun t=>m7 t≤n+1→E2 t d=0→t.least 1000000000=true→t.rb (aE6 0 s) d=t.up (-1) (1+d)) ?_ ?_
  ·intro i hi _ ho hl
   have hi2:=bS4 hl;rw [u5,E2] at ho;simp only [beq_self_eq_true,if_true] at ho;have hne:i≠d:=by intro e;subst e;simp at ho
   rw [u5,Tm.rb,Tm.up];simp only [beq_self_eq_true,if_true,aE6,Bool.true_and,Tm.upL];rw [ai8 om_ om_ om_ om_];have:(i - d==0)=false:=by simp;omega
   rw [this];by_cases hc:i≥1+d
   ·have e1:decide (i - d>0)=true:=by simp;omega
    have e2:decide (i≥1+d)=true:=by simp;omega
    have e3:ab8 i 1=i - 1:=ai8 om_ om_ om_ om_;have e4:x4 i (-1)=i - 1:=(C9 om_ om_ om_ om_).trans om_;rw [e1,e2,e3,e4];rfl
   ·have e1:decide (i - d>0)=false:=by simp;omega
    have e2:decide (i≥1+d)=false:=by simp;omega
    rw [e1,e2];rfl
  ·intro k ty l hk _ hg _ hn ho hl
   rw [m7] at hn;rw [Tm.least,Bool.and_eq_true] at hl;rw [E2,hk] at ho;simp only [Bool.false_eq_true,if_false] at ho;have hr:=H9 k;rw [Tm.rb,Tm.au4,Tm.up,Tm.T4,hk,aB6 h0 om_];simp only [Bool.false_eq_true,if_false,Bool.false_and];rw [C9 om_ om_ om_ om_,show 1+d+r6 k=1+(d+r6 k) by omega];congr 1;refine List.map_congr_left fun y hy=>?_;have hoy:E2 y (d+r6 k)=0:=by
    have:∀ {l:List Tm},y∈l→J8 l (d+r6 k)=0→E2 y (d+r6 k)=0:=by
     intro l
     induction l with
     | nil=>intro h;simp at h
     | cons z l ihl =>
      intro h h2;rw [J8] at h2;rcases List.mem_cons.1 h with rfl|h
      ·omega
      ·exact ihl h om_
    exact this hy ho
   exact ih (hg y hy) (by have:=I3 hy;omega) _ om_ om_ hoy (Tm.F6.1 hl.2 y hy)
theorem cn0 {s q:Tm} (gq:TmG q) (lq:q.least 536870912=true) (oq:E2 q 0=0) (zq:m7 q≤50000):q.up (-1) 1=Q5 q 0 s:=by
 have:=cC9 (s:=s) _ gq (Nat.le_refl _) 0 om_ om_ oq (O8 om_ _ lq);exact this.symm
theorem ak3.least {g:List Ty} {f:Fm} (h:ak3 TyG g f):(g.length:Int)+z6 f≤100000→f.least 536870912=true:=by
 induction h with
 | eq h1 h2 =>
  intro hb;rw [V6] at hb;exact aD9.2 ⟨h1.least _ om_ om_,h2.least _ om_ om_⟩
 | two hk _ _ h1 h2 =>
  intro hb;rw [O0] at hb;exact bb4 (h1 om_) (h2 om_)
 | q hk _ h1 =>
  intro hb;rw [ap8] at hb;exact bU0 (h1 (by simp;omega))
theorem FmG.cV4 {u:Bool} {f x:Fm} (h:FmG u f) (hx:x∈f.args):FmG u x:=by
 cases h with
 | eq=>simp [M3,Fm.args] at hx
 | two _ h1 h2=>simp [E8,Fm.args] at hx;rcases hx with rfl|rfl<;>assumption
 | q _ _ h1=>simp [fmQ,Fm.args] at hx;subst hx;exact h1
theorem FmG.cX4 {u:Bool} {f:Fm} {x:Tm} (h:FmG u f) (hx:x∈f.r8):TmG x:=by
 cases h with
 | eq h1 h2=>simp [M3,Fm.r8] at hx;rcases hx with rfl|rfl<;>assumption
 | two=>simp [E8,Fm.r8] at hx
 | q=>simp [fmQ,Fm.r8] at hx
theorem ca5 {f:Fm} {x:Tm} (h:x∈f.r8):m7 x<z6 f:=by
 obtain ⟨k,t,l,a⟩:=f;rw [z6];have:=I3 (show x∈l from h);omega
theorem cm2 {f x:Tm} (h:x∈f.args):m7 x<m7 f:=by
 obtain ⟨k,i,t,a⟩:=f;rw [m7];have:=I3 (show x∈a from h);omega
theorem br2 {M:Int} {f x:Tm} (h:f.least M=true) (hx:x∈f.args):x.least M=true:=by
 rw [Tm.R2,Bool.and_eq_true] at h;exact Tm.F6.1 h.2 x hx
theorem FmG.dg2 {f:Fm} (gf:FmG true f) (lf:f.least 536870912=true) (zf:z6 f≤50000) (a x u q:Fm × Tm) (ha:a.1∈f.args) (hx:x.1∈a.1.args) (hu:u.2∈x.1.r8) (hq:q.2∈u.2.args) :
  q.2.aB2 0=decide (q.2.count 0>0):=by
 have h1:=ac3 ha;have h2:=ac3 hx;have h3:=ca5 hu;have h4:=cm2 hq;exact ((((gf.cV4 ha).cV4 hx).cX4 hu).arg hq).has (br2 (aS7 (ad2 (ad2 lf ha) hx) hu) hq) om_
def aK6 (E:Evl) (e:List Res) (k:Int) (u:Nat) (li:List Res) (ts:List Tm):Out :=
 match Q1 E e u ts with
 | none=>none
 | some (_,u',true)=>some (an1,u',true)
 | some (l,u',false)=>O7 E k u' (li++l)
theorem ca8 {E:Evl} {e:List Res} {k:Int} {u:Nat} {li:List Res}:aK6 E e k u li []=O7 E k u li:=by simp [aK6,Q1]
theorem bM0 {E:Evl} {e:List Res} {k:Int} {u:Nat} {li:List Res} {t:Tm} {ts:List Tm} :
  aK6 E e k u li (t::ts)=match E u t e with|none=>none|some (_,u',true)=>some (an1,u',true)|some (x,u',false)=>aK6 E e k u' (li++[x]) ts:=by
 unfold aK6;rw [Q1];cases E u t e with
 | none=>rfl
 | some p =>
  obtain ⟨x,u1,o1⟩:=p;cases o1 with
  | true=>rfl
  | false =>
   simp only;cases Q1 E e u1 ts with
   | none=>rfl
   | some q =>
    obtain ⟨l,u2,o2⟩:=q;cases o2<;>simp
theorem br4 {most:Nat} {E:Evl} {u:Nat} {t:Tm} {e:List Res} (hu:u≠most) (k1:(t.kind==1)=false) (k2:(t.kind==2)=false) :
  ab7 most E u t e=aK6 E e t.kind (u+1) [] t.args:=by
 unfold ab7 aK6;rw [if_neg hu,k1,k2];simp only [Bool.false_eq_true,if_false];cases Q1 E e (u+1) t.args with
 | none=>rfl
 | some p=>obtain ⟨a,b,o⟩:=p;cases o<;>rfl
theorem cO9 {E:Evl} {u:Nat} {l:List Res} {p:Res × Nat × Bool} (h:O7 E 3 u l=some p):∃ f a,l=[f,a]∧I7 E u f a=some p:=by
 unfold O7 at h;rw [if_pos (by decide)] at h;split at h
 ·exact ⟨_,_,rfl,h⟩
 ·cases h
theorem cQ0 {E:Evl} {u:Nat} {l:List Res} {p:Res × Nat × Bool} (h:O7 E 5 u l=some p):∃ a,l=[a]∧p=(am7 (a.num+1),u,false):=by
 unfold O7 at h;rw [if_neg (by decide),if_pos (by decide)] at h;split at h
 ·exact ⟨_,rfl,(Option.some.inj h).symm⟩
 ·cases h
theorem cN4 {E:Evl} {u:Nat} {l:List Res} {p:Res × Nat × Bool} (h:O7 E 6 u l=some p):∃ z s n,l=[z,s,n]∧ad7 E s n.num 0 u z=some p:=by
 unfold O7 at h;rw [if_neg (by decide),if_neg (by decide),if_pos (by decide)] at h;split at h
 ·exact ⟨_,_,_,rfl,h⟩
 ·cases h
theorem cO3 {E:Evl} {u:Nat} {l:List Res} {p:Res × Nat × Bool} (h:O7 E 8 u l=some p):∃ a b,l=[a,b]∧p=(ag4 (a.num::b.list),u,false):=by
 unfold O7 at h;rw [if_neg (by decide),if_neg (by decide),if_neg (by decide),if_pos (by decide)] at h;split at h
 ·exact ⟨_,_,rfl,(Option.some.inj h).symm⟩
 ·cases h
theorem cP7 {E:Evl} {u:Nat} {l:List Res} {p:Res × Nat × Bool} (h:O7 E 9 u l=some p):∃ z s n,l=[z,s,n]∧V4 E s n.list n.list.length u z=some p:=by
 unfold O7 at h;rw [if_neg (by decide),if_neg (by decide),if_neg (by decide),if_neg (by decide),if_pos (by decide)] at h;split at h
 ·exact ⟨_,_,_,rfl,h⟩
 ·cases h
theorem cz6 {E:Evl} {u:Nat} {l:List Res} {p:Res × Nat × Bool} (h:O7 E 10 u l=some p):p=(ay7 l,u,false):=by
 unfold O7 at h;rw [if_neg (by decide),if_neg (by decide),if_neg (by decide),if_neg (by decide),if_neg (by decide),if_pos (by decide)] at h;exact (Option.some.inj h).symm
theorem cI6 {E:Evl} {u:Nat} {l:List Res} {p:Res × Nat × Bool} (h:O7 E 11 u l=some p):∃ a x y,l=[a]∧a.pair=[x,y]∧p=(x,u,false):=by
 unfold O7 at h;rw [if_neg (by decide),if_neg (by decide),if_neg (by decide),if_neg (by decide),if_neg (by decide),if_neg (by decide),if_pos (by decide)] at h;split at h
 ·split at h
  ·rename_i hp;exact ⟨_,_,_,rfl,hp,(Option.some.inj h).symm⟩
  ·cases h
 ·cases h
theorem cA8 {E:Evl} {u:Nat} {l:List Res} {p:Res × Nat × Bool} (h:O7 E 12 u l=some p):∃ a x y,l=[a]∧a.pair=[x,y]∧p=(y,u,false):=by
 unfold O7 at h;rw [if_neg (by decide),if_neg (by decide),if_neg (by decide),if_neg (by decide),if_neg (by decide),if_neg (by decide),if_neg (by decide),if_pos (by decide)] at h;split at h
 ·split at h
  ·rename_i hp;exact ⟨_,_,_,rfl,hp,(Option.some.inj h).symm⟩
  ·cases h
 ·cases h
theorem cS6 {E:Evl} {u:Nat} {k:Int} {l:List Res} {p:Res × Nat × Bool} (h:O7 E k u l=some p) (h3:(k==3)=false) (h5:(k==5)=false) (h6:(k==6)=false) (h8:(k==8)=false)
  (h9:(k==9)=false) (h10:(k==10)=false) (h11:(k==11)=false) (h12:(k==12)=false):p=(an1,u,false):=by
 unfold O7 at h;simp only [h3,h5,h6,h8,h9,h10,h11,h12,Bool.false_eq_true,if_false,Option.some.injEq] at h;exact h.symm
theorem aw4 (n:Nat):(am7 n).cells=[.int .i64 n,.sl .any [],.sl .any [],.int .i64 0,.int .i64 0,.int .i64 0,.sl .any [],.sl .any [],.sl .any []]:=by
 rw [am7,Res.p9];simp [ah7,ints,C6,Tm.kind,Tm.index,Tm.type,Ty.kind,Ty.args,Tm.args]
theorem aP8:an1.cells=[.int .i64 0,.sl .any [],.sl .any [],.int .i64 0,.int .i64 0,.int .i64 0,.sl .any [],.sl .any [],.sl .any []]:=aw4 0
theorem aP0 (l:List Nat):(ag4 l).cells=[.int .i64 0,.sl .any (ah7 l),.sl .any [],.int .i64 0,.int .i64 0,.int .i64 0,.sl .any [],.sl .any [],.sl .any []]:=by
 rw [ag4,Res.p9];simp [C6,Tm.kind,Tm.index,Tm.type,Ty.kind,Ty.args,Tm.args]
theorem bu9 (l:List Res):(ay7 l).cells=[.int .i64 0,.sl .any [],.sl .any (l.map Res.cells),.int .i64 0,.int .i64 0,.int .i64 0,.sl .any [],.sl .any [],.sl .any []]:=by
 rw [ay7,Res.p9];simp [ah7,ints,C6,Tm.kind,Tm.index,Tm.type,Ty.kind,Ty.args,Tm.args]
theorem bK7 (b:Tm) (e:List Res):(aT8 b e).cells=[.int .i64 0,.sl .any [],.sl .any [],.int .i64 b.kind,.int .i64 b.index,.int .i64 b.type.kind,.sl .any (b.type.args.map Ty.cells),.sl .any (b.args.map Tm.cells),.sl .any (e.map Res.cells)]:=by
 rw [aT8,Res.p9];simp [ah7,ints]
theorem aE1 (l:List Nat):ah7 l=l.map fun (n:Nat)=>[V.int .i64 (n:Int)]:=by simp [ah7,ints,List.map_map,Function.comp_def]
theorem by1 (l:List Nat):(ah7 l).length=l.length:=by simp [aE1]
theorem cp0 {l:List Nat} {j:Nat} (h:j<l.length):(ah7 l)[j]? = some [V.int .i64 (l.getD j 0:Nat)]:=by
 rw [aE1,List.getElem?_map,List.getD_eq_getElem?_getD,List.getElem?_eq_getElem h];rfl
theorem cg2 (l:List Nat):(ah7 l).all (fun e=>e.length==1)=true:=by simp [aE1]
theorem cd7 (l:List Nat):List.take l.length (ah7 l)=ah7 l:=List.take_of_length_le (by rw [by1];exact Nat.le_refl _)
theorem ce9 (l:List Nat) (k:Nat):List.drop k (ah7 l)=ah7 (l.drop k):=by simp [aE1]
theorem bU8 (a:Nat) (l:List Nat):ah7 (a::l)=[V.int .i64 (a:Int)]::ah7 l:=by simp [aE1]
theorem cr6 (l:List Nat):(ah7 l).flatten.all ab6=true:=by
 rw [aE1,List.all_eq_true];intro v hv;obtain ⟨c,hc,hv⟩:=List.mem_flatten.1 hv;obtain ⟨x,_,rfl⟩:=List.mem_map.1 hc;simp at hv;subst hv;rfl
theorem ca0 (l:List Nat):B2 (ah7 l)=ah7 l:=by rw [ah7,N5]
theorem cA9 {S:Id→Prop} (l:List Nat):Z6 S (ah7 l):=by rw [ah7];exact am4 _
attribute [go_sem] by1 cg2 cd7 ce9 cr6 ca0 cA9
theorem Dc.cI3 {g:List Ty} {all:Bool} {q:Tm} {a:Fm} (h:Dc g (J0 all q a)):TmG q∧w7 TyG (g++[r5]) q r5∧E2 q 0=0∧Dc (g++[r5]) a:=by
 generalize hz:J0 all q a=z at h;cases h with
 | eq=>simp [M3,J0,fmQ] at hz
 | two hk _ _=>simp [E8,J0,fmQ] at hz
 | @bnd _ all' q' a' h1 h2 h3 h4 =>
  have e1:M9 (J0 all q a)=q:=by cases all<;>rfl
  have e2:aa9 (J0 all q a)=a:=by cases all<;>rfl
  have e3:M9 (J0 all' q' a')=q':=by cases all'<;>rfl
  have e4:aa9 (J0 all' q' a')=a':=by cases all'<;>rfl
  rw [hz] at e1 e2;rw [e3] at e1;rw [e4] at e2;subst e1 e2;exact ⟨h1,h2,h3,h4⟩
end GoAbs
