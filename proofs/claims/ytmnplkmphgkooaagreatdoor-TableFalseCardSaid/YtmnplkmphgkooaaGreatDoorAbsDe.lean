/-
 The abstract layer: plain laws, further ones.
-/
import Derived.Test.YtmnplkmphgkooaaGreatDoorAbsDd
import Derived.Test.YtmnplkmphgkooaaGreatDoorAbsDc
import Derived.Test.YtmnplkmphgkooaaGreatDoorAbsD
set_option linter.unusedSimpArgs false
set_option linter.unusedVariables false
set_option linter.unusedSectionVars false
namespace GoAbs
open Go
theorem TyF.U {t:Ty} (h:TyF t):∃ u:U,u.ty=t:=by
 induction h with
 | nat=>exact ⟨.nat,rfl⟩
 | list=>exact ⟨.list,rfl⟩
 | unit=>exact ⟨.unit,rfl⟩
 | pair _ _ h1 h2=>obtain ⟨a,rfl⟩:=h1;obtain ⟨b,rfl⟩:=h2;exact ⟨.pair a b,rfl⟩
 | func _ _ h1 h2=>obtain ⟨a,rfl⟩:=h1;obtain ⟨b,rfl⟩:=h2;exact ⟨.fn a b,rfl⟩
theorem U.inj:∀ {u v:U},u.ty=v.ty→u=v:=by
 intro u
 induction u with
 | nat=>intro v h;cases v<;>simp [U.ty,tNat,tList,tUnit,tPair,tFun] at h ⊢
 | list=>intro v h;cases v<;>simp [U.ty,tNat,tList,tUnit,tPair,tFun] at h ⊢
 | unit=>intro v h;cases v<;>simp [U.ty,tNat,tList,tUnit,tPair,tFun] at h ⊢
 | pair a b h1 h2=>intro v h;cases v<;>simp [U.ty,tNat,tList,tUnit,tPair,tFun] at h ⊢;exact ⟨h1 h.1,h2 h.2⟩
 | fn a b h1 h2=>intro v h;cases v<;>simp [U.ty,tNat,tList,tUnit,tPair,tFun] at h ⊢;exact ⟨h1 h.1,h2 h.2⟩
def EnvU (p:List DV) (g:List Ty):Prop:=p.length=g.length∧∀ (i:Nat) (a:Ty),i<g.length→g[g.length - 1 - i]? = some a→∃ (u:U) (d:u.val),p[i]? = some ⟨u,d⟩∧u.ty=a
theorem EnvU.nil:EnvU [] []:=⟨rfl,fun i a h=>by simp at h⟩
theorem EnvU.snoc {p:List DV} {g:List Ty} (h:EnvU p g) {u:U} (x:u.val):EnvU (⟨u,x⟩::p) (g++[u.ty]):=by
 refine ⟨by simp [h.1],fun i a hi ha=>?_⟩
 cases i with
 | zero =>
  rw [List.length_append,List.getElem?_append_right (by simp)] at ha
  simp at ha
  exact ⟨u,x,rfl,ha⟩
 | succ i =>
  simp only [List.length_append,List.length_cons,List.length_nil] at hi
  have e:(g++[u.ty]).length - 1 - (i+1)=g.length - 1 - i:=by simp;omega
  rw [e,List.getElem?_append_left (by omega)] at ha
  rw [List.getElem?_cons_succ]
  exact h.2 i a (by omega) ha
theorem tFun_inj {a b c d:Ty} (h:tFun a b=tFun c d):a=c∧b=d:=by simpa [tFun] using h
theorem tPair_inj {a b c d:Ty} (h:tPair a b=tPair c d):a=c∧b=d:=by simpa [tPair] using h
theorem U.ty_fn {w:U} {a b:Ty} (h:w.ty=tFun a b):∃ u v,w=.fn u v∧u.ty=a∧v.ty=b:=by
 cases w with
 | fn u v=>exact ⟨u,v,rfl,tFun_inj h⟩
 | _=>simp [U.ty,tNat,tList,tUnit,tPair,tFun] at h
theorem U.ty_pair {w:U} {a b:Ty} (h:w.ty=tPair a b):∃ u v,w=.pair u v∧u.ty=a∧v.ty=b:=by
 cases w with
 | pair u v=>exact ⟨u,v,rfl,tPair_inj h⟩
 | _=>simp [U.ty,tNat,tList,tUnit,tPair,tFun] at h
theorem U.ty_nat {w:U} (h:w.ty=tNat):w=.nat:=U.inj (v:=.nat) h
theorem U.ty_list {w:U} (h:w.ty=tList):w=.list:=U.inj (v:=.list) h
theorem HasTy.den {g:List Ty} {t:Tm} {s:Ty} (h:HasTy TyG g t s):∀ {p:List DV},EnvU p g→∃ (u:U) (d:u.val),u.ty=s∧Den p t u d:=by
 induction h with
 | var hi h =>
  intro p hp
  obtain ⟨u,d,h1,h2⟩:=hp.2 _ _ hi h
  exact ⟨u,d,h2,.var h1⟩
 | @lam g a b t hq _ ih =>
  intro p hp
  obtain ⟨w,hw⟩:=TyF.U hq.1
  obtain ⟨u,v,rfl,rfl,rfl⟩:=U.ty_fn hw
  have:∀ x:u.val,∃ d:v.val,Den (⟨u,x⟩::p) t v d:=by
   intro x
   obtain ⟨v',d,h1,h2⟩:=ih (hp.snoc x)
   obtain rfl:=U.inj h1
   exact ⟨d,h2⟩
  exact ⟨.fn u v,fun x=>(this x).choose,rfl,.lam fun x=>(this x).choose_spec⟩
 | n0 hN =>
  intro p hp
  cases hN with
  | zero=>exact ⟨.nat,_,rfl,.zero⟩
  | nil=>exact ⟨.list,_,rfl,.nil⟩
  | unit=>exact ⟨.unit,_,rfl,.unit⟩
 | n1 hN _ i1 =>
  intro p hp
  obtain ⟨u,d,h1,h2⟩:=i1 hp
  cases hN with
  | succ=>obtain rfl:=U.ty_nat h1;exact ⟨.nat,_,rfl,.succ h2⟩
  | fst=>obtain ⟨a,b,rfl,rfl,rfl⟩:=U.ty_pair h1;exact ⟨a,_,rfl,.fst h2⟩
  | snd=>obtain ⟨a,b,rfl,rfl,rfl⟩:=U.ty_pair h1;exact ⟨b,_,rfl,.snd h2⟩
 | n2 hN _ _ i1 i2 =>
  intro p hp
  obtain ⟨u,d,h1,h2⟩:=i1 hp
  obtain ⟨v,e,h3,h4⟩:=i2 hp
  cases hN with
  | app =>
   obtain ⟨a,b,rfl,rfl,rfl⟩:=U.ty_fn h1
   obtain rfl:=U.inj h3
   exact ⟨b,_,rfl,.app h2 h4⟩
  | cons=>obtain rfl:=U.ty_nat h1;obtain rfl:=U.ty_list h3;exact ⟨.list,_,rfl,.cons h2 h4⟩
  | pair=>subst h1;subst h3;exact ⟨.pair u v,_,rfl,.pair h2 h4⟩
 | n3 hN _ _ _ i1 i2 i3 =>
  intro p hp
  obtain ⟨u,d,h1,h2⟩:=i1 hp
  obtain ⟨v,e,h3,h4⟩:=i2 hp
  obtain ⟨w,f,h5,h6⟩:=i3 hp
  cases hN with
  | recr =>
   subst h1
   obtain ⟨a,b,rfl,h7,h8⟩:=U.ty_fn h3
   obtain ⟨b1,b2,rfl,h9,h10⟩:=U.ty_fn h8
   obtain rfl:=U.ty_nat h7
   obtain rfl:=U.inj h9
   obtain rfl:=U.inj h10
   obtain rfl:=U.ty_nat h5
   exact ⟨_,_,rfl,.recr h2 h4 h6⟩
  | fold =>
   subst h1
   obtain ⟨a,b,rfl,h7,h8⟩:=U.ty_fn h3
   obtain ⟨b1,b2,rfl,h9,h10⟩:=U.ty_fn h8
   obtain ⟨c1,c2,rfl,h11,h12⟩:=U.ty_fn h10
   obtain rfl:=U.ty_nat h7
   obtain rfl:=U.ty_list h9
   obtain rfl:=U.inj h11
   obtain rfl:=U.inj h12
   obtain rfl:=U.ty_list h5
   exact ⟨_,_,rfl,.fold h2 h4 h6⟩
theorem dN_den {lim w:Nat} {t:Tm} {k:Nat} {w':Nat} {m:Nat} (ht:HasTy TyG [] t tNat) (hd:Den [] t .nat m) (h:dN lim w t=(k,w',0)):k=m:=by
 unfold dN at h
 split at h
 ·simp at h
 ·next ho =>
  obtain ⟨r,u,o,h1,h2,_⟩:=evN_at (m:=lim - w) ht
  rw [h2] at h ho
  simp only [Prod.mk.injEq] at h ho
  obtain ⟨rfl,_⟩:=h
  have:o=false:=by simpa using ho
  subst this
  exact hd.ev ⟨rfl,by simp⟩ h1
theorem dE_den {lim w:Nat} {x y:Tm} {b:Bool} {w':Nat} {m n:Nat} (hx:HasTy TyG [] x tNat) (hy:HasTy TyG [] y tNat) (dx:Den [] x .nat m) (dy:Den [] y .nat n) (h:dE lim w x y=(b,w',0)) :
  b=true↔m=n:=by
 unfold dE at h
 cases h1:dN lim w x with|mk k1 r=>?_
 obtain ⟨w1,e1⟩:=r
 rw [h1] at h
 simp only at h
 split at h
 ·next he=>simp at h he;exact absurd h.2.2 he
 ·next he =>
  have e0:e1=0:=by simpa using he
  subst e0
  cases h2:dN lim w1 y with|mk k2 r=>?_
  obtain ⟨w2,e2⟩:=r
  rw [h2] at h
  simp only at h
  split at h
  ·next he=>simp at h he;exact absurd h.2.2 he
  ·next he =>
   have e0:e2=0:=by simpa using he
   subst e0
   simp only [Prod.mk.injEq] at h
   obtain ⟨h,_⟩:=h
   rw [← h,dN_den hx dx h1,dN_den hy dy h2]
   simp
theorem up_node {k:Int} {ty:Ty} {l:List Tm} {b:Int} {n:Nat} (h1:(k==1)=false) (h2:tmBelow k=0) (hn:n≤1000000) :
  (tmT k ty l).up b (n:Int)=tmT k ty (l.map fun x=>x.up b (n:Int)):=by
 rw [tmT,Tm.up,Tm.upL_map,h1,h2,addW_zero (by omega) (by omega)];rfl
theorem up_lam {ty:Ty} {t:Tm} {b:Int} {n:Nat} (hn:n≤1000000):(tmT 2 ty [t]).up b (n:Int)=tmT 2 ty [t.up b ((n+1:Nat):Int)]:=by
 have:tmBelow 2=1:=rfl
 have e:addW (n:Int) 1=((n+1:Nat):Int):=by rw [addW_eq (by omega) (by omega) (by omega) (by omega)];rfl
 rw [tmT,Tm.up,Tm.upL_map,this,e];rfl
theorem inn_node {s:Tm} {k:Int} {ty:Ty} {l:List Tm} {n:Nat} (h1:(k==1)=false) (h2:tmBelow k=0) (hn:n≤1000000) :
  tmInn s 0 (tmT k ty l) (n:Int)=tmT k ty (l.map fun x=>tmInn s 0 x (n:Int)):=by
 rw [tmT,tmInn,tmInnL_map,h1,h2,addW_zero (by omega) (by omega)];rfl
theorem tmSz_U1 {k:Int} {t:Ty} {a:Tm}:tmSz (tmT k t [a])=tmSz a+1:=tmSz_T1
theorem tmSz_U2 {k:Int} {t:Ty} {a b:Tm}:tmSz (tmT k t [a,b])=tmSz a+tmSz b+1:=by simp [tmT,tmSz,tmSzL]
theorem Den.upl {m:List DV} {p:List DV} {t:Tm} {w:U} {d:w.val} (h:Den p t w d):∀ l r:List DV,p=l++r→p.length+tmSz t≤100000→m.length≤100000 →
  Den (l++m++r) (t.up (m.length:Int) (l.length:Int)) w d:=by
 induction h with
 | @var p i w d hi =>
  intro l r e hb hm
  subst e
  rw [tmVar,Tm.up,Tm.upL]
  have hi':=(List.getElem?_eq_some_iff.1 hi).1
  simp only [beq_self_eq_true,Bool.true_and]
  simp only [List.length_append] at hi' hb
  by_cases hc:(i:Int)≥(l.length:Int)
  ·rw [decide_eq_true hc]
   simp only [if_true]
   have e:addW (i:Int) (m.length:Int)=((i+m.length:Nat):Int):=by rw [addW_eq (by omega) (by omega) (by omega) (by omega)];simp
   rw [e]
   refine Den.var (i:=i+m.length) ?_
   rw [List.getElem?_append_right (by simp;omega)]
   rw [List.getElem?_append_right (by omega)] at hi
   have:i+m.length - (l++m).length=i - l.length:=by simp;omega
   rw [this];exact hi
  ·rw [decide_eq_false hc]
   simp only [Bool.false_eq_true,if_false]
   refine Den.var (i:=i) ?_
   rw [List.append_assoc,List.getElem?_append_left (by omega)]
   rw [List.getElem?_append_left (by omega)] at hi
   exact hi
 | @lam p a w b f _ ih =>
  intro l r e hb hm
  subst e
  rw [tmSz_U1] at hb
  simp only [List.length_append] at hb
  rw [up_lam (by omega)]
  refine .lam fun x=>?_
  have:=ih x (⟨a,x⟩::l) r rfl (by simp;omega) hm
  simpa using this
 | zero=>intro l r e hb hm;subst e;simp only [List.length_append] at hb;rw [up_node rfl rfl (by omega)];exact .zero
 | nil=>intro l r e hb hm;subst e;simp only [List.length_append] at hb;rw [up_node rfl rfl (by omega)];exact .nil
 | unit=>intro l r e hb hm;subst e;simp only [List.length_append] at hb;rw [up_node rfl rfl (by omega)];exact .unit
 | succ _ i1=>intro l r e hb hm;have hb':=hb;rw [tmSz_U1] at hb;subst e;simp only [List.length_append] at hb;rw [up_node rfl rfl (by omega)];exact .succ (i1 l r rfl (by simp;omega) hm)
 | fst _ i1=>intro l r e hb hm;rw [tmSz_U1] at hb;subst e;simp only [List.length_append] at hb;rw [up_node rfl rfl (by omega)];exact .fst (i1 l r rfl (by simp;omega) hm)
 | snd _ i1=>intro l r e hb hm;rw [tmSz_U1] at hb;subst e;simp only [List.length_append] at hb;rw [up_node rfl rfl (by omega)];exact .snd (i1 l r rfl (by simp;omega) hm)
 | app _ _ i1 i2 =>
  intro l r e hb hm;rw [tmSz_U2] at hb;subst e;simp only [List.length_append] at hb;rw [up_node rfl rfl (by omega)]
  exact .app (i1 l r rfl (by simp;omega) hm) (i2 l r rfl (by simp;omega) hm)
 | cons _ _ i1 i2 =>
  intro l r e hb hm;rw [tmSz_U2] at hb;subst e;simp only [List.length_append] at hb;rw [up_node rfl rfl (by omega)]
  exact .cons (i1 l r rfl (by simp;omega) hm) (i2 l r rfl (by simp;omega) hm)
 | pair _ _ i1 i2 =>
  intro l r e hb hm;rw [tmSz_U2] at hb;subst e;simp only [List.length_append] at hb;rw [up_node rfl rfl (by omega)]
  exact .pair (i1 l r rfl (by simp;omega) hm) (i2 l r rfl (by simp;omega) hm)
 | recr _ _ _ i1 i2 i3 =>
  intro l r e hb hm;rw [tmSz_T3] at hb;subst e;simp only [List.length_append] at hb;rw [up_node rfl rfl (by omega)]
  exact .recr (i1 l r rfl (by simp;omega) hm) (i2 l r rfl (by simp;omega) hm) (i3 l r rfl (by simp;omega) hm)
 | fold _ _ _ i1 i2 i3 =>
  intro l r e hb hm;rw [tmSz_T3] at hb;subst e;simp only [List.length_append] at hb;rw [up_node rfl rfl (by omega)]
  exact .fold (i1 l r rfl (by simp;omega) hm) (i2 l r rfl (by simp;omega) hm) (i3 l r rfl (by simp;omega) hm)
theorem HasTy.cl {Q:Ty→Prop} {g:List Ty} {t:Tm} {s:Ty} (h:HasTy Q g t s):tmCl t (g.length:Int)=true:=by
 induction h with
 | var hi h=>rw [tmVar,tmCl];simp;omega
 | @lam g a b t hq h ih =>
  rw [tmT,tmCl,tmClL,tmClL]
  have e:(g.length:Int)+tmBelow 2=((g++[a]).length:Int):=by simp;rfl
  rw [e,ih];rfl
 | n0 hn=>rw [tmT,tmCl,tmClL];cases hn<;>rfl
 | @n1 g k ty s a x hn h1 i1 =>
  have hk:(k==1)=false∧tmBelow k=0:=by cases hn<;>exact ⟨rfl,rfl⟩
  rw [tmT,tmCl,tmClL,tmClL,hk.1,hk.2,Int.add_zero,i1];rfl
 | @n2 g k ty s a b x y hn h1 h2 i1 i2 =>
  have hk:(k==1)=false∧tmBelow k=0:=by cases hn<;>exact ⟨rfl,rfl⟩
  rw [tmT,tmCl,tmClL,tmClL,tmClL,hk.1,hk.2,Int.add_zero,i1,i2];rfl
 | @n3 g k ty s a b c x y z hn h1 h2 h3 i1 i2 i3 =>
  have hk:(k==1)=false∧tmBelow k=0:=by cases hn<;>exact ⟨rfl,rfl⟩
  rw [tmT,tmCl,tmClL,tmClL,tmClL,tmClL,hk.1,hk.2,Int.add_zero,i1,i2,i3];rfl
theorem HasTy.pre {Q:Ty→Prop} (l:List Ty) {g:List Ty} {t:Tm} {s:Ty} (h:HasTy Q g t s):HasTy Q (l++g) t s:=by
 induction h with
 | @var g i t hi h =>
  refine .var (by simp;omega) ?_
  have e:(l++g).length - 1 - i=l.length+(g.length - 1 - i):=by simp;omega
  rw [e,List.getElem?_append_right (by omega),← h];congr 1;omega
 | lam hq h ih=>exact .lam hq (by rw [List.append_assoc];exact ih)
 | n0 hn=>exact .n0 hn
 | n1 hn h1 i1=>exact .n1 hn i1
 | n2 hn h1 h2 i1 i2=>exact .n2 hn i1 i2
 | n3 hn h1 h2 h3 i1 i2 i3=>exact .n3 hn i1 i2 i3
structure FunN (t:Tm):Prop where
 ty:HasTy TyG [] t (tFun tNat tNat)
 gd:TmG t
 w:TmW t
 l:t.least 10000=true
 z:tmSz t≤1000
 b:∃ b,t=tmT 2 tNat [b]∧HasTy TyG [tNat] b tNat
namespace FunN
variable {g t:Tm} (hg:FunN g) (ht:FunN t)
include hg
theorem up (b:Int) (d:Int) (h0:0≤d) (hd:d≤10000):g.up b d=g:=up_cl (tmSz g) g (Nat.le_refl _) 0 d hg.ty.cl h0 h0 (by have:=hg.z;omega)
theorem inn (s:Tm) (d:Int) (h0:0≤d) (hd:d≤10000):tmInn s 0 g d=g:=inn_cl (tmSz g) g (Nat.le_refl _) 0 d hg.ty.cl h0 h0 (by have:=hg.z;omega)
theorem sl:g.sl 1 0=g:=by
 rw [sl_up (by omega) (by omega) _ hg.gd (Nat.le_refl _) (least_mono (by omega) _ hg.l) 0 (by omega) (by have:=hg.z;omega),hg.up 1 0 (by omega) (by omega)]
theorem tyG (l:List Ty):HasTy TyG l g (tFun tNat tNat):=by have:=hg.ty.pre l;rwa [List.append_nil] at this
theorem FW:FmW (askF g):=askF_W hg.w
theorem F1W:FmW (ask1 g):=fmQ_W tNat_W (fmEq_W (tmVar_W 0) (tm0_W2 hg.w (tmVar_W 1)))
theorem Fty:FmTy TyG [] (askF g):=askF_ty (hg.tyG _)
theorem EG:FmG true (fmEq (tmVar 0) (tm0 3 [g,tmVar 1])):=.eq (.var (by omega)) (.t2 rfl rfl hg.gd (.var (by omega)))
theorem F1G:FmG true (ask1 g):=.q (.inr (.inl rfl)) ⟨.nat,by rw [tySz_nat];omega⟩ hg.EG
theorem FG:FmG true (askF g):=.q (.inl rfl) ⟨.nat,by rw [tySz_nat];omega⟩ hg.F1G
theorem Ez:fmSz (fmEq (tmVar 0) (tm0 3 [g,tmVar 1]))=tmSz g+4:=by rw [fmSz_eq,tmSz_v,tmSz_2,tmSz_v];omega
theorem F1z:fmSz (ask1 g)=tmSz g+5:=by rw [ask1,fmSz_q,hg.Ez]
theorem Fz:fmSz (askF g)=tmSz g+6:=by
 show fmSz (fmQ 4 tNat (ask1 g))=_
 rw [fmSz_q,hg.F1z]
theorem Ferr:fmErr (askF g)=0:=hg.FG.err0 (by rw [hg.Fz];have:=hg.z;omega)
theorem F1err:fmErr (ask1 g)=0:=hg.F1G.err0 (by rw [hg.F1z];have:=hg.z;omega)
theorem err:tmErr g=0:=hg.gd.err0 (by have:=hg.z;omega)
theorem Fct:(askF g).cty=(tFun tNat tNat,0):=by unfold Fm.cty;rw [hg.Ferr];rfl
theorem F1ct:(ask1 g).cty=(tNat,0):=by unfold Fm.cty;rw [hg.F1err];rfl
theorem Fhas:(askF g).has 1=(true,0):=by unfold Fm.has;rw [hg.Ferr];rfl
end FunN
theorem szW_G {t:Tm} (h:TmG t) (z:tmSz t≤4000):decide (t.szW>4096)=false:=by rw [h.szW (by omega)];exact decide_eq_false (by omega)
theorem rl_up {t:Tm} (ht:FunN t):rlUp true t=tm0 3 [t,tmVar 0]:=by unfold rlUp rlCall;rw [ht.sl];rfl
theorem rl_eq {n:Nat} {x y t:Tm} (ht:TmG t) (zt:tmSz t≤4000):rlOf (n+1) (fmEq x y) t=(fmEq x y,0):=by
 rw [rlOf,szW_G ht zt];rfl
theorem inn_v0 {s:Tm} (hs:TmG s) (ls:s.least 1000000000=true):tmInn s 0 (tmVar 0) 0=s:=by
 rw [tmVar,tmInn]
 have e:addW 0 0=0:=rfl
 rw [e]
 exact up_zero _ hs (Nat.le_refl _) ls 0
theorem ap_G {g:Tm} (hg:FunN g):TmG (tm0 3 [g,tmVar 0]):=.t2 rfl rfl hg.gd (.var (by omega))
theorem ap_l {g:Tm} (hg:FunN g) {M:Int} (hM:10000≤M):(tm0 3 [g,tmVar 0]).least M=true:=least_tm0 (by omega) (by
 intro x hx;simp at hx;rcases hx with rfl|rfl
 ·exact least_mono hM _ hg.l
 ·exact least_v (by omega))
theorem finn_e {s x y:Tm}:fmInn s 0 (fmEq x y) 0=fmEq (tmInn s 0 x 0) (tmInn s 0 y 0):=by
 rw [fmEq,fmInn];rfl
theorem finn_ap {g x:Tm} (hg:FunN g) (hx:TmG x) (lx:x.least 1000000000=true):fmInn x 0 (fmEq (tmVar 0) (tm0 3 [g,tmVar 1])) 0=fmEq x (tm0 3 [g,tmVar 0]):=by
 have h2:=inn_node (s:=x) (k:=3) (ty:=.mk 0 []) (l:=[g,tmVar 1]) (n:=0) rfl rfl (by omega)
 have z0:((0:Nat):Int)=0:=rfl
 rw [z0] at h2
 rw [finn_e,inn_v0 hx lx]
 have e:tm0 3 [g,tmVar 1]=tmT 3 (.mk 0 []) [g,tmVar 1]:=rfl
 rw [e,h2,List.map_cons,List.map_cons,List.map_nil,hg.inn x 0 (by omega) (by omega)]
 rfl
theorem rl_ex {n:Nat} {g t:Tm} (hg:FunN g) (ht:FunN t):rlOf (n+2) (ask1 g) (tm0 3 [t,tmVar 0])=(fmEq (tm0 3 [t,tmVar 0]) (tm0 3 [g,tmVar 0]),0):=by
 have zt:=ht.z
 have zg:=hg.z
 have zx:tmSz (tm0 3 [t,tmVar 0])=tmSz t+2:=by rw [tmSz_2,tmSz_v]
 have e0:rlOf (n+2) (ask1 g) (tm0 3 [t,tmVar 0])=rlEx (rlOf (n+1)) (fmEq (tmVar 0) (tm0 3 [g,tmVar 1])) (tm0 3 [t,tmVar 0]):=by
  rw [rlOf,szW_G (ap_G ht) (by omega)];rfl
 rw [e0]
 have hhc:(fmEq (tmVar 0) (tm0 3 [g,tmVar 1])).hc=false:=hc_none rfl
 have hp:∀ k,rlPart false k (tm0 3 [t,tmVar 0])=tm0 3 [t,tmVar 0]:=fun k=>rfl
 have hx:=ap_G ht
 have lx:=ap_l ht (M:=1000000000) (by omega)
 have esp:(fmEq (tmVar 0) (tm0 3 [g,tmVar 1])).sp (tm0 3 [t,tmVar 0])=fmEq (tm0 3 [t,tmVar 0]) (tm0 3 [g,tmVar 0]):=by
  have:=fsp_inn hx (by omega) lx hg.EG 0 (by omega) (by rw [hg.Ez];omega)
  unfold Fm.sp;rw [this,finn_ap hg hx lx]
 have hgr:decide (subW ((fmEq (tmVar 0) (tm0 3 [g,tmVar 1])).grown (tm0 3 [t,tmVar 0])) (fmEq (tmVar 0) (tm0 3 [g,tmVar 1])).exs>4096)=false:=by
  have hocc:=fmOcc_le (fmEq (tmVar 0) (tm0 3 [g,tmVar 1])) 0
  have e1:(fmEq (tmVar 0) (tm0 3 [g,tmVar 1])).grown (tm0 3 [t,tmVar 0])=((tmSz g+4+(tmSz t+1):Nat):Int):=by
   unfold Fm.grown
   rw [hx.szW (by omega),hg.EG.szW (by rw [hg.Ez];omega),hg.Ez]
   have e1:subW (tmSz (tm0 3 [t,tmVar 0]):Int) 1=((tmSz t+1:Nat):Int):=by rw [subW_eq (by omega) (by omega) (by omega) (by omega)];omega
   rw [e1,grown_occ (c:=4096) (by omega) hg.EG 0 _ (by omega) (by rw [hg.Ez];omega) (by rw [hg.Ez];omega)]
   have ho:fmOcc (fmEq (tmVar 0) (tm0 3 [g,tmVar 1])) 0=1:=by
    have:=hg.EG.inn_sz (s:=tm0 3 [t,tmVar 0]) 0 (by omega) (by rw [hg.Ez];omega)
    rw [finn_ap hg hx lx,fmSz_eq,hg.Ez,tmSz_2,tmSz_2,tmSz_v] at this
    have:=Nat.eq_of_mul_eq_mul_right (show 0<tmSz t+1 by omega) (show fmOcc (fmEq (tmVar 0) (tm0 3 [g,tmVar 1])) 0 * (tmSz t+1)=1 * (tmSz t+1) by
     have e:tmSz t+1+1 - 1=tmSz t+1:=by omega
     first|omega|(rw [show tmSz t+1+1 - 1=tmSz t+1 by omega] at this;omega))
    exact this
   rw [ho,Nat.one_mul]
  rw [e1]
  have e2:(fmEq (tmVar 0) (tm0 3 [g,tmVar 1])).exs=0:=rfl
  rw [e2,subW_eq (by omega) (by omega) (by omega) (by omega)]
  exact decide_eq_false (by omega)
 unfold rlEx
 rw [hhc,hp,hp,szW_G hx (by omega),hgr,esp]
 simp only [Bool.or_self,Bool.false_eq_true,if_false]
 exact rl_eq hx (by omega)
theorem rl_ask {g t:Tm} (hg:FunN g) (ht:FunN t):rlF (askF g) t=(askR g t,0):=by
 have zt:=ht.z
 have zg:=hg.z
 have hlE:∀ {M:Int},10000≤M→(askF g).least M=true:=fun hM=>by
  have hl:=least_mono hM _ hg.l
  unfold askF fmQ fmEq tm0
  simp [Fm.least,Fm.leastL,Tm.least,Tm.leastL,tmVar,hl]
  omega
 rw [rlF_of hg.FG (by rw [hg.Fz];omega) ht.gd (by omega) (hlE (by omega)) (least_mono (by omega) _ ht.l)]
 have e1:(askF g).fl.c=true:=rfl
 have e2:fdp (askF g)=3:=rfl
 rw [e1,e2,if_pos rfl]
 have e3:rlOf 3 (askF g) t=rlBuild 4 tNat (rlOf 2 (ask1 g) (rlUp true t)):=by
  rw [rlOf,szW_G ht.gd (by omega)]
  have hh:(ask1 g).hc=true:=by unfold Fm.hc Fm.has;rw [hg.F1err];rfl
  show rlBuild 4 tNat (rlOf 2 (ask1 g) (rlUp ((4:Int)==4&&(ask1 g).hc) t))=_
  rw [hh];rfl
 rw [e3,rl_up ht,rl_ex hg ht]
 have hG:FmG true (askR g t):=.q (.inl rfl) ⟨.nat,by rw [tySz_nat];omega⟩ (.eq (ap_G ht) (ap_G hg))
 have hz:fmSz (askR g t)≤4000:=by rw [askR,fmSz_q,fmSz_eq,tmSz_2,tmSz_2,tmSz_v];omega
 have hd:decide ((askR g t).szW>4096)=false:=by rw [hG.szW (by omega)];exact decide_eq_false (by omega)
 unfold rlBuild
 show (if ((0:Int) != 0)=true then _ else if decide ((askR g t).szW>4096)=true then _ else _)=_
 rw [hd];rfl
theorem inn_ap {g s:Tm} (hg:FunN g) (hs:TmG s) (ls:s.least 1000000000=true):tmInn s 0 (tm0 3 [g,tmVar 0]) 0=tm0 3 [g,s]:=by
 have h2:=inn_node (s:=s) (k:=3) (ty:=.mk 0 []) (l:=[g,tmVar 0]) (n:=0) rfl rfl (by omega)
 have z0:((0:Nat):Int)=0:=rfl
 rw [z0] at h2
 have e:tm0 3 [g,tmVar 0]=tmT 3 (.mk 0 []) [g,tmVar 0]:=rfl
 rw [e,h2,List.map_cons,List.map_cons,List.map_nil,hg.inn s 0 (by omega) (by omega),inn_v0 hs ls]
 rfl
def askB (g t:Tm):Fm:=fmEq (tm0 3 [t,tmVar 0]) (tm0 3 [g,tmVar 0])
theorem askB_W {g t:Tm} (hg:FunN g) (ht:FunN t):FmW (askB g t):=fmEq_W (tm0_W2 ht.w (tmVar_W 0)) (tm0_W2 hg.w (tmVar_W 0))
theorem askB_G {g t:Tm} (hg:FunN g) (ht:FunN t):FmG true (askB g t):=.eq (ap_G ht) (ap_G hg)
theorem askB_z {g t:Tm}:fmSz (askB g t)=tmSz t+tmSz g+5:=by rw [askB,fmSz_eq,tmSz_2,tmSz_2,tmSz_v];omega
theorem askB_l {g t:Tm} (hg:FunN g) (ht:FunN t):(askB g t).least 536870912=true:=by
 have h1:=ap_l hg (M:=536870912) (by omega)
 have h2:=ap_l ht (M:=536870912) (by omega)
 unfold askB fmEq
 simp [Fm.least,Fm.leastL,Tm.leastL,h1,h2]
theorem ask_put {g t:Tm} (hg:FunN g) (ht:FunN t) {n:Nat} (hn:n≤100):putR (askB g t) (numT n)=(askI g t n,0):=by
 have lz:=hg.z
 have tz:=ht.z
 have hi:fmInn (numT n) 0 (askB g t) 0=askI g t n:=by
  rw [askB,finn_e,inn_ap ht (numT_G n) (least_num (by omega) n),inn_ap hg (numT_G n) (least_num (by omega) n)];rfl
 have hs:=(askB_G hg ht).inn_sz (s:=numT n) 0 (by omega) (by rw [askB_z];omega)
 rw [hi,askI_sz] at hs
 unfold putR
 rw [if_pos (by rw [← hs];omega),hi]
theorem askI_G {g t:Tm} (hg:FunN g) (ht:FunN t) (n:Nat):FmG true (askI g t n):=.eq (.t2 rfl rfl ht.gd (numT_G n)) (.t2 rfl rfl hg.gd (numT_G n))
theorem askI_has {g t:Tm} (hg:FunN g) (ht:FunN t) {n:Nat} (hn:n≤100):(askI g t n).has 4=(true,0):=by
 have lz:=hg.z
 have tz:=ht.z
 unfold Fm.has
 rw [(askI_G hg ht n).err0 (by rw [askI_sz];omega)];rfl
theorem dN_e {lim w:Nat} {t:Tm} (ht:HasTy TyG [] t tNat) (hw:w≤lim):(dN lim w t).2.1≤lim∧((dN lim w t).2.2=0∨(dN lim w t).2.2=5):=by
 obtain ⟨r,u,o,h1,h2,h3⟩:=evN_at (m:=lim - w) ht
 unfold dN
 rw [h2]
 cases o
 ·exact ⟨by simp;omega,.inl rfl⟩
 ·exact ⟨by simp;omega,.inr rfl⟩
theorem dE_e {lim w:Nat} {x y:Tm} (hx:HasTy TyG [] x tNat) (hy:HasTy TyG [] y tNat) (hw:w≤lim):(dE lim w x y).2.1≤lim∧((dE lim w x y).2.2=0∨(dE lim w x y).2.2=5):=by
 obtain ⟨h1,h2⟩:=dN_e hx hw
 obtain ⟨h3,h4⟩:=dN_e (t:=y) hy h1
 unfold dE
 split
 ·exact ⟨h1,h2⟩
 ·split
  ·exact ⟨h3,h4⟩
  ·exact ⟨h3,.inl rfl⟩
theorem Den.cl {g:Tm} (hg:FunN g) {G:Nat→Nat} (h:Den [] g (.fn .nat .nat) G) (p:List DV) (hp:p.length≤1):Den p g (.fn .nat .nat) G:=by
 have:=Den.upl (m:=p) h [] [] rfl (by have:=hg.z;simp;omega) (by omega)
 rw [hg.up _ _ (by simp) (by simp)] at this
 simpa using this
theorem Den.nat {p:List DV}:∀ n:Nat,Den p (numT n) .nat n
 | 0=>.zero
 | n+1=>.succ (Den.nat n)
def badT (g:Tm):Tm:=tmT 2 tNat [tm0 5 [tm0 3 [g,tmVar 0]]]
theorem Den.bad {g:Tm} (hg:FunN g) {G:Nat→Nat} (h:Den [] g (.fn .nat .nat) G):Den [] (badT g) (.fn .nat .nat) (fun n=>G n+1) :=
 Den.lam (a:=.nat) (u:=.nat) (f:=fun n=>(G n+1:Nat)) fun x=>Den.succ (Den.app (a:=.nat) (b:=.nat) (Den.cl hg h _ (by simp)) (.var rfl))
theorem FunN.bad {g:Tm} (hg:FunN g) (hz:tmSz g≤900):FunN (badT g):=by
 have h0:HasTy TyG [tNat] (tm0 5 [tm0 3 [g,tmVar 0]]) tNat:=.n1 (ty:=.mk 0 []) .succ (.n2 (ty:=.mk 0 []) .app (hg.tyG _) (HasTy.v0 (g:=[])))
 refine ⟨.lam1 tNN h0,.lam ⟨.nat,by rw [tySz_nat];omega⟩ (.t1 rfl rfl (ap_G hg)),tmT_W1 tNat_W (tm0_W1 (tm0_W2 hg.w (tmVar_W 0))),?_,?_,_,rfl,h0⟩
 ·have h1:=ap_l hg (M:=10000) (by omega)
  unfold badT tmT tm0
  simp [Tm.least,Tm.leastL]
  exact ⟨hg.l,least_v (by omega)⟩
 ·rw [badT,tmSz_T1,tmSz_1,tmSz_2,tmSz_v];omega
theorem FunN.den {g:Tm} (hg:FunN g):∃ G:Nat→Nat,Den [] g (.fn .nat .nat) G:=by
 obtain ⟨u,d,hu,hd⟩:=HasTy.den hg.ty EnvU.nil
 obtain ⟨a,b,rfl,ha,hb⟩:=U.ty_fn hu
 obtain rfl:=U.ty_nat ha
 obtain rfl:=U.ty_nat hb
 exact ⟨d,hd⟩
theorem FunN.run {t:Tm} (ht:FunN t) (n:Nat) (hn:n≤4000):∃ r1 r2 u2 o,ev 20000 20001 0 t []=some (r1,1,false)∧evCall (ev 20000 20001) 1 r1 (numR n)=some (r2,u2,o)∧u2≤20000 ∧
  (o=false→r2.num≤100000∧∀ T:Nat→Nat,Den [] t (.fn .nat .nat) T→r2.num=T n):=by
 obtain ⟨r1,u1,o1,h1,h2,h3,h4⟩:=ev_P (Q:=TyG) (most:=20000) 20001 0 t [] [] _ (by omega) (by omega) ht.ty ⟨rfl,by simp⟩
 obtain ⟨b,e,hb⟩:=ht.b
 have hev:ev 20000 20001 0 t []=some (cloR b [],1,false):=by
  subst e
  rw [show (20001:Nat)=20000+1 from rfl,ev_succ]
  unfold evStep
  rw [if_neg (by omega)];rfl
 rw [hev] at h1
 simp only [Option.some.injEq,Prod.mk.injEq] at h1
 obtain ⟨rfl,rfl,rfl⟩:=h1
 obtain ⟨r2,u2,o2,g1,g2,g3,g4⟩:=evCall_P (ev_P (Q:=TyG) (most:=20000) 20001) (u:=1) (by omega) (by omega) (h4 rfl) (RTy.num (n:=n))
 refine ⟨_,r2,u2,o2,hev,g1,g3,fun ho=>⟨?_,fun T hT=>?_⟩⟩
 ·subst ho
  have hW:=ev_W (K:=9000) (most:=20000) (by omega) 20001
  obtain ⟨_,_,b2⟩:=hW 0 0 t [] _ 1 false hev (by omega) (by omega) ht.w (by simp) (by simp)
  obtain ⟨_,_,b4⟩:=evCall_W hW (c:=0) g1 (by omega) (by omega) (b2 rfl).2 (ResW.num (by omega))
  have:=(b4 rfl).2.n1
  omega
 ·subst ho
  have:=Den.ev hT (most:=20000) (n:=20001) (u:=0) (es:=[]) ⟨rfl,fun i u d h=>by simp at h⟩ hev
  exact this 20000 20001 1 (numR n) n r2 u2 rfl g1
theorem ask_dT {g t:Tm} (hg:FunN g) (ht:FunN t) {n:Nat} (hn:n≤100):∃ b w e,dT 20000 (fdp (askI g t n)) 0 (askI g t n)=(b,w,e)∧w≤20000∧(e=0∨e=5) ∧
  (e=0→∀ G T:Nat→Nat,Den [] g (.fn .nat .nat) G→Den [] t (.fn .nat .nat) T→(b=true↔T n=G n)):=by
 have zg:=hg.z
 have zt:=ht.z
 have hx:HasTy TyG [] (tm0 3 [t,numT n]) tNat:=.n2 (ty:=.mk 0 []) .app ht.ty (.num n)
 have hy:HasTy TyG [] (tm0 3 [g,numT n]) tNat:=.n2 (ty:=.mk 0 []) .app hg.ty (.num n)
 have e1:fdp (askI g t n)=1:=by rw [askI,fdp_eqn]
 have hd:dT 20000 (fdp (askI g t n)) 0 (askI g t n)=dE 20000 0 (tm0 3 [t,numT n]) (tm0 3 [g,numT n]):=by rw [e1,askI,dT_eq]
 obtain ⟨h1,h2⟩:=dE_e (lim:=20000) (w:=0) hx hy (by omega)
 refine ⟨_,_,_,hd,h1,h2,fun h0 G T hG hT=>?_⟩
 exact dE_den hx hy (Den.app hT (Den.nat n)) (Den.app hG (Den.nat n)) (Prod.ext rfl (Prod.ext rfl h0))
end GoAbs
