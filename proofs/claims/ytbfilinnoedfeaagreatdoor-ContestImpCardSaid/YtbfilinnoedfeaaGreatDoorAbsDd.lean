/-
 The abstract layer: plain laws, further ones.
-/
import Derived.Test.YtbfilinnoedfeaaGreatDoorAbsDc
import Derived.Test.YtbfilinnoedfeaaGreatDoorAbsDb
import Derived.Test.YtbfilinnoedfeaaGreatDoorAbsD
set_option linter.unusedSimpArgs false
set_option linter.unusedVariables false
set_option linter.unusedSectionVars false
namespace GoAbs
open Go
section
variable {F:Fence} (hF:∀ f,F.fn f) {m:Nat} {ds:List Deferred} {P:Program} {env:Nat→Option (List V)} {ops:Array Oper} {n:Nat}
include hF
end
theorem tyH_pos {t:Ty}:1≤tyH t:=by cases t;rw [tyH];omega
theorem tyH_two {k:Int} {a b:Ty} {n:Nat} (h:tyH (.mk k [a,b])≤n+1):tyH a≤n∧tyH b≤n:=by
 rw [tyH,tyHL,tyHL,tyHL] at h;omega
theorem candN_pos' {t:Ty} (h:TyF t) {m:Nat}:∀ {n:Nat},tyH t≤n→1≤(candN n t m).length:=by
 induction h with
 | nat=>intro n hn;obtain ⟨n,rfl⟩:∃ k,n=k+1:=⟨n - 1,by have:=@tyH_pos tNat;omega⟩;rw [candN_nat];simp [numsT]<;>omega
 | list=>intro n hn;obtain ⟨n,rfl⟩:∃ k,n=k+1:=⟨n - 1,by have:=@tyH_pos tList;omega⟩;rw [candN_list];simp [listsT]<;>omega
 | unit=>intro n hn;obtain ⟨n,rfl⟩:∃ k,n=k+1:=⟨n - 1,by have:=@tyH_pos tUnit;omega⟩;rw [candN_unit];simp
 | @pair a b _ _ h1 h2 =>
  intro n hn
  obtain ⟨n,rfl⟩:∃ k,n=k+1:=⟨n - 1,by have:=@tyH_pos (tPair a b);omega⟩
  obtain ⟨g1,g2⟩:=tyH_two hn
  rw [candN_pair];have:=pairUp_pos (h2 g2) (out:=[]) (.inl (h1 g1));simp;omega
 | @func a b _ _ h1 h2 =>
  intro n hn
  obtain ⟨n,rfl⟩:∃ k,n=k+1:=⟨n - 1,by have:=@tyH_pos (tFun a b);omega⟩
  obtain ⟨g1,g2⟩:=tyH_two hn
  rw [candN_fun];have:=h2 g2;simp;omega
theorem candN_ok' {K:Nat} {t:Ty} (h:TyF t) {m:Nat} (hm:2 * m+6≤K):tySz t≤64→∀ {n:Nat} {g:List Ty},tyH t≤n→∀ x∈candN n t m,CandOk g t (K * tySz t) x:=by
 induction h with
 | nat =>
  intro _ n g hn x hx
  obtain ⟨n,rfl⟩:∃ k,n=k+1:=⟨n - 1,by have:=@tyH_pos tNat;omega⟩
  rw [candN_nat] at hx
  exact (numsT_ok x (List.mem_of_mem_take hx)).up (by rw [tySz_nat];omega)
 | list =>
  intro _ n g hn x hx
  obtain ⟨n,rfl⟩:∃ k,n=k+1:=⟨n - 1,by have:=@tyH_pos tList;omega⟩
  rw [candN_list] at hx
  exact (listsT_ok x (List.mem_of_mem_take hx)).up (by rw [tySz_list];omega)
 | unit =>
  intro _ n g hn x hx
  obtain ⟨n,rfl⟩:∃ k,n=k+1:=⟨n - 1,by have:=@tyH_pos tUnit;omega⟩
  rw [candN_unit] at hx
  obtain rfl:=List.mem_singleton.1 hx
  exact ⟨.n0 (ty:=.mk 0 []) .unit,.t0 rfl rfl,by rw [tmSz_0,tySz_unit];omega,tm0_W0⟩
 | @pair a b ha hb h1 h2 =>
  intro hz n g hn x hx
  obtain ⟨n,rfl⟩:∃ k,n=k+1:=⟨n - 1,by have:=@tyH_pos (tPair a b);omega⟩
  obtain ⟨g1,g2⟩:=tyH_two hn
  rw [tySz_pair] at hz
  rw [candN_pair] at hx
  rcases pairUp_mem (List.mem_of_mem_take hx) with h|⟨c,hc,d,hd,rfl⟩
  ·simp at h
  have k1:=h1 (by omega) (g:=g) g1 c hc
  have k2:=h2 (by omega) (g:=g) g2 d hd
  exact ⟨.n2 (ty:=.mk 0 []) (.pair (.pair' ha hb (by omega))) k1.ty k2.ty,.t2 rfl rfl k1.gd k2.gd,by rw [tmSz_2,tySz_pair,Nat.mul_add,Nat.mul_add];have:=k1.sz;have:=k2.sz;omega,tm0_W2 k1.w k2.w⟩
 | @func a b ha hb h1 h2 =>
  intro hz n g hn x hx
  obtain ⟨n,rfl⟩:∃ k,n=k+1:=⟨n - 1,by have:=@tyH_pos (tFun a b);omega⟩
  obtain ⟨g1,g2⟩:=tyH_two hn
  rw [tySz_fun] at hz
  rw [candN_fun] at hx
  have hq:TyG (tFun a b):=.fun' ha hb (by omega)
  have hg:TyG a:=⟨ha,by omega⟩
  have:=tySz_pos b
  rcases List.mem_append.1 (List.mem_of_mem_take hx) with h|h
  ·split at h
   ·next he =>
    obtain rfl:=List.mem_singleton.1 h
    have e:=Ty.same_true he
    subst e
    exact ⟨.lam hq .v0,.lam hg (.var (by omega)),by rw [tmSz_T1,tmSz_v,tySz_fun,Nat.mul_add,Nat.mul_add];omega,tmT_W1 hg.1.W (tmVar_W 0)⟩
   ·simp at h
  ·obtain ⟨c,hc,rfl⟩:=List.mem_map.1 h
   have k2:=h2 (by omega) (g:=g++[a]) g2 c hc
   exact ⟨.lam hq k2.ty,.lam hg k2.gd,by rw [tmSz_T1,tySz_fun,Nat.mul_add,Nat.mul_add];have:=k2.sz;omega,tmT_W1 hg.1.W k2.w⟩
def eq32:Fm:=fmEq (tmVar 0) (tmVar 1)
def f32:Fm:=.mk 4 tNat [] [.mk 5 tNat [] [eq32] ]
def w32:Tm:=tmT 2 tNat [tm0 4 []]
def x32 (c:Tm):Fm:=fmEq (tm0 3 [w32,c]) c
theorem mat32_0:matF f32 w32 (numT 0)=(x32 (numT 0),0):=by rfl
theorem mat32_1:matF f32 w32 (numT 1)=(x32 (numT 1),0):=by rfl
theorem ch32:Fm.challenge f32=(tNat,0):=by rfl
theorem cand32 {n:Nat}:candN (n+1) tNat 2=[numT 0,numT 1,numT 2]:=by rw [candN_num (by omega)];rfl
theorem w32_W:TmW w32:=tmT_W1 tNat_W tm0_W0
theorem eq32_W:FmW eq32:=fmEq_W (tmVar_W 0) (tmVar_W 1)
theorem f32_W:FmW f32:=fmQ_W tNat_W (fmQ_W tNat_W eq32_W)
theorem w32_ty:HasTy TyG [] w32 (tFun tNat tNat):=.lam1 tNN (.n0 (ty:=.mk 0 []) .zero)
theorem w32_G:TmG w32:=.lam ⟨.nat,by rw [tySz_nat];omega⟩ (.t0 rfl rfl)
theorem x32_dc (i:Nat):Dc [] (x32 (numT i)):=.eq (.t2 rfl rfl w32_G (numT_G i)) (numT_G i) (.n2 (ty:=.mk 0 []) .app w32_ty (.num i)) (.num i)
theorem x32_sz:fmSz (x32 (numT 0))≤4096∧fmSz (x32 (numT 1))≤4096:=by
 unfold x32 w32
 rw [fmSz_eq,fmSz_eq,tmSz_2,tmSz_2,tmSz_T1,tmSz_0,tmSz_num,tmSz_num];omega
theorem d32_0:(fun a:Ans=>(a.1,a.2.2)) (dT 100 (fdp (x32 (numT 0))) 0 (x32 (numT 0)))=(true,0):=by rfl
theorem d32_1:(fun a:Ans=>(a.1,a.2.2)) (dT 100 (fdp (x32 (numT 1))) 0 (x32 (numT 1)))=(false,0):=by rfl
inductive U where
 | nat|list|unit
 | pair (a b:U)
 | fn (a b:U)
deriving DecidableEq
def U.ty:U→Ty
 | .nat=>tNat
 | .list=>tList
 | .unit=>tUnit
 | .pair a b=>tPair a.ty b.ty
 | .fn a b=>tFun a.ty b.ty
@[reducible] def U.val:U→Type
 | .nat=>Nat
 | .list=>List Nat
 | .unit=>Unit
 | .pair a b=>a.val × b.val
 | .fn a b=>a.val→b.val
def U.dflt:(u:U)→u.val
 | .nat=>(0:Nat)
 | .list=>([]:List Nat)
 | .unit=>()
 | .pair a b=>(a.dflt,b.dflt)
 | .fn _ b=>fun _=>b.dflt
abbrev DV:=Σ u:U,u.val
def recD {α:Type} (z:α) (s:Nat→α→α):Nat→α
 | 0=>z
 | n+1=>s n (recD z s n)
def foldD {α:Type} (z:α) (s:Nat→List Nat→α→α):List Nat→α
 | []=>z
 | x::l=>s x l (foldD z s l)
inductive Den:List DV→Tm→(u:U)→u.val→Prop
 | var {p:List DV} {i:Nat} {u:U} {d:u.val}:p[i]? = some ⟨u,d⟩→Den p (tmVar i) u d
 | lam {p:List DV} {a u:U} {b:Tm} {f:a.val→u.val}:(∀ x:a.val,Den (⟨a,x⟩::p) b u (f x))→Den p (tmT 2 a.ty [b]) (.fn a u) f
 | app {p:List DV} {ty:Ty} {a b:U} {s t:Tm} {f:a.val→b.val} {x:a.val}:Den p s (.fn a b) f→Den p t a x→Den p (tmT 3 ty [s,t]) b (f x)
 | zero {p:List DV} {ty:Ty}:Den p (tmT 4 ty []) .nat (0:Nat)
 | succ {p:List DV} {ty:Ty} {t:Tm} {n:Nat}:Den p t .nat n→Den p (tmT 5 ty [t]) .nat (n+1:Nat)
 | recr {p:List DV} {a:U} {z s t:Tm} {x:a.val} {f:Nat→a.val→a.val} {n:Nat}:Den p z a x→Den p s (.fn .nat (.fn a a)) f→Den p t .nat n →
   Den p (tmT 6 a.ty [z,s,t]) a (recD x f n)
 | nil {p:List DV} {ty:Ty}:Den p (tmT 7 ty []) .list ([]:List Nat)
 | cons {p:List DV} {ty:Ty} {s t:Tm} {n:Nat} {l:List Nat}:Den p s .nat n→Den p t .list l→Den p (tmT 8 ty [s,t]) .list (n::l:List Nat)
 | fold {p:List DV} {a:U} {z s t:Tm} {x:a.val} {f:Nat→List Nat→a.val→a.val} {l:List Nat}:Den p z a x→Den p s (.fn .nat (.fn .list (.fn a a))) f→Den p t .list l →
   Den p (tmT 9 a.ty [z,s,t]) a (foldD x f l)
 | pair {p:List DV} {ty:Ty} {a b:U} {s t:Tm} {x:a.val} {y:b.val}:Den p s a x→Den p t b y→Den p (tmT 10 ty [s,t]) (.pair a b) (x,y)
 | fst {p:List DV} {ty:Ty} {a b:U} {t:Tm} {x:a.val × b.val}:Den p t (.pair a b) x→Den p (tmT 11 ty [t]) a x.1
 | snd {p:List DV} {ty:Ty} {a b:U} {t:Tm} {x:a.val × b.val}:Den p t (.pair a b) x→Den p (tmT 12 ty [t]) b x.2
 | unit {p:List DV} {ty:Ty}:Den p (tmT 13 ty []) .unit ()
def RD:(u:U)→Res→u.val→Prop
 | .nat,r,n=>r.num=n
 | .list,r,l=>r.list=l
 | .unit,_,_=>True
 | .pair a b,r,p=>∃ x y,r.pair=[x,y]∧RD a x p.1∧RD b y p.2
 | .fn a b,r,f=>∀ (most n u:Nat) (x:Res) (v:a.val) (r':Res) (u':Nat),RD a x v→evCall (ev most n) u r x=some (r',u',false)→RD b r' (f v)
def EnvR (es:List Res) (p:List DV):Prop:=es.length=p.length∧∀ (i:Nat) (u:U) (d:u.val),p[i]? = some ⟨u,d⟩→∃ r,es[es.length - 1 - i]? = some r∧RD u r d
theorem EnvR.snoc {es:List Res} {p:List DV} (h:EnvR es p) {u:U} {r:Res} {d:u.val} (hr:RD u r d):EnvR (es++[r]) (⟨u,d⟩::p):=by
 refine ⟨by simp [h.1],fun i w x hx=>?_⟩
 cases i with
 | zero =>
  simp only [List.getElem?_cons_zero,Option.some.injEq,Sigma.mk.injEq] at hx
  obtain ⟨rfl,hx⟩:=hx
  obtain rfl:=eq_of_heq hx
  exact ⟨r,by simp,hr⟩
 | succ i =>
  rw [List.getElem?_cons_succ] at hx
  obtain ⟨r',h1,h2⟩:=h.2 i w x hx
  have hi:i<p.length:=(List.getElem?_eq_some_iff.1 hx).1
  have e:(es++[r]).length - 1 - (i+1)=es.length - 1 - i:=by simp;omega
  have hl:es.length - 1 - i<es.length:=by have:=h.1;omega
  exact ⟨r',by rw [e,List.getElem?_append_left hl];exact h1,h2⟩
theorem evArgs_cons {E:Evl} {e:List Res} {u:Nat} {t:Tm} {l:List Tm} {l':List Res} {u':Nat} (h:evArgs E e u (t::l)=some (l',u',false)) :
  ∃ r u1 l1,E u t e=some (r,u1,false)∧evArgs E e u1 l=some (l1,u',false)∧l'=r::l1:=by
 rw [evArgs] at h
 split at h
 ·cases h
 ·cases h
 ·next r u1 he =>
  split at h
  ·cases h
  ·next l1 u2 o hl =>
   simp only [Option.some.injEq,Prod.mk.injEq] at h
   obtain ⟨rfl,rfl,rfl⟩:=h
   exact ⟨r,u1,l1,he,hl,rfl⟩
theorem evArgs_nil {E:Evl} {e:List Res} {u u':Nat} {l':List Res} (h:evArgs E e u []=some (l',u',false)):l'=[]∧u'=u:=by
 rw [evArgs] at h
 simp only [Option.some.injEq,Prod.mk.injEq] at h
 exact ⟨h.1.symm,h.2.1.symm⟩
theorem evNode {most n:Nat} {k:Int} {ty:Ty} {l:List Tm} {u u':Nat} {es:List Res} {r:Res} (k1:(k==1)=false) (k2:(k==2)=false)
  (h:ev most (n+1) u (tmT k ty l) es=some (r,u',false)):∃ l' u1,evArgs (ev most n) es (u+1) l=some (l',u1,false)∧evOf (ev most n) k u1 l'=some (r,u',false):=by
 rw [ev_succ] at h
 unfold evStep at h
 split at h
 ·cases h
 ·simp only [tmT,Tm.kind,Tm.args,k1,k2,Bool.false_eq_true,if_false] at h
  split at h
  ·cases h
  ·cases h
  ·next l' u1 he=>exact ⟨l',u1,he,h⟩
theorem evRec_R {a:U} {s:Res} {f:Nat→a.val→a.val} (hs:RD (.fn .nat (.fn a a)) s f) {most n:Nat} {z:a.val} :
  ∀ (m k u:Nat) (r r':Res) (u':Nat),RD a r (recD z f k)→evRec (ev most n) s m k u r=some (r',u',false)→RD a r' (recD z f (k+m))
 | 0,k,u,r,r',u',hr,h=>by
  rw [evRec] at h
  simp only [Option.some.injEq,Prod.mk.injEq] at h
  obtain ⟨rfl,_⟩:=h
  exact hr
 | m+1,k,u,r,r',u',hr,h=>by
  rw [evRec] at h
  split at h
  ·cases h
  ·cases h
  ·next g u1 h1 =>
   have hg:=hs _ _ _ (numR k) k g u1 rfl h1
   split at h
   ·cases h
   ·cases h
   ·next r1 u2 h2 =>
    have h3:=hg _ _ _ r (recD z f k) r1 u2 hr h2
    have:=evRec_R hs m (k+1) u2 r1 r' u' h3 h
    rw [show k+(m+1)=k+1+m by omega]
    exact this
theorem evFold_R {a:U} {s:Res} {f:Nat→List Nat→a.val→a.val} (hs:RD (.fn .nat (.fn .list (.fn a a))) s f) {most n:Nat} {z:a.val} {l:List Nat} :
  ∀ (m u:Nat) (r r':Res) (u':Nat),m≤l.length→RD a r (foldD z f (l.drop m))→evFold (ev most n) s l m u r=some (r',u',false)→RD a r' (foldD z f l)
 | 0,u,r,r',u',hm,hr,h=>by
  rw [evFold] at h
  simp only [Option.some.injEq,Prod.mk.injEq] at h
  obtain ⟨rfl,_⟩:=h
  exact hr
 | m + 1,u,r,r',u',hm,hr,h=>by
  rw [evFold] at h
  split at h
  ·cases h
  ·cases h
  ·next g u1 h1 =>
   have hg:=hs _ _ _ (numR (l.getD m 0)) (l.getD m 0) g u1 rfl h1
   split at h
   ·cases h
   ·cases h
   ·next g1 u2 h2 =>
    have hg1:=hg _ _ _ (listR (l.drop (m+1))) (l.drop (m+1)) g1 u2 rfl h2
    split at h
    ·cases h
    ·cases h
    ·next r1 u3 h3 =>
     have h4:=hg1 _ _ _ r _ r1 u3 hr h3
     have hd:l.drop m=l.getD m 0::l.drop (m+1):=by
      rw [List.drop_eq_getElem_cons (by omega),List.getD_eq_getElem?_getD,List.getElem?_eq_getElem (by omega)];rfl
     refine evFold_R hs m u3 r1 r' u' (by omega) ?_ h
     rw [hd]
     exact h4
theorem Den.ev {p:List DV} {t:Tm} {w:U} {d:w.val} (h:Den p t w d):∀ {most n u u':Nat} {es:List Res} {r:Res},EnvR es p→ev most n u t es=some (r,u',false)→RD w r d:=by
 induction h with
 | @var p i w d hi =>
  intro most n u u' es r he h
  cases n with
  | zero=>simp [GoAbs.ev] at h
  | succ n =>
  rw [ev_succ] at h
  unfold evStep at h
  split at h
  ·cases h
  ·have hk:(tmVar i).kind=1:=rfl
   have hx:(tmVar i).index=i:=rfl
   rw [hk,hx] at h
   simp only [BEq.rfl,if_true] at h
   obtain ⟨r',h1,h2⟩:=he.2 i w d hi
   have hi':i<p.length:=(List.getElem?_eq_some_iff.1 hi).1
   have hl:=he.1
   have e:((es.length:Int) - 1 - (i:Int)).toNat=es.length - 1 - i:=by omega
   split at h
   ·rw [e,h1] at h
    simp only [Option.map_some,Option.some.injEq,Prod.mk.injEq] at h
    obtain ⟨rfl,_⟩:=h
    exact h2
   ·cases h
 | @lam p a w b f hb ih =>
  intro most n u u' es r he h
  cases n with
  | zero=>simp [GoAbs.ev] at h
  | succ n =>
  rw [ev_succ] at h
  unfold evStep at h
  split at h
  ·cases h
  ·have k1:((2:Int)==1)=false:=rfl
   simp only [tmT,Tm.kind,Tm.args,k1,BEq.rfl,if_true,Bool.false_eq_true,if_false,Option.some.injEq,Prod.mk.injEq] at h
   obtain ⟨rfl,_⟩:=h
   intro most n u x v r' u' hx hc
   exact ih v (he.snoc hx) hc
 | @app p ty a b s t f x h1 h2 i1 i2 =>
  intro most n u u' es r he h
  cases n with
  | zero=>simp [GoAbs.ev] at h
  | succ n =>
  obtain ⟨l',u1,ha,ho⟩:=evNode rfl rfl h
  obtain ⟨ra,u2,l1,e1,ha2,rfl⟩:=evArgs_cons ha
  obtain ⟨rb,u3,l2,e2,hb,rfl⟩:=evArgs_cons ha2
  obtain ⟨rfl,rfl⟩:=evArgs_nil hb
  simp only [evOf,BEq.rfl,if_true] at ho
  exact i1 he e1 _ _ _ _ _ _ _ (i2 he e2) ho
 | @zero p ty =>
  intro most n u u' es r he h
  cases n with
  | zero=>simp [GoAbs.ev] at h
  | succ n =>
  obtain ⟨l',u1,ha,ho⟩:=evNode rfl rfl h
  obtain ⟨rfl,rfl⟩:=evArgs_nil ha
  have e:evOf (GoAbs.ev most n) 4 (u+1) []=some (zeroR,u+1,false):=by simp [evOf]
  rw [e] at ho
  simp only [Option.some.injEq,Prod.mk.injEq] at ho
  obtain ⟨rfl,_⟩:=ho
  rfl
 | @succ p ty t m h1 i1 =>
  intro most n u u' es r he h
  cases n with
  | zero=>simp [GoAbs.ev] at h
  | succ n =>
  obtain ⟨l',u1,ha,ho⟩:=evNode rfl rfl h
  obtain ⟨ra,u2,l1,e1,ha2,rfl⟩:=evArgs_cons ha
  obtain ⟨rfl,rfl⟩:=evArgs_nil ha2
  have e:evOf (GoAbs.ev most n) 5 u1 [ra]=some (numR (ra.num+1),u1,false):=by simp [evOf]
  rw [e] at ho
  simp only [Option.some.injEq,Prod.mk.injEq] at ho
  obtain ⟨rfl,_⟩:=ho
  have:=i1 he e1
  simp only [RD] at this ⊢
  rw [← this];rfl
 | @recr p a z s t x f m h1 h2 h3 i1 i2 i3 =>
  intro most n u u' es r he h
  cases n with
  | zero=>simp [GoAbs.ev] at h
  | succ n =>
  obtain ⟨l',u1,ha,ho⟩:=evNode rfl rfl h
  obtain ⟨ra,u2,l1,e1,ha2,rfl⟩:=evArgs_cons ha
  obtain ⟨rb,u3,l2,e2,hb,rfl⟩:=evArgs_cons ha2
  obtain ⟨rc,u4,l3,e3,hc,rfl⟩:=evArgs_cons hb
  obtain ⟨rfl,rfl⟩:=evArgs_nil hc
  have e:evOf (GoAbs.ev most n) 6 u1 [ra,rb,rc]=evRec (GoAbs.ev most n) rb rc.num 0 u1 ra:=by simp [evOf]
  rw [e] at ho
  have k3:rc.num=m:=i3 he e3
  rw [k3] at ho
  have:=evRec_R (z:=x) (i2 he e2) m 0 _ _ _ _ (i1 he e1) ho
  rw [Nat.zero_add] at this
  exact this
 | @nil p ty =>
  intro most n u u' es r he h
  cases n with
  | zero=>simp [GoAbs.ev] at h
  | succ n =>
  obtain ⟨l',u1,ha,ho⟩:=evNode rfl rfl h
  obtain ⟨rfl,rfl⟩:=evArgs_nil ha
  have e:evOf (GoAbs.ev most n) 7 (u+1) []=some (zeroR,u+1,false):=by simp [evOf]
  rw [e] at ho
  simp only [Option.some.injEq,Prod.mk.injEq] at ho
  obtain ⟨rfl,_⟩:=ho
  rfl
 | @cons p ty s t m l h1 h2 i1 i2 =>
  intro most n u u' es r he h
  cases n with
  | zero=>simp [GoAbs.ev] at h
  | succ n =>
  obtain ⟨l',u1,ha,ho⟩:=evNode rfl rfl h
  obtain ⟨ra,u2,l1,e1,ha2,rfl⟩:=evArgs_cons ha
  obtain ⟨rb,u3,l2,e2,hb,rfl⟩:=evArgs_cons ha2
  obtain ⟨rfl,rfl⟩:=evArgs_nil hb
  have e:evOf (GoAbs.ev most n) 8 u1 [ra,rb]=some (listR (ra.num::rb.list),u1,false):=by simp [evOf]
  rw [e] at ho
  simp only [Option.some.injEq,Prod.mk.injEq] at ho
  obtain ⟨rfl,_⟩:=ho
  have k1:ra.num=m:=i1 he e1
  have k2:rb.list=l:=i2 he e2
  simp only [RD]
  rw [← k1,← k2];rfl
 | @fold p a z s t x f l h1 h2 h3 i1 i2 i3 =>
  intro most n u u' es r he h
  cases n with
  | zero=>simp [GoAbs.ev] at h
  | succ n =>
  obtain ⟨l',u1,ha,ho⟩:=evNode rfl rfl h
  obtain ⟨ra,u2,l1,e1,ha2,rfl⟩:=evArgs_cons ha
  obtain ⟨rb,u3,l2,e2,hb,rfl⟩:=evArgs_cons ha2
  obtain ⟨rc,u4,l3,e3,hc,rfl⟩:=evArgs_cons hb
  obtain ⟨rfl,rfl⟩:=evArgs_nil hc
  have e:evOf (GoAbs.ev most n) 9 u1 [ra,rb,rc]=evFold (GoAbs.ev most n) rb rc.list rc.list.length u1 ra:=by simp [evOf]
  rw [e] at ho
  have k3:rc.list=l:=i3 he e3
  rw [k3] at ho
  exact evFold_R (z:=x) (i2 he e2) l.length _ _ _ _ (Nat.le_refl _) (by rw [List.drop_length];exact i1 he e1) ho
 | @pair p ty a b s t x y h1 h2 i1 i2 =>
  intro most n u u' es r he h
  cases n with
  | zero=>simp [GoAbs.ev] at h
  | succ n =>
  obtain ⟨l',u1,ha,ho⟩:=evNode rfl rfl h
  obtain ⟨ra,u2,l1,e1,ha2,rfl⟩:=evArgs_cons ha
  obtain ⟨rb,u3,l2,e2,hb,rfl⟩:=evArgs_cons ha2
  obtain ⟨rfl,rfl⟩:=evArgs_nil hb
  have e:evOf (GoAbs.ev most n) 10 u1 [ra,rb]=some (pairR [ra,rb],u1,false):=by simp [evOf]
  rw [e] at ho
  simp only [Option.some.injEq,Prod.mk.injEq] at ho
  obtain ⟨rfl,_⟩:=ho
  exact ⟨ra,rb,rfl,i1 he e1,i2 he e2⟩
 | @fst p ty a b t x h1 i1 =>
  intro most n u u' es r he h
  cases n with
  | zero=>simp [GoAbs.ev] at h
  | succ n =>
  obtain ⟨l',u1,ha,ho⟩:=evNode rfl rfl h
  obtain ⟨ra,u2,l1,e1,ha2,rfl⟩:=evArgs_cons ha
  obtain ⟨rfl,rfl⟩:=evArgs_nil ha2
  obtain ⟨y,z,hp,hy,hz⟩:=i1 he e1
  have e:evOf (GoAbs.ev most n) 11 u1 [ra]=some (y,u1,false):=by simp [evOf,hp]
  rw [e] at ho
  simp only [Option.some.injEq,Prod.mk.injEq] at ho
  obtain ⟨rfl,_⟩:=ho
  exact hy
 | @snd p ty a b t x h1 i1 =>
  intro most n u u' es r he h
  cases n with
  | zero=>simp [GoAbs.ev] at h
  | succ n =>
  obtain ⟨l',u1,ha,ho⟩:=evNode rfl rfl h
  obtain ⟨ra,u2,l1,e1,ha2,rfl⟩:=evArgs_cons ha
  obtain ⟨rfl,rfl⟩:=evArgs_nil ha2
  obtain ⟨y,z,hp,hy,hz⟩:=i1 he e1
  have e:evOf (GoAbs.ev most n) 12 u1 [ra]=some (z,u1,false):=by simp [evOf,hp]
  rw [e] at ho
  simp only [Option.some.injEq,Prod.mk.injEq] at ho
  obtain ⟨rfl,_⟩:=ho
  exact hz
 | unit =>
  intro most n u u' es r he h
  trivial
theorem TyF.U {t:Ty} (h:TyF t):∃ u:U,u.ty=t:=by
 induction h with
 | nat=>exact ⟨.nat,rfl⟩
 | list=>exact ⟨.list,rfl⟩
 | unit=>exact ⟨.unit,rfl⟩
 | pair _ _ h1 h2=>obtain ⟨a,rfl⟩:=h1;obtain ⟨b,rfl⟩:=h2;exact ⟨.pair a b,rfl⟩
 | func _ _ h1 h2=>obtain ⟨a,rfl⟩:=h1;obtain ⟨b,rfl⟩:=h2;exact ⟨.fn a b,rfl⟩
theorem U.inj:∀ {u v:U},u.ty=v.ty→u=v:=by
 intro u
 induction u with
 | nat=>intro v h;cases v<;>simp [U.ty,tNat,tList,tUnit,tPair,tFun] at h ⊢
 | list=>intro v h;cases v<;>simp [U.ty,tNat,tList,tUnit,tPair,tFun] at h ⊢
 | unit=>intro v h;cases v<;>simp [U.ty,tNat,tList,tUnit,tPair,tFun] at h ⊢
 | pair a b h1 h2=>intro v h;cases v<;>simp [U.ty,tNat,tList,tUnit,tPair,tFun] at h ⊢;exact ⟨h1 h.1,h2 h.2⟩
 | fn a b h1 h2=>intro v h;cases v<;>simp [U.ty,tNat,tList,tUnit,tPair,tFun] at h ⊢;exact ⟨h1 h.1,h2 h.2⟩
def EnvU (p:List DV) (g:List Ty):Prop:=p.length=g.length∧∀ (i:Nat) (a:Ty),i<g.length→g[g.length - 1 - i]? = some a→∃ (u:U) (d:u.val),p[i]? = some ⟨u,d⟩∧u.ty=a
theorem EnvU.nil:EnvU [] []:=⟨rfl,fun i a h=>by simp at h⟩
theorem EnvU.snoc {p:List DV} {g:List Ty} (h:EnvU p g) {u:U} (x:u.val):EnvU (⟨u,x⟩::p) (g++[u.ty]):=by
 refine ⟨by simp [h.1],fun i a hi ha=>?_⟩
 cases i with
 | zero =>
  rw [List.length_append,List.getElem?_append_right (by simp)] at ha
  simp at ha
  exact ⟨u,x,rfl,ha⟩
 | succ i =>
  simp only [List.length_append,List.length_cons,List.length_nil] at hi
  have e:(g++[u.ty]).length - 1 - (i+1)=g.length - 1 - i:=by simp;omega
  rw [e,List.getElem?_append_left (by omega)] at ha
  rw [List.getElem?_cons_succ]
  exact h.2 i a (by omega) ha
theorem tFun_inj {a b c d:Ty} (h:tFun a b=tFun c d):a=c∧b=d:=by simpa [tFun] using h
theorem tPair_inj {a b c d:Ty} (h:tPair a b=tPair c d):a=c∧b=d:=by simpa [tPair] using h
theorem U.ty_fn {w:U} {a b:Ty} (h:w.ty=tFun a b):∃ u v,w=.fn u v∧u.ty=a∧v.ty=b:=by
 cases w with
 | fn u v=>exact ⟨u,v,rfl,tFun_inj h⟩
 | _=>simp [U.ty,tNat,tList,tUnit,tPair,tFun] at h
theorem U.ty_pair {w:U} {a b:Ty} (h:w.ty=tPair a b):∃ u v,w=.pair u v∧u.ty=a∧v.ty=b:=by
 cases w with
 | pair u v=>exact ⟨u,v,rfl,tPair_inj h⟩
 | _=>simp [U.ty,tNat,tList,tUnit,tPair,tFun] at h
theorem U.ty_nat {w:U} (h:w.ty=tNat):w=.nat:=U.inj (v:=.nat) h
theorem U.ty_list {w:U} (h:w.ty=tList):w=.list:=U.inj (v:=.list) h
theorem HasTy.den {g:List Ty} {t:Tm} {s:Ty} (h:HasTy TyG g t s):∀ {p:List DV},EnvU p g→∃ (u:U) (d:u.val),u.ty=s∧Den p t u d:=by
 induction h with
 | var hi h =>
  intro p hp
  obtain ⟨u,d,h1,h2⟩:=hp.2 _ _ hi h
  exact ⟨u,d,h2,.var h1⟩
 | @lam g a b t hq _ ih =>
  intro p hp
  obtain ⟨w,hw⟩:=TyF.U hq.1
  obtain ⟨u,v,rfl,rfl,rfl⟩:=U.ty_fn hw
  have:∀ x:u.val,∃ d:v.val,Den (⟨u,x⟩::p) t v d:=by
   intro x
   obtain ⟨v',d,h1,h2⟩:=ih (hp.snoc x)
   obtain rfl:=U.inj h1
   exact ⟨d,h2⟩
  exact ⟨.fn u v,fun x=>(this x).choose,rfl,.lam fun x=>(this x).choose_spec⟩
 | n0 hN =>
  intro p hp
  cases hN with
  | zero=>exact ⟨.nat,_,rfl,.zero⟩
  | nil=>exact ⟨.list,_,rfl,.nil⟩
  | unit=>exact ⟨.unit,_,rfl,.unit⟩
 | n1 hN _ i1 =>
  intro p hp
  obtain ⟨u,d,h1,h2⟩:=i1 hp
  cases hN with
  | succ=>obtain rfl:=U.ty_nat h1;exact ⟨.nat,_,rfl,.succ h2⟩
  | fst=>obtain ⟨a,b,rfl,rfl,rfl⟩:=U.ty_pair h1;exact ⟨a,_,rfl,.fst h2⟩
  | snd=>obtain ⟨a,b,rfl,rfl,rfl⟩:=U.ty_pair h1;exact ⟨b,_,rfl,.snd h2⟩
 | n2 hN _ _ i1 i2 =>
  intro p hp
  obtain ⟨u,d,h1,h2⟩:=i1 hp
  obtain ⟨v,e,h3,h4⟩:=i2 hp
  cases hN with
  | app =>
   obtain ⟨a,b,rfl,rfl,rfl⟩:=U.ty_fn h1
   obtain rfl:=U.inj h3
   exact ⟨b,_,rfl,.app h2 h4⟩
  | cons=>obtain rfl:=U.ty_nat h1;obtain rfl:=U.ty_list h3;exact ⟨.list,_,rfl,.cons h2 h4⟩
  | pair=>subst h1;subst h3;exact ⟨.pair u v,_,rfl,.pair h2 h4⟩
 | n3 hN _ _ _ i1 i2 i3 =>
  intro p hp
  obtain ⟨u,d,h1,h2⟩:=i1 hp
  obtain ⟨v,e,h3,h4⟩:=i2 hp
  obtain ⟨w,f,h5,h6⟩:=i3 hp
  cases hN with
  | recr =>
   subst h1
   obtain ⟨a,b,rfl,h7,h8⟩:=U.ty_fn h3
   obtain ⟨b1,b2,rfl,h9,h10⟩:=U.ty_fn h8
   obtain rfl:=U.ty_nat h7
   obtain rfl:=U.inj h9
   obtain rfl:=U.inj h10
   obtain rfl:=U.ty_nat h5
   exact ⟨_,_,rfl,.recr h2 h4 h6⟩
  | fold =>
   subst h1
   obtain ⟨a,b,rfl,h7,h8⟩:=U.ty_fn h3
   obtain ⟨b1,b2,rfl,h9,h10⟩:=U.ty_fn h8
   obtain ⟨c1,c2,rfl,h11,h12⟩:=U.ty_fn h10
   obtain rfl:=U.ty_nat h7
   obtain rfl:=U.ty_list h9
   obtain rfl:=U.inj h11
   obtain rfl:=U.inj h12
   obtain rfl:=U.ty_list h5
   exact ⟨_,_,rfl,.fold h2 h4 h6⟩
inductive FDen:List DV→Fm→Prop→Prop
 | eq {p:List DV} {x y:Tm} {m n:Nat}:Den p x .nat m→Den p y .nat n→FDen p (fmEq x y) (m=n)
 | and {p:List DV} {a b:Fm} {P Q:Prop}:FDen p a P→FDen p b Q→FDen p (fmTwo 2 a b) (P∧Q)
 | imp {p:List DV} {a b:Fm} {P Q:Prop}:FDen p a P→FDen p b Q→FDen p (fmTwo 3 a b) (P→Q)
 | all {p:List DV} {k:Int} {u:U} {a:Fm} {P:u.val→Prop} (hk:k=4∨k=6):(∀ x,FDen (⟨u,x⟩::p) a (P x))→FDen p (fmQ k u.ty a) (∀ x,P x)
 | ex {p:List DV} {k:Int} {u:U} {a:Fm} {P:u.val→Prop} (hk:k=5∨k=7):(∀ x,FDen (⟨u,x⟩::p) a (P x))→FDen p (fmQ k u.ty a) (∃ x,P x)
theorem FDen.eq_inv {p:List DV} {x y:Tm} {P:Prop} (h:FDen p (fmEq x y) P):∃ m n:Nat,Den p x .nat m∧Den p y .nat n∧P=(m=n):=by
 generalize hf:fmEq x y=f at h
 cases h with
 | eq h1 h2 =>
  simp only [fmEq,Fm.mk.injEq,List.cons.injEq] at hf
  obtain ⟨_,_,⟨rfl,rfl,_⟩,_⟩:=hf
  exact ⟨_,_,h1,h2,rfl⟩
 | and=>have:=congrArg Fm.kind hf;simp [fmEq,fmTwo,Fm.kind] at this
 | imp=>have:=congrArg Fm.kind hf;simp [fmEq,fmTwo,Fm.kind] at this
 | all hk=>have:=congrArg Fm.kind hf;rcases hk with rfl|rfl<;>simp [fmEq,fmQ,Fm.kind] at this
 | ex hk=>have:=congrArg Fm.kind hf;rcases hk with rfl|rfl<;>simp [fmEq,fmQ,Fm.kind] at this
theorem FDen.two_inv {p:List DV} {k:Int} {a b:Fm} {R:Prop} (h:FDen p (fmTwo k a b) R):∃ P Q:Prop,FDen p a P∧FDen p b Q∧((k=2∧R=(P∧Q))∨(k=3∧R=(P→Q))):=by
 generalize hf:fmTwo k a b=f at h
 cases h with
 | eq=>have:=congrArg (fun f=>f.args.length) hf;simp [fmEq,fmTwo,Fm.args] at this
 | and h1 h2 =>
  simp only [fmTwo,Fm.mk.injEq,List.cons.injEq] at hf
  obtain ⟨rfl,_,_,rfl,rfl,_⟩:=hf
  exact ⟨_,_,h1,h2,.inl ⟨rfl,rfl⟩⟩
 | imp h1 h2 =>
  simp only [fmTwo,Fm.mk.injEq,List.cons.injEq] at hf
  obtain ⟨rfl,_,_,rfl,rfl,_⟩:=hf
  exact ⟨_,_,h1,h2,.inr ⟨rfl,rfl⟩⟩
 | all hk=>have:=congrArg (fun f=>f.args.length) hf;simp [fmQ,fmTwo,Fm.args] at this
 | ex hk=>have:=congrArg (fun f=>f.args.length) hf;simp [fmQ,fmTwo,Fm.args] at this
theorem Dc.eq_ty {g:List Ty} {x y:Tm} (h:Dc g (fmEq x y)):HasTy TyG g x tNat∧HasTy TyG g y tNat:=by
 generalize hf:fmEq x y=f at h
 cases h with
 | eq _ _ h1 h2 =>
  simp only [fmEq,Fm.mk.injEq,List.cons.injEq] at hf
  obtain ⟨_,_,⟨rfl,rfl,_⟩,_⟩:=hf
  exact ⟨h1,h2⟩
 | two=>have:=congrArg (fun f=>f.args.length) hf;simp [fmEq,fmTwo,Fm.args] at this
 | bnd=>have:=congrArg (fun f=>f.args.length) hf;simp [fmEq,bndF,fmQ,Fm.args] at this
theorem Dc.two_dc {g:List Ty} {k:Int} {a b:Fm} (h:Dc g (fmTwo k a b)):Dc g a∧Dc g b:=by
 generalize hf:fmTwo k a b=f at h
 cases h with
 | eq=>have:=congrArg (fun f=>f.args.length) hf;simp [fmEq,fmTwo,Fm.args] at this
 | two _ h1 h2 =>
  simp only [fmTwo,Fm.mk.injEq,List.cons.injEq] at hf
  obtain ⟨_,_,_,rfl,rfl,_⟩:=hf
  exact ⟨h1,h2⟩
 | bnd=>have:=congrArg (fun f=>f.args.length) hf;simp [fmTwo,bndF,fmQ,Fm.args] at this
inductive QF:Fm→Prop
 | eq {x y:Tm}:QF (fmEq x y)
 | two {k:Int} {a b:Fm} (hk:k=2∨k=3):QF a→QF b→QF (fmTwo k a b)
theorem dN_den {lim w:Nat} {t:Tm} {k:Nat} {w':Nat} {m:Nat} (ht:HasTy TyG [] t tNat) (hd:Den [] t .nat m) (h:dN lim w t=(k,w',0)):k=m:=by
 unfold dN at h
 split at h
 ·simp at h
 ·next ho =>
  obtain ⟨r,u,o,h1,h2,_⟩:=evN_at (m:=lim - w) ht
  rw [h2] at h ho
  simp only [Prod.mk.injEq] at h ho
  obtain ⟨rfl,_⟩:=h
  have:o=false:=by simpa using ho
  subst this
  exact hd.ev ⟨rfl,by simp⟩ h1
theorem dE_den {lim w:Nat} {x y:Tm} {b:Bool} {w':Nat} {m n:Nat} (hx:HasTy TyG [] x tNat) (hy:HasTy TyG [] y tNat) (dx:Den [] x .nat m) (dy:Den [] y .nat n) (h:dE lim w x y=(b,w',0)) :
  b=true↔m=n:=by
 unfold dE at h
 cases h1:dN lim w x with|mk k1 r=>?_
 obtain ⟨w1,e1⟩:=r
 rw [h1] at h
 simp only at h
 split at h
 ·next he=>simp at h he;exact absurd h.2.2 he
 ·next he =>
  have e0:e1=0:=by simpa using he
  subst e0
  cases h2:dN lim w1 y with|mk k2 r=>?_
  obtain ⟨w2,e2⟩:=r
  rw [h2] at h
  simp only at h
  split at h
  ·next he=>simp at h he;exact absurd h.2.2 he
  ·next he =>
   have e0:e2=0:=by simpa using he
   subst e0
   simp only [Prod.mk.injEq] at h
   obtain ⟨h,_⟩:=h
   rw [← h,dN_den hx dx h1,dN_den hy dy h2]
   simp
theorem dT_den {f:Fm} (hq:QF f):Dc [] f→fmSz f≤4096→∀ {P:Prop} {lim n w:Nat} {b:Bool} {w':Nat},FDen [] f P→fdp f≤n→dT lim n w f=(b,w',0)→(b=true↔P):=by
 induction hq with
 | @eq x y =>
  intro hd hz P lim n w b w' hf hn h
  obtain ⟨n,rfl⟩:∃ m,n=m+1:=⟨n - 1,by have:=fdp_pos (fmEq x y);omega⟩
  rw [dT_eq] at h
  obtain ⟨t1,t2⟩:=hd.eq_ty
  obtain ⟨m,k,d1,d2,rfl⟩:=hf.eq_inv
  exact dE_den t1 t2 d1 d2 h
 | @two k a b hk qa qb ia ib =>
  intro hd hz R lim n w c w' hf hn h
  rw [fdp_two] at hn
  rw [fmSz_two] at hz
  obtain ⟨n,rfl⟩:∃ m,n=m+1:=⟨n - 1,by omega⟩
  obtain ⟨da,db⟩:=hd.two_dc
  have hna:fdp a≤n:=by omega
  have hnb:fdp b≤n:=by omega
  have code:=dT_code (lim:=lim) n a w hna da (by omega)
  cases hA:dT lim n w a with|mk ca r=>?_
  obtain ⟨wa,ea⟩:=r
  rw [hA] at code
  obtain ⟨P,Q,hP,hQ,hk2⟩:=hf.two_inv
  rcases hk2 with ⟨rfl,rfl⟩|⟨rfl,rfl⟩
  ·rw [dT_and,hA] at h
   simp only at h
   split at h
   ·next hc =>
    subst hc
    have e0:ea=0:=code.1 rfl
    subst e0
    have h1:=ia da (by omega) hP hna hA
    have h2:=ib db (by omega) hQ hnb h
    rw [h2]
    constructor
    ·exact fun q=>⟨h1.1 rfl,q⟩
    ·exact fun q=>q.2
   ·next hc =>
    simp only [Prod.mk.injEq] at h
    obtain ⟨rfl,rfl,rfl⟩:=h
    have h1:=ia da (by omega) hP hna hA
    constructor
    ·exact fun q=>absurd q hc
    ·exact fun q=>h1.2 q.1
  ·rw [dT_imp,hA] at h
   simp only at h
   split at h
   ·next hc =>
    simp only [Prod.mk.injEq] at h
    obtain ⟨rfl,rfl,rfl⟩:=h
    have h1:=ia da (by omega) hP hna hA
    have hca:ca=false:=by simpa using hc
    subst hca
    simp only [beq_self_eq_true,true_iff]
    intro p
    have:=h1.2 p
    cases this
   ·next hc =>
    have hc':ea=0∧ca=true:=by simpa using hc
    obtain ⟨rfl,rfl⟩:=hc'
    have h1:=ia da (by omega) hP hna hA
    have h2:=ib db (by omega) hQ hnb h
    rw [h2]
    exact ⟨fun q _=>q,fun q=>q (h1.1 rfl)⟩
theorem up_node {k:Int} {ty:Ty} {l:List Tm} {b:Int} {n:Nat} (h1:(k==1)=false) (h2:tmBelow k=0) (hn:n≤1000000) :
  (tmT k ty l).up b (n:Int)=tmT k ty (l.map fun x=>x.up b (n:Int)):=by
 rw [tmT,Tm.up,Tm.upL_map,h1,h2,addW_zero (by omega) (by omega)];rfl
theorem up_lam {ty:Ty} {t:Tm} {b:Int} {n:Nat} (hn:n≤1000000):(tmT 2 ty [t]).up b (n:Int)=tmT 2 ty [t.up b ((n+1:Nat):Int)]:=by
 have:tmBelow 2=1:=rfl
 have e:addW (n:Int) 1=((n+1:Nat):Int):=by rw [addW_eq (by omega) (by omega) (by omega) (by omega)];rfl
 rw [tmT,Tm.up,Tm.upL_map,this,e];rfl
theorem inn_node {s:Tm} {k:Int} {ty:Ty} {l:List Tm} {n:Nat} (h1:(k==1)=false) (h2:tmBelow k=0) (hn:n≤1000000) :
  tmInn s 0 (tmT k ty l) (n:Int)=tmT k ty (l.map fun x=>tmInn s 0 x (n:Int)):=by
 rw [tmT,tmInn,tmInnL_map,h1,h2,addW_zero (by omega) (by omega)];rfl
theorem inn_lam {s:Tm} {ty:Ty} {t:Tm} {n:Nat} (hn:n≤1000000):tmInn s 0 (tmT 2 ty [t]) (n:Int)=tmT 2 ty [tmInn s 0 t ((n+1:Nat):Int)]:=by
 have:tmBelow 2=1:=rfl
 have e:addW (n:Int) 1=((n+1:Nat):Int):=by rw [addW_eq (by omega) (by omega) (by omega) (by omega)];rfl
 rw [tmT,tmInn,tmInnL_map,this,e];rfl
theorem tmSz_U1 {k:Int} {t:Ty} {a:Tm}:tmSz (tmT k t [a])=tmSz a+1:=tmSz_T1
theorem tmSz_U2 {k:Int} {t:Ty} {a b:Tm}:tmSz (tmT k t [a,b])=tmSz a+tmSz b+1:=by simp [tmT,tmSz,tmSzL]
theorem Den.upl {m:List DV} {p:List DV} {t:Tm} {w:U} {d:w.val} (h:Den p t w d):∀ l r:List DV,p=l++r→p.length+tmSz t≤100000→m.length≤100000 →
  Den (l++m++r) (t.up (m.length:Int) (l.length:Int)) w d:=by
 induction h with
 | @var p i w d hi =>
  intro l r e hb hm
  subst e
  rw [tmVar,Tm.up,Tm.upL]
  have hi':=(List.getElem?_eq_some_iff.1 hi).1
  simp only [beq_self_eq_true,Bool.true_and]
  simp only [List.length_append] at hi' hb
  by_cases hc:(i:Int)≥(l.length:Int)
  ·rw [decide_eq_true hc]
   simp only [if_true]
   have e:addW (i:Int) (m.length:Int)=((i+m.length:Nat):Int):=by rw [addW_eq (by omega) (by omega) (by omega) (by omega)];simp
   rw [e]
   refine Den.var (i:=i+m.length) ?_
   rw [List.getElem?_append_right (by simp;omega)]
   rw [List.getElem?_append_right (by omega)] at hi
   have:i+m.length - (l++m).length=i - l.length:=by simp;omega
   rw [this];exact hi
  ·rw [decide_eq_false hc]
   simp only [Bool.false_eq_true,if_false]
   refine Den.var (i:=i) ?_
   rw [List.append_assoc,List.getElem?_append_left (by omega)]
   rw [List.getElem?_append_left (by omega)] at hi
   exact hi
 | @lam p a w b f _ ih =>
  intro l r e hb hm
  subst e
  rw [tmSz_U1] at hb
  simp only [List.length_append] at hb
  rw [up_lam (by omega)]
  refine .lam fun x=>?_
  have:=ih x (⟨a,x⟩::l) r rfl (by simp;omega) hm
  simpa using this
 | zero=>intro l r e hb hm;subst e;simp only [List.length_append] at hb;rw [up_node rfl rfl (by omega)];exact .zero
 | nil=>intro l r e hb hm;subst e;simp only [List.length_append] at hb;rw [up_node rfl rfl (by omega)];exact .nil
 | unit=>intro l r e hb hm;subst e;simp only [List.length_append] at hb;rw [up_node rfl rfl (by omega)];exact .unit
 | succ _ i1=>intro l r e hb hm;have hb':=hb;rw [tmSz_U1] at hb;subst e;simp only [List.length_append] at hb;rw [up_node rfl rfl (by omega)];exact .succ (i1 l r rfl (by simp;omega) hm)
 | fst _ i1=>intro l r e hb hm;rw [tmSz_U1] at hb;subst e;simp only [List.length_append] at hb;rw [up_node rfl rfl (by omega)];exact .fst (i1 l r rfl (by simp;omega) hm)
 | snd _ i1=>intro l r e hb hm;rw [tmSz_U1] at hb;subst e;simp only [List.length_append] at hb;rw [up_node rfl rfl (by omega)];exact .snd (i1 l r rfl (by simp;omega) hm)
 | app _ _ i1 i2 =>
  intro l r e hb hm;rw [tmSz_U2] at hb;subst e;simp only [List.length_append] at hb;rw [up_node rfl rfl (by omega)]
  exact .app (i1 l r rfl (by simp;omega) hm) (i2 l r rfl (by simp;omega) hm)
 | cons _ _ i1 i2 =>
  intro l r e hb hm;rw [tmSz_U2] at hb;subst e;simp only [List.length_append] at hb;rw [up_node rfl rfl (by omega)]
  exact .cons (i1 l r rfl (by simp;omega) hm) (i2 l r rfl (by simp;omega) hm)
 | pair _ _ i1 i2 =>
  intro l r e hb hm;rw [tmSz_U2] at hb;subst e;simp only [List.length_append] at hb;rw [up_node rfl rfl (by omega)]
  exact .pair (i1 l r rfl (by simp;omega) hm) (i2 l r rfl (by simp;omega) hm)
 | recr _ _ _ i1 i2 i3 =>
  intro l r e hb hm;rw [tmSz_T3] at hb;subst e;simp only [List.length_append] at hb;rw [up_node rfl rfl (by omega)]
  exact .recr (i1 l r rfl (by simp;omega) hm) (i2 l r rfl (by simp;omega) hm) (i3 l r rfl (by simp;omega) hm)
 | fold _ _ _ i1 i2 i3 =>
  intro l r e hb hm;rw [tmSz_T3] at hb;subst e;simp only [List.length_append] at hb;rw [up_node rfl rfl (by omega)]
  exact .fold (i1 l r rfl (by simp;omega) hm) (i2 l r rfl (by simp;omega) hm) (i3 l r rfl (by simp;omega) hm)
theorem Den.inn {a:U} {x:a.val} {s:Tm} {p:List DV} {t:Tm} {w:U} {d:w.val} (h:Den p t w d):∀ l r:List DV,p=l++⟨a,x⟩::r→Den r s a x →
  p.length+tmSz t≤50000→tmSz s≤50000→Den (l++r) (tmInn s 0 t (l.length:Int)) w d:=by
 induction h with
 | @var p i w d hi =>
  intro l r e hs hb hz
  subst e
  have hi':=(List.getElem?_eq_some_iff.1 hi).1
  simp only [List.length_append,List.length_cons] at hi' hb
  have e0:addW 0 (l.length:Int)=(l.length:Int):=addW_z (by omega) (by omega)
  rw [tmVar,tmInn,e0]
  simp only [beq_self_eq_true,if_true]
  rcases Nat.lt_trichotomy i l.length with hc|hc|hc
  ·have c1:((i:Int)==(l.length:Int))=false:=by simp;omega
   have c2:decide ((i:Int)>(l.length:Int))=false:=by simp;omega
   rw [c1,c2]
   simp only [Bool.false_eq_true,if_false]
   refine Den.var (i:=i) ?_
   rw [List.getElem?_append_left (by omega)] at hi ⊢
   exact hi
  ·subst hc
   simp only [beq_self_eq_true,if_true]
   rw [List.getElem?_append_right (by omega),Nat.sub_self] at hi
   simp only [List.getElem?_cons_zero,Option.some.injEq,Sigma.mk.injEq] at hi
   obtain ⟨rfl,hi⟩:=hi
   obtain rfl:=eq_of_heq hi
   have:=hs.upl (m:=l) [] r (by simp) (by omega) (by omega)
   simpa using this
  ·have c1:((i:Int)==(l.length:Int))=false:=by simp;omega
   have c2:decide ((i:Int)>(l.length:Int))=true:=by simp;omega
   have e3:subW (i:Int) 1=((i - 1:Nat):Int):=by rw [subW_eq (by omega) (by omega) (by omega) (by omega)];omega
   rw [c1,c2,e3]
   simp only [Bool.false_eq_true,if_false,if_true]
   refine Den.var (i:=i - 1) ?_
   rw [List.getElem?_append_right (by omega)] at hi ⊢
   obtain ⟨j,hj⟩:∃ j,i - l.length=j+1:=⟨i - l.length - 1,by omega⟩
   rw [hj,List.getElem?_cons_succ] at hi
   rw [show i - 1 - l.length=j by omega]
   exact hi
 | @lam p b w y f _ ih =>
  intro l r e hs hb hz
  subst e
  rw [tmSz_U1] at hb
  simp only [List.length_append,List.length_cons] at hb
  rw [inn_lam (by omega)]
  refine .lam fun v=>?_
  have:=ih v (⟨b,v⟩::l) r rfl hs (by simp;omega) hz
  simpa using this
 | zero=>intro l r e hs hb hz;subst e;simp only [List.length_append,List.length_cons] at hb;rw [inn_node rfl rfl (by omega)];exact .zero
 | nil=>intro l r e hs hb hz;subst e;simp only [List.length_append,List.length_cons] at hb;rw [inn_node rfl rfl (by omega)];exact .nil
 | unit=>intro l r e hs hb hz;subst e;simp only [List.length_append,List.length_cons] at hb;rw [inn_node rfl rfl (by omega)];exact .unit
 | succ _ i1=>intro l r e hs hb hz;rw [tmSz_U1] at hb;subst e;simp only [List.length_append,List.length_cons] at hb;rw [inn_node rfl rfl (by omega)];exact .succ (i1 l r rfl hs (by simp;omega) hz)
 | fst _ i1=>intro l r e hs hb hz;rw [tmSz_U1] at hb;subst e;simp only [List.length_append,List.length_cons] at hb;rw [inn_node rfl rfl (by omega)];exact .fst (i1 l r rfl hs (by simp;omega) hz)
 | snd _ i1=>intro l r e hs hb hz;rw [tmSz_U1] at hb;subst e;simp only [List.length_append,List.length_cons] at hb;rw [inn_node rfl rfl (by omega)];exact .snd (i1 l r rfl hs (by simp;omega) hz)
 | app _ _ i1 i2 =>
  intro l r e hs hb hz;rw [tmSz_U2] at hb;subst e;simp only [List.length_append,List.length_cons] at hb;rw [inn_node rfl rfl (by omega)]
  exact .app (i1 l r rfl hs (by simp;omega) hz) (i2 l r rfl hs (by simp;omega) hz)
 | cons _ _ i1 i2 =>
  intro l r e hs hb hz;rw [tmSz_U2] at hb;subst e;simp only [List.length_append,List.length_cons] at hb;rw [inn_node rfl rfl (by omega)]
  exact .cons (i1 l r rfl hs (by simp;omega) hz) (i2 l r rfl hs (by simp;omega) hz)
 | pair _ _ i1 i2 =>
  intro l r e hs hb hz;rw [tmSz_U2] at hb;subst e;simp only [List.length_append,List.length_cons] at hb;rw [inn_node rfl rfl (by omega)]
  exact .pair (i1 l r rfl hs (by simp;omega) hz) (i2 l r rfl hs (by simp;omega) hz)
 | recr _ _ _ i1 i2 i3 =>
  intro l r e hs hb hz;rw [tmSz_T3] at hb;subst e;simp only [List.length_append,List.length_cons] at hb;rw [inn_node rfl rfl (by omega)]
  exact .recr (i1 l r rfl hs (by simp;omega) hz) (i2 l r rfl hs (by simp;omega) hz) (i3 l r rfl hs (by simp;omega) hz)
 | fold _ _ _ i1 i2 i3 =>
  intro l r e hs hb hz;rw [tmSz_T3] at hb;subst e;simp only [List.length_append,List.length_cons] at hb;rw [inn_node rfl rfl (by omega)]
  exact .fold (i1 l r rfl hs (by simp;omega) hz) (i2 l r rfl hs (by simp;omega) hz) (i3 l r rfl hs (by simp;omega) hz)
def pairU (a b:U):U:=if a=.unit then b else if b=.unit then a else .pair a b
def funU (a b:U):U:=if b=.unit then .unit else if a=.unit then b else .fn a b
def castU {u v:U} (h:u=v) (x:u.val):v.val:=h ▸ x
theorem Den.cast {p:List DV} {t:Tm} {u v:U} {x:u.val} (e:u=v) (h:Den p t u x):Den p t v (castU e x):=by subst e;exact h
theorem U.kind5 (u:U):(u.ty.kind==5)=decide (u=.unit):=by cases u<;>rfl
theorem pairU_l {b:U}:pairU .unit b=b:=by simp [pairU]
theorem pairU_r {a:U}:pairU a .unit=a:=by unfold pairU;split<;>simp_all
theorem pairU_n {a b:U} (ha:a≠.unit) (hb:b≠.unit):pairU a b=.pair a b:=by simp [pairU,ha,hb]
theorem funU_r {a:U}:funU a .unit=.unit:=by simp [funU]
theorem funU_l {b:U}:funU .unit b=b:=by unfold funU;split<;>simp_all
theorem funU_n {a b:U} (ha:a≠.unit) (hb:b≠.unit):funU a b=.fn a b:=by simp [funU,ha,hb]
theorem pairU_ty {a b:U}:(pairU a b).ty=chPair a.ty b.ty:=by
 unfold chPair
 rw [U.kind5,U.kind5]
 by_cases ha:a=.unit
 ·subst ha;simp [pairU_l]
 ·by_cases hb:b=.unit
  ·subst hb;simp [pairU_r,ha]
  ·simp [pairU_n ha hb,ha,hb,U.ty]
theorem funU_ty {a b:U}:(funU a b).ty=chFun a.ty b.ty:=by
 unfold chFun
 rw [U.kind5,U.kind5]
 by_cases hb:b=.unit
 ·subst hb;simp [funU_r,U.ty]
 ·by_cases ha:a=.unit
  ·subst ha;simp [funU_l,hb]
  ·simp [funU_n ha hb,ha,hb,U.ty]
def leftU {a b:U} (x:(pairU a b).val):a.val :=
 if ha:a=.unit then castU ha.symm () else if hb:b=.unit then castU (by subst hb;exact pairU_r) x else (castU (pairU_n ha hb) x).1
def rightU {a b:U} (x:(pairU a b).val):b.val :=
 if hb:b=.unit then castU hb.symm () else if ha:a=.unit then castU (by subst ha;exact pairU_l) x else (castU (pairU_n ha hb) x).2
def joinU {a b:U} (x:a.val) (y:b.val):(pairU a b).val :=
 if ha:a=.unit then castU (by subst ha;exact pairU_l.symm) y else if hb:b=.unit then castU (by subst hb;exact pairU_r.symm) x else castU (u:=.pair a b) (pairU_n ha hb).symm (x,y)
def callU {a b:U} (f:(funU a b).val) (x:a.val):b.val :=
 if hb:b=.unit then castU hb.symm () else if ha:a=.unit then castU (by subst ha;exact funU_l) f else (castU (funU_n ha hb) f) x
theorem castU_cast {u v:U} (h:u=v) (h':v=u) (x:u.val):castU h' (castU h x)=x:=by subst h;rfl
theorem left_join {a b:U} (x:a.val) (y:b.val):leftU (joinU x y)=x:=by
 by_cases ha:a=.unit
 ·subst ha;rfl
 ·by_cases hb:b=.unit
  ·simp only [leftU,joinU,ha,hb,dif_neg,dif_pos,not_false_eq_true];exact castU_cast _ _ _
  ·simp only [leftU,joinU,ha,hb,dif_neg,not_false_eq_true]
   rw [castU_cast]
theorem right_join {a b:U} (x:a.val) (y:b.val):rightU (joinU x y)=y:=by
 by_cases hb:b=.unit
 ·subst hb;rfl
 ·by_cases ha:a=.unit
  ·simp only [rightU,joinU,ha,hb,dif_neg,dif_pos,not_false_eq_true];exact castU_cast _ _ _
  ·simp only [rightU,joinU,ha,hb,dif_neg,not_false_eq_true]
   rw [castU_cast]
theorem Den.left {p:List DV} {t:Tm} {a b:U} {x:(pairU a b).val} (h:Den p t (pairU a b) x):Den p (chPart 11 a.ty b.ty t) a (leftU x):=by
 unfold chPart leftU
 rw [U.kind5,U.kind5]
 by_cases ha:a=.unit
 ·subst ha;simp only [decide_true,if_true,dif_pos];exact .unit
 ·by_cases hb:b=.unit
  ·simp only [ha,hb,decide_true,decide_false,if_true,Bool.false_eq_true,if_false,dif_neg,dif_pos,not_false_eq_true]
   exact h.cast _
  ·simp only [ha,hb,decide_false,Bool.false_eq_true,if_false,dif_neg,not_false_eq_true]
   exact .fst (h.cast _)
theorem Den.right {p:List DV} {t:Tm} {a b:U} {x:(pairU a b).val} (h:Den p t (pairU a b) x):Den p (chPart 12 b.ty a.ty t) b (rightU x):=by
 unfold chPart rightU
 rw [U.kind5,U.kind5]
 by_cases hb:b=.unit
 ·subst hb;simp only [decide_true,if_true,dif_pos];exact .unit
 ·by_cases ha:a=.unit
  ·simp only [ha,hb,decide_true,decide_false,if_true,Bool.false_eq_true,if_false,dif_neg,dif_pos,not_false_eq_true]
   exact h.cast _
  ·simp only [ha,hb,decide_false,Bool.false_eq_true,if_false,dif_neg,not_false_eq_true]
   exact .snd (h.cast _)
theorem Den.join {p:List DV} {s t:Tm} {a b:U} {x:a.val} {y:b.val} (hs:Den p s a x) (ht:Den p t b y):Den p (chJoin a.ty b.ty s t) (pairU a b) (joinU x y):=by
 unfold chJoin joinU
 rw [U.kind5,U.kind5]
 by_cases ha:a=.unit
 ·simp only [ha,decide_true,if_true,dif_pos];exact ht.cast _
 ·by_cases hb:b=.unit
  ·simp only [ha,hb,decide_true,decide_false,if_true,Bool.false_eq_true,if_false,dif_neg,dif_pos,not_false_eq_true]
   exact hs.cast _
  ·simp only [ha,hb,decide_false,Bool.false_eq_true,if_false,dif_neg,not_false_eq_true]
   exact Den.cast _ (.pair hs ht)
theorem Den.call {p:List DV} {s t:Tm} {a b:U} {f:(funU a b).val} {x:a.val} (hs:Den p s (funU a b) f) (ht:Den p t a x):Den p (chCall a.ty b.ty s t) b (callU f x):=by
 unfold chCall callU
 rw [U.kind5,U.kind5]
 by_cases hb:b=.unit
 ·subst hb;simp only [decide_true,if_true,dif_pos];exact .unit
 ·by_cases ha:a=.unit
  ·simp only [ha,hb,decide_true,decide_false,if_true,Bool.false_eq_true,if_false,dif_neg,dif_pos,not_false_eq_true]
   exact hs.cast _
  ·simp only [ha,hb,decide_false,Bool.false_eq_true,if_false,dif_neg,not_false_eq_true]
   exact .app (hs.cast (funU_n ha hb)) ht
inductive MS:List DV→Fm→(v q:U)→(v.val→q.val→Prop)→Prop
 | eq {p:List DV} {x y:Tm} {m n:Nat}:Den p x .nat m→Den p y .nat n→MS p (fmEq x y) .unit .unit (fun _ _=>m=n)
 | and {p:List DV} {a b:Fm} {v q u r:U} {M:v.val→q.val→Prop} {N:u.val→r.val→Prop}:MS p a v q M→MS p b u r N →
   MS p (fmTwo 2 a b) (pairU v u) (pairU q r) (fun w c=>M (leftU w) (leftU c)∧N (rightU w) (rightU c))
 | imp {p:List DV} {a b:Fm} {v q u r:U} {M:v.val→q.val→Prop} {N:u.val→r.val→Prop}:MS p a v q M→MS p b u r N →
   MS p (fmTwo 3 a b) (pairU (funU v u) (funU v (funU r q))) (pairU v r)
    (fun w c=>M (leftU c) (callU (callU (rightU w) (leftU c)) (rightU c))→N (callU (leftU w) (leftU c)) (rightU c))
 | all {p:List DV} {a:Fm} {t u q:U} {M:t.val→u.val→q.val→Prop}:(∀ x,MS (⟨t,x⟩::p) a u q (M x)) →
   MS p (fmQ 4 t.ty a) (funU t u) (pairU t q) (fun w c=>M (leftU c) (callU w (leftU c)) (rightU c))
 | ex {p:List DV} {a:Fm} {t u q:U} {M:t.val→u.val→q.val→Prop}:(∀ x,MS (⟨t,x⟩::p) a u q (M x)) →
   MS p (fmQ 5 t.ty a) (pairU t u) q (fun w c=>M (leftU w) (rightU w) c)
theorem finn_eq {s x y:Tm} {n:Nat} (hn:n≤1000000):fmInn s 0 (fmEq x y) (n:Int)=fmEq (tmInn s 0 x (n:Int)) (tmInn s 0 y (n:Int)):=by
 rw [fmEq,fmInn,fmInnL];rfl
theorem finn_two {s:Tm} {k:Int} (hk:k=2∨k=3) {a b:Fm} {n:Nat} (hn:n≤1000000):fmInn s 0 (fmTwo k a b) (n:Int)=fmTwo k (fmInn s 0 a (n:Int)) (fmInn s 0 b (n:Int)):=by
 have:fmBelow k=0:=by rcases hk with rfl|rfl<;>rfl
 rw [fmTwo,fmInn,fmInnL,fmInnL,fmInnL,this,addW_zero (by omega) (by omega)];rfl
theorem finn_q {s:Tm} {k:Int} (hk:k=4∨k=5) {t:Ty} {a:Fm} {n:Nat} (hn:n≤1000000):fmInn s 0 (fmQ k t a) (n:Int)=fmQ k t (fmInn s 0 a ((n+1:Nat):Int)):=by
 have:fmBelow k=1:=by rcases hk with rfl|rfl<;>rfl
 have e:addW (n:Int) 1=((n+1:Nat):Int):=by rw [addW_eq (by omega) (by omega) (by omega) (by omega)];rfl
 rw [fmQ,fmInn,fmInnL,fmInnL,this,e];rfl
theorem fmSz_qq {k:Int} {t:Ty} {a:Fm}:fmSz (fmQ k t a)=fmSz a+1:=fmSz_q
theorem MS.inn {a:U} {x:a.val} {s:Tm} {p:List DV} {f:Fm} {v q:U} {M:v.val→q.val→Prop} (h:MS p f v q M):∀ l r:List DV,p=l++⟨a,x⟩::r→Den r s a x →
  p.length+fmSz f≤50000→tmSz s≤50000→MS (l++r) (fmInn s 0 f (l.length:Int)) v q M:=by
 induction h with
 | @eq p y z m n d1 d2 =>
  intro l r e hs hb hz
  rw [fmSz_eq] at hb
  have e1:=d1.inn l r e hs (by omega) hz
  have e2:=d2.inn l r e hs (by omega) hz
  subst e
  simp only [List.length_append,List.length_cons] at hb
  rw [finn_eq (by omega)]
  exact .eq e1 e2
 | @and p b c v q u k M N _ _ i1 i2 =>
  intro l r e hs hb hz
  rw [fmSz_two] at hb
  have e1:=i1 l r e hs (by omega) hz
  have e2:=i2 l r e hs (by omega) hz
  subst e
  simp only [List.length_append,List.length_cons] at hb
  rw [finn_two (.inl rfl) (by omega)]
  exact .and e1 e2
 | @imp p b c v q u k M N _ _ i1 i2 =>
  intro l r e hs hb hz
  rw [fmSz_two] at hb
  have e1:=i1 l r e hs (by omega) hz
  have e2:=i2 l r e hs (by omega) hz
  subst e
  simp only [List.length_append,List.length_cons] at hb
  rw [finn_two (.inr rfl) (by omega)]
  exact .imp e1 e2
 | @all p b t u q M _ ih =>
  intro l r e hs hb hz
  subst e
  rw [fmSz_qq] at hb
  simp only [List.length_append,List.length_cons] at hb
  rw [finn_q (.inl rfl) (by omega)]
  refine .all fun y=>?_
  have:=ih y (⟨t,y⟩::l) r rfl hs (by simp;omega) hz
  simpa using this
 | @ex p b t u q M _ ih =>
  intro l r e hs hb hz
  subst e
  rw [fmSz_qq] at hb
  simp only [List.length_append,List.length_cons] at hb
  rw [finn_q (.inr rfl) (by omega)]
  refine .ex fun y=>?_
  have:=ih y (⟨t,y⟩::l) r rfl hs (by simp;omega) hz
  simpa using this
theorem MS.ch {p:List DV} {f:Fm} {v q:U} {M:v.val→q.val→Prop} (h:MS p f v q M):f.ch.2=0→f.ch.1=(v.ty,q.ty):=by
 induction h with
 | eq _ _ =>
  intro e
  rw [Fm.ch_eq] at e ⊢
  rfl
 | and _ _ i1 i2 =>
  intro e
  obtain ⟨e1,e2,e3⟩:=ch_two_ok e
  rw [e3,i1 e1,i2 e2,pairU_ty,pairU_ty];rfl
 | imp _ _ i1 i2 =>
  intro e
  obtain ⟨e1,e2,e3⟩:=ch_two_ok e
  rw [e3,i1 e1,i2 e2,pairU_ty,pairU_ty,funU_ty,funU_ty,funU_ty];rfl
 | @all p a t u q M hx ih =>
  intro e
  obtain ⟨e1,e2⟩:=ch_q_ok e
  rw [e2,ih t.dflt e1,funU_ty,pairU_ty];rfl
 | @ex p a t u q M hx ih =>
  intro e
  obtain ⟨e1,e2⟩:=ch_q_ok e
  rw [e2,ih t.dflt e1,pairU_ty];rfl
theorem MS.uniq {p:List DV} {f:Fm} {v q:U} {M:v.val→q.val→Prop} (h:MS p f v q M):∀ {p':List DV} {f':Fm} {v' q':U} {M':v'.val→q'.val→Prop},MS p' f' v' q' M'→f=f'→v=v'∧q=q':=by
 induction h with
 | eq _ _ =>
  intro p' f' v' q' M' h' e
  cases h' with
  | eq=>exact ⟨rfl,rfl⟩
  | _=>have:=congrArg (fun f=>f.args.length) e;simp [fmEq,fmTwo,fmQ,Fm.args] at this
 | and _ _ i1 i2 =>
  intro p' f' v' q' M' h' e
  cases h' with
  | and h1 h2 =>
   simp only [fmTwo,Fm.mk.injEq,List.cons.injEq] at e
   obtain ⟨_,_,_,e1,e2,_⟩:=e
   obtain ⟨rfl,rfl⟩:=i1 h1 e1
   obtain ⟨rfl,rfl⟩:=i2 h2 e2
   exact ⟨rfl,rfl⟩
  | imp=>have:=congrArg Fm.kind e;simp [fmTwo,Fm.kind] at this
  | _=>have:=congrArg (fun f=>f.args.length) e;simp [fmEq,fmTwo,fmQ,Fm.args] at this
 | imp _ _ i1 i2 =>
  intro p' f' v' q' M' h' e
  cases h' with
  | imp h1 h2 =>
   simp only [fmTwo,Fm.mk.injEq,List.cons.injEq] at e
   obtain ⟨_,_,_,e1,e2,_⟩:=e
   obtain ⟨rfl,rfl⟩:=i1 h1 e1
   obtain ⟨rfl,rfl⟩:=i2 h2 e2
   exact ⟨rfl,rfl⟩
  | and=>have:=congrArg Fm.kind e;simp [fmTwo,Fm.kind] at this
  | _=>have:=congrArg (fun f=>f.args.length) e;simp [fmEq,fmTwo,fmQ,Fm.args] at this
 | @all p a t u q M hx ih =>
  intro p' f' v' q' M' h' e
  cases h' with
  | @all p2 a2 t2 u2 q2 M2 h1 =>
   simp only [fmQ,Fm.mk.injEq,List.cons.injEq] at e
   obtain ⟨_,et,_,e1,_⟩:=e
   obtain rfl:=U.inj et
   obtain ⟨rfl,rfl⟩:=ih t.dflt (h1 t.dflt) e1
   exact ⟨rfl,rfl⟩
  | ex=>have:=congrArg Fm.kind e;simp [fmQ,Fm.kind] at this
  | _=>have:=congrArg (fun f=>f.args.length) e;simp [fmEq,fmTwo,fmQ,Fm.args] at this
 | @ex p a t u q M hx ih =>
  intro p' f' v' q' M' h' e
  cases h' with
  | @ex p2 a2 t2 u2 q2 M2 h1 =>
   simp only [fmQ,Fm.mk.injEq,List.cons.injEq] at e
   obtain ⟨_,et,_,e1,_⟩:=e
   obtain rfl:=U.inj et
   obtain ⟨rfl,rfl⟩:=ih t.dflt (h1 t.dflt) e1
   exact ⟨rfl,rfl⟩
  | all=>have:=congrArg Fm.kind e;simp [fmQ,Fm.kind] at this
  | _=>have:=congrArg (fun f=>f.args.length) e;simp [fmEq,fmTwo,fmQ,Fm.args] at this
theorem FmTy.ms {g:List Ty} {f:Fm} (h:FmTy TyG g f):FmG false f→∀ {p:List DV},EnvU p g→∃ (v q:U) (M:v.val→q.val→Prop),MS p f v q M:=by
 induction h with
 | eq h1 h2 =>
  intro _ p hp
  obtain ⟨u,m,e1,d1⟩:=h1.den hp
  obtain ⟨w,n,e2,d2⟩:=h2.den hp
  obtain rfl:=U.ty_nat e1
  obtain rfl:=U.ty_nat e2
  exact ⟨_,_,_,.eq d1 d2⟩
 | @two g k a b hk _ _ i1 i2 =>
  intro hG p hp
  have hh:FmG false a∧FmG false b:=by
   generalize e:fmTwo k a b=f at hG
   cases hG with
   | two _ h1 h2 =>
    simp only [fmTwo,Fm.mk.injEq,List.cons.injEq] at e
    obtain ⟨_,_,_,rfl,rfl,_⟩:=e
    exact ⟨h1,h2⟩
   | _=>have:=congrArg (fun f=>f.args.length) e;simp [fmEq,fmTwo,fmQ,Fm.args] at this
  obtain ⟨v,q,M,h1⟩:=i1 hh.1 hp
  obtain ⟨u,r,N,h2⟩:=i2 hh.2 hp
  rcases hk with rfl|rfl
  ·exact ⟨_,_,_,.and h1 h2⟩
  ·exact ⟨_,_,_,.imp h1 h2⟩
 | @q g k s a hk _ ih =>
  intro hG p hp
  have hh:(k=4∨k=5)∧TyG s∧FmG false a:=by
   generalize e:fmQ k s a=f at hG
   cases hG with
   | q hk hs h1 =>
    simp only [fmQ,Fm.mk.injEq,List.cons.injEq] at e
    obtain ⟨rfl,rfl,_,rfl,_⟩:=e
    refine ⟨?_,hs,h1⟩
    rcases hk with h|h|⟨h,_⟩
    ·exact .inl h
    ·exact .inr h
    ·cases h
   | _=>have:=congrArg (fun f=>f.args.length) e;simp [fmEq,fmTwo,fmQ,Fm.args] at this
  obtain ⟨hk,hs,ha⟩:=hh
  obtain ⟨t,rfl⟩:=TyF.U hs.1
  have all:=fun x:t.val=>ih ha (hp.snoc x)
  obtain ⟨v,q,M0,h0⟩:=all t.dflt
  have:∀ x:t.val,∃ M:v.val→q.val→Prop,MS (⟨t,x⟩::p) a v q M:=by
   intro x
   obtain ⟨v',q',M,h1⟩:=all x
   obtain ⟨rfl,rfl⟩:=h0.uniq h1 rfl
   exact ⟨M,h1⟩
  rcases hk with rfl|rfl
  ·exact ⟨_,_,_,.all (M:=fun x=>(this x).choose) fun x=>(this x).choose_spec⟩
  ·exact ⟨_,_,_,.ex (M:=fun x=>(this x).choose) fun x=>(this x).choose_spec⟩
abbrev MSP:=(v q:U)→(v.val→q.val→Prop)→Prop
theorem MS.eq_elim {C:MSP} {p:List DV} {x y:Tm} {v q:U} {M:v.val→q.val→Prop} (h:MS p (fmEq x y) v q M)
  (k:∀ m n:Nat,Den p x .nat m→Den p y .nat n→C .unit .unit (fun _ _=>m=n)):C v q M:=by
 generalize hf:fmEq x y=f at h
 cases h with
 | eq h1 h2 =>
  simp only [fmEq,Fm.mk.injEq,List.cons.injEq] at hf
  obtain ⟨_,_,⟨rfl,rfl,_⟩,_⟩:=hf
  exact k _ _ h1 h2
 | _=>have:=congrArg (fun f=>f.args.length) hf;simp [fmEq,fmTwo,fmQ,Fm.args] at this
theorem MS.and_elim {C:MSP} {p:List DV} {a b:Fm} {v q:U} {M:v.val→q.val→Prop} (h:MS p (fmTwo 2 a b) v q M)
  (k:∀ (v q u r:U) (M:v.val→q.val→Prop) (N:u.val→r.val→Prop),MS p a v q M→MS p b u r N→C (pairU v u) (pairU q r) (fun w c=>M (leftU w) (leftU c)∧N (rightU w) (rightU c))):C v q M:=by
 generalize hf:fmTwo 2 a b=f at h
 cases h with
 | and h1 h2 =>
  simp only [fmTwo,Fm.mk.injEq,List.cons.injEq] at hf
  obtain ⟨_,_,_,rfl,rfl,_⟩:=hf
  exact k _ _ _ _ _ _ h1 h2
 | imp=>have:=congrArg Fm.kind hf;simp [fmTwo,Fm.kind] at this
 | _=>have:=congrArg (fun f=>f.args.length) hf;simp [fmEq,fmTwo,fmQ,Fm.args] at this
theorem MS.imp_elim {C:MSP} {p:List DV} {a b:Fm} {v q:U} {M:v.val→q.val→Prop} (h:MS p (fmTwo 3 a b) v q M)
  (k:∀ (v q u r:U) (M:v.val→q.val→Prop) (N:u.val→r.val→Prop),MS p a v q M→MS p b u r N→C (pairU (funU v u) (funU v (funU r q))) (pairU v r)
    (fun w c=>M (leftU c) (callU (callU (rightU w) (leftU c)) (rightU c))→N (callU (leftU w) (leftU c)) (rightU c))):C v q M:=by
 generalize hf:fmTwo 3 a b=f at h
 cases h with
 | imp h1 h2 =>
  simp only [fmTwo,Fm.mk.injEq,List.cons.injEq] at hf
  obtain ⟨_,_,_,rfl,rfl,_⟩:=hf
  exact k _ _ _ _ _ _ h1 h2
 | and=>have:=congrArg Fm.kind hf;simp [fmTwo,Fm.kind] at this
 | _=>have:=congrArg (fun f=>f.args.length) hf;simp [fmEq,fmTwo,fmQ,Fm.args] at this
theorem MS.all_elim {C:MSP} {p:List DV} {s:Ty} {a:Fm} {v q:U} {M:v.val→q.val→Prop} (h:MS p (fmQ 4 s a) v q M)
  (k:∀ (t u q:U) (M:t.val→u.val→q.val→Prop),s=t.ty→(∀ x,MS (⟨t,x⟩::p) a u q (M x))→C (funU t u) (pairU t q) (fun w c=>M (leftU c) (callU w (leftU c)) (rightU c))):C v q M:=by
 generalize hf:fmQ 4 s a=f at h
 cases h with
 | all h1 =>
  simp only [fmQ,Fm.mk.injEq,List.cons.injEq] at hf
  obtain ⟨_,es,_,rfl,_⟩:=hf
  exact k _ _ _ _ es h1
 | ex=>have:=congrArg Fm.kind hf;simp [fmQ,Fm.kind] at this
 | _=>have:=congrArg (fun f=>f.args.length) hf;simp [fmEq,fmTwo,fmQ,Fm.args] at this
theorem MS.ex_elim {C:MSP} {p:List DV} {s:Ty} {a:Fm} {v q:U} {M:v.val→q.val→Prop} (h:MS p (fmQ 5 s a) v q M)
  (k:∀ (t u q:U) (M:t.val→u.val→q.val→Prop),s=t.ty→(∀ x,MS (⟨t,x⟩::p) a u q (M x))→C (pairU t u) q (fun w c=>M (leftU w) (rightU w) c)):C v q M:=by
 generalize hf:fmQ 5 s a=f at h
 cases h with
 | ex h1 =>
  simp only [fmQ,Fm.mk.injEq,List.cons.injEq] at hf
  obtain ⟨_,es,_,rfl,_⟩:=hf
  exact k _ _ _ _ es h1
 | all=>have:=congrArg Fm.kind hf;simp [fmQ,Fm.kind] at this
 | _=>have:=congrArg (fun f=>f.args.length) hf;simp [fmEq,fmTwo,fmQ,Fm.args] at this
theorem MTwo_and {p:List DV} {x y:Fm × Int} {P Q:Prop} (h:(mTwo 2 x y).2=0) (hx:x.2=0→FDen p x.1 P) (hy:y.2=0→FDen p y.1 Q):FDen p (mTwo 2 x y).1 (P∧Q):=by
 obtain ⟨e1,e2,e3⟩:=mTwo_ok h
 rw [e3];exact .and (hx e1) (hy e2)
theorem MTwo_imp {p:List DV} {x y:Fm × Int} {P Q:Prop} (h:(mTwo 3 x y).2=0) (hx:x.2=0→FDen p x.1 P) (hy:y.2=0→FDen p y.1 Q):FDen p (mTwo 3 x y).1 (P→Q):=by
 obtain ⟨e1,e2,e3⟩:=mTwo_ok h
 rw [e3];exact .imp (hx e1) (hy e2)
theorem mOf_den:∀ (n:Nat),n≤3→∀ (N:Nat) (f:Fm) (w c:Tm) (L:Int),Shp n f→fdp f≤N→ArgsOk f→fmSz f≤8200→(n=3→Corner f w c)→f.ch.2=0→FmTy TyF [] f →
  0≤L→L+(n:Int) * 1000000≤300000000→f.least L=true→TmOk L [] w f.ch.1.1→TmOk L [] c f.ch.1.2→(mOf N f w c).2=0 →
  ∀ {v q:U} {M:v.val→q.val→Prop} {dw:v.val} {dc:q.val},MS [] f v q M→Den [] w v dw→Den [] c q dc→FDen [] (mOf N f w c).1 (M dw dc):=by
 intro n
 induction n with
 | zero =>
  intro hn N f w c L hS hN hA hz hC hch hT hL0 hL hl hw hc h v q M dw dc hM Dw Dc'
  obtain ⟨N,rfl⟩:∃ M,N=M+1:=⟨N - 1,by have:=fdp_pos f;omega⟩
  cases hS with
  | @eq _ x y hx hy =>
   rw [mOf_else h]
   exact hM.eq_elim (C:=fun v q M=>∀ (dw:v.val) (dc:q.val),FDen [] (fmEq x y) (M dw dc)) (fun m n d1 d2 _ _=>.eq d1 d2) dw dc
 | succ n ih =>
  intro hn N f w c L hS hN hA hz hC hch hT hL0 hL hl hw hc h v q M dw dc hM Dw Dc'
  obtain ⟨N,rfl⟩:∃ M,N=M+1:=⟨N - 1,by have:=fdp_pos f;omega⟩
  obtain ⟨sw,sc⟩:=mOf_size h
  have zw:=hw.cut sw
  have zc:=hc.cut sc
  have hm:=mOf_else h
  rw [hm] at h ⊢
  clear hm
  have ih':=ih (by omega)
  have hg:([]:List Ty).length≤100:=by simp
  cases hS with
  | @eq _ x y hx hy =>
   exact hM.eq_elim (C:=fun v q M=>∀ (dw:v.val) (dc:q.val),FDen [] (fmEq x y) (M dw dc)) (fun m n d1 d2 _ _=>.eq d1 d2) dw dc
  | @two _ k a b hk h1 h2 =>
   obtain ⟨ca,cb,cc⟩:=ch_two_ok hch
   have za:=hA.1 a (by simp [fmTwo,Fm.args])
   have zb:=hA.1 b (by simp [fmTwo,Fm.args])
   rw [fmSz_two] at hz
   rw [fdp_two] at hN
   obtain ⟨la,lb⟩:=fleast_parts2 hl
   have ta:FmTy TyF [] a∧FmTy TyF [] b:=by cases hT with|two _ a b=>exact ⟨a,b⟩
   have Ga:=ch_TyG h1.G ca
   have Gb:=ch_TyG h2.G cb
   have ea:=look_ch h1.G za
   have eb:=look_ch h2.G zb
   have sub:∀ (x:Fm),fmSz x≤4096→ArgsOk x:=fun x hx=>argsOk_of hx
   have Ia:=ih' N a
   have Ib:=ih' N b
   rw [cc] at hw hc
   rcases hk with rfl|rfl
   ·obtain ⟨w1,w2⟩:=hw.part (a:=a.ch.1.1) (b:=b.ch.1.1) hL0 (by omega) Ga.1.1 Gb.1.1
    obtain ⟨c1,c2⟩:=hc.part (a:=a.ch.1.2) (b:=b.ch.1.2) hL0 (by omega) Ga.2.1 Gb.2.1
    change (mAnd (mOf N) a b w c).2=0 at h
    show FDen [] (mAnd (mOf N) a b w c).1 _
    unfold mAnd at h ⊢
    rw [ea,eb] at h ⊢
    refine hM.and_elim (C:=fun v q M=>∀ (dw:v.val) (dc:q.val),Den [] w v dw→Den [] c q dc→FDen [] (mTwo 2 _ _).1 (M dw dc)) ?_ dw dc Dw Dc'
    intro v q u r M N' m1 m2 dw dc Dw Dc'
    have k1:=m1.ch ca
    have k2:=m2.ch cb
    rw [k1,k2] at h w1 w2 c1 c2 ⊢
    exact MTwo_and h (fun e=>Ia _ _ L h1 (by omega) (sub a za) (by omega) (fun e=>by omega) ca ta.1 hL0 (by omega) la (by rw [k1];exact w1) (by rw [k1];exact c1) e m1 Dw.left Dc'.left)
     (fun e=>Ib _ _ L h2 (by omega) (sub b zb) (by omega) (fun e=>by omega) cb ta.2 hL0 (by omega) lb (by rw [k2];exact w2) (by rw [k2];exact c2) e m2 Dw.right Dc'.right)
   ·have Fan:TyF (chFun a.ch.1.1 (chFun b.ch.1.2 a.ch.1.2)):=chFun_F Ga.1.1 (chFun_F Gb.2.1 Ga.2.1)
    have Ffn:TyF (chFun a.ch.1.1 b.ch.1.1):=chFun_F Ga.1.1 Gb.1.1
    obtain ⟨w1,w2⟩:=hw.part (a:=chFun a.ch.1.1 b.ch.1.1) (b:=chFun a.ch.1.1 (chFun b.ch.1.2 a.ch.1.2)) hL0 (by omega) Ffn Fan
    obtain ⟨c1,c2⟩:=hc.part (a:=a.ch.1.1) (b:=b.ch.1.2) hL0 (by omega) Ga.1.1 Gb.2.1
    have y1:=chPart_sz (k:=11) (a:=chFun a.ch.1.1 b.ch.1.1) (b:=chFun a.ch.1.1 (chFun b.ch.1.2 a.ch.1.2)) (t:=w)
    have y2:=chPart_sz (k:=12) (a:=chFun a.ch.1.1 (chFun b.ch.1.2 a.ch.1.2)) (b:=chFun a.ch.1.1 b.ch.1.1) (t:=w)
    have y3:=chPart_sz (k:=11) (a:=a.ch.1.1) (b:=b.ch.1.2) (t:=c)
    have y4:=chPart_sz (k:=12) (a:=b.ch.1.2) (b:=a.ch.1.1) (t:=c)
    have z1:=w2.call hL0 c1 (by omega) (chFun_F Gb.2.1 Ga.2.1)
    have y5:=chCall_sz (a:=a.ch.1.1) (b:=chFun b.ch.1.2 a.ch.1.2) (f:=chPart 12 (chFun a.ch.1.1 (chFun b.ch.1.2 a.ch.1.2)) (chFun a.ch.1.1 b.ch.1.1) w) (t:=chPart 11 a.ch.1.1 b.ch.1.2 c)
    have z2:=z1.call hL0 c2 (by omega) Ga.2.1
    have z3:=w1.call hL0 c1 (by omega) Gb.1.1
    change (mImp (mOf N) a b w c).2=0 at h
    show FDen [] (mImp (mOf N) a b w c).1 _
    unfold mImp at h ⊢
    rw [ea,eb] at h ⊢
    refine hM.imp_elim (C:=fun v q M=>∀ (dw:v.val) (dc:q.val),Den [] w v dw→Den [] c q dc→FDen [] (mTwo 3 _ _).1 (M dw dc)) ?_ dw dc Dw Dc'
    intro v q u r M N' m1 m2 dw dc Dw Dc'
    have k1:=m1.ch ca
    have k2:=m2.ch cb
    rw [k1,k2] at h z2 z3 c1 c2 ⊢
    simp only [← funU_ty] at h z2 z3 ⊢
    have x1:=Dc'.left
    have x2:=Dc'.right
    have x3:=Dw.left
    have x4:=Dw.right
    exact MTwo_imp h (fun e=>Ia _ _ L h1 (by omega) (sub a za) (by omega) (fun e=>by omega) ca ta.1 hL0 (by omega) la (by rw [k1];exact c1) (by rw [k1];exact z2) e m1 x1 (Den.call (Den.call x4 x1) x2))
     (fun e=>Ib _ _ L h2 (by omega) (sub b zb) (by omega) (fun e=>by omega) cb ta.2 hL0 (by omega) lb (by rw [k2];exact z3) (by rw [k2];exact c2) e m2 (Den.call x3 x1) x2)
  | @q _ k s a hk hs h1 =>
   obtain ⟨ca,cc⟩:=ch_q_ok hch
   have za:=hA.1 a (by simp [fmQ,Fm.args])
   have Ga:=ch_TyG h1.G ca
   have ea:=look_ch h1.G za
   have la:=fleast_part hl
   have ta:FmTy TyF ([]++[s]) a:=by cases hT with|q _ a=>exact a
   have hfd:fdp a≤N:=by rw [fmQ,fdp,fdpL,fdpL] at hN;omega
   have step:∀ (x w' c':Tm),TmOk L [] x s→TmOk L [] w' a.ch.1.1→TmOk L [] c' a.ch.1.2→tmSz x≤max (tmSz w) (tmSz c)+1→(mWith (mOf N) a x w' c').2=0 →
     ∀ {t v q:U} {dx:t.val} {M:t.val→v.val→q.val→Prop} {dw:v.val} {dc:q.val},(∀ x,MS [⟨t,x⟩] a v q (M x))→Den [] x t dx→Den [] w' v dw→Den [] c' q dc →
      FDen [] (mWith (mOf N) a x w' c').1 (M dx dw dc):=by
    intro x w' c' hx hw' hc' hxz hh t v q dx M dw dc hM Dx Dw Dc'
    obtain ⟨s1,s2,s3⟩:=mWith_ok hh
    rw [s3] at hh ⊢
    have zx:=hx.cut s1
    have esp:a.sp x=fmInn x 0 a 0:=fsp_inn hx.gd (by omega) (least_mono (by omega) _ hx.l) h1.G 0 (by omega) (by omega)
    rw [esp] at hh ⊢
    have hsz:=h1.G.inn_sz (s:=x) 0 (by omega) (by omega)
    have hqr:=qs_range h1.G (by omega)
    have hpos:=tmSz_pos x
    have hgr:a.grown x=(fmSz (fmInn x 0 a 0):Int):=by
     unfold Fm.grown
     rw [x.szW_nodes _ (hx.gd.nodes_val (by omega)),a.szW_nodes _ (h1.G.nodes_val (by omega))]
     have e1:subW (tmSz x:Int) 1=((tmSz x - 1:Nat):Int):=by rw [subW_eq (by omega) (by omega) (by omega) (by omega)];omega
     rw [e1,grown_occ (c:=4096) (by omega) h1.G 0 _ (by omega) (by omega) (by omega),hsz]
    have hmul:fmOcc a 0 * (tmSz x - 1)≤4096 * 4096:=Nat.mul_le_mul (by have:=fmOcc_le a 0;omega) (by omega)
    rw [hgr,subW_eq (by omega) (by omega) (by omega) (by omega)] at s2
    have hAr:=argsOk_inn (x:=x) (by omega) h1 za (by omega) (fun hq=>by
     obtain ⟨k1,s1',k2,s2',u,v,e⟩:=hq
     have hn2:n=2:=by
      subst e
      cases h1 with
      | q _ _ h2=>cases h2 with
       | q _ _ h3=>omega
     have:=hC (by omega) k s a rfl ⟨k1,s1',k2,s2',u,v,e⟩
     have hm2:fmOcc a 0 * (tmSz x - 1)≤fmOcc a 0 * (max (tmSz w) (tmSz c)):=Nat.mul_le_mul_left _ (by omega)
     omega)
    have hl':=fleast_inn hL0 (by omega) hx.gd hx.l h1 la 0 (by omega) (by omega)
    have up:∀ {t:Tm} {ty:Ty},TmOk L [] t ty→TmOk (L+1000000) [] t ty:=fun h=>⟨h.gd,h.sz,least_mono (by omega) _ h.l,h.ty⟩
    have hty:=ta.inn [] [] (by simp) hx.ty (by simp;omega) (by simp;omega)
    rw [List.append_nil] at hty
    have hms:=(hM dx).inn [] [] rfl Dx (by simp;omega) (by omega)
    exact ih' N _ w' c' (L+1000000) (h1.inn hx.gd (least_mono (by omega) _ hx.l) (by
     exact fleast_mono (M:=L) (M':=536870912) (by omega) h1 la) 0 (by omega) (by omega)) (by rw [← esp,Fm.sp,fdp_evx];exact hfd) hAr (by omega) (fun e=>by omega) (by rw [ch_inn];exact ca) hty (by omega) (by omega) hl' (by rw [ch_inn];exact up hw') (by rw [ch_inn];exact up hc') hh hms Dw Dc'
   rw [cc] at hw hc
   rcases hk with rfl|rfl
   ·obtain ⟨c1,c2⟩:=hc.part (a:=s) (b:=a.ch.1.2) hL0 (by omega) hs.1 Ga.2.1
    have y3:=chPart_sz (k:=11) (a:=s) (b:=a.ch.1.2) (t:=c)
    have w1:=TmOk.call (a:=s) (b:=a.ch.1.1) hL0 hw c1 (by omega) Ga.1.1
    change (mAll (mOf N) s a w c).2=0 at h
    show FDen [] (mAll (mOf N) s a w c).1 _
    unfold mAll at h ⊢
    rw [ea] at h ⊢
    refine hM.all_elim (C:=fun v q M=>∀ (dw:v.val) (dc:q.val),Den [] w v dw→Den [] c q dc→FDen [] (mWith _ _ _ _ _).1 (M dw dc)) ?_ dw dc Dw Dc'
    intro t u q M es m1 dw dc Dw Dc'
    have k1:=(m1 t.dflt).ch ca
    have st:=@step _ _ _ c1 w1 c2 (by omega) h t u q
    rw [k1] at st ⊢
    subst es
    exact st m1 Dc'.left (Den.call Dw Dc'.left) Dc'.right
   ·obtain ⟨w1,w2⟩:=hw.part (a:=s) (b:=a.ch.1.1) hL0 (by omega) hs.1 Ga.1.1
    have y3:=chPart_sz (k:=11) (a:=s) (b:=a.ch.1.1) (t:=w)
    change (mEx (mOf N) s a w c).2=0 at h
    show FDen [] (mEx (mOf N) s a w c).1 _
    unfold mEx at h ⊢
    rw [ea] at h ⊢
    refine hM.ex_elim (C:=fun v q M=>∀ (dw:v.val) (dc:q.val),Den [] w v dw→Den [] c q dc→FDen [] (mWith _ _ _ _ _).1 (M dw dc)) ?_ dw dc Dw Dc'
    intro t u q M es m1 dw dc Dw Dc'
    have k1:=(m1 t.dflt).ch ca
    have st:=@step _ _ _ w1 w2 hc (by omega) h t u q
    rw [k1] at st ⊢
    subst es
    exact st m1 Dw.left Dw.right Dc'
theorem chPart_tyQ {Q:Ty→Prop} {g:List Ty} {a b:Ty} {t:Tm} (hb:TyF b) (h:HasTy Q g t (chPair a b)) (ha:TyF a):HasTy Q g (chPart 11 a b t) a∧HasTy Q g (chPart 12 b a t) b:=by
 unfold chPart chPair at *
 cases ka:(a.kind==5) with
 | true =>
  have ea:=ha.kind5 ka
  rw [ka] at h
  simp only [if_true] at h ⊢
  refine ⟨by rw [ea];exact .n0 (ty:=.mk 0 []) .unit,?_⟩
  cases kb:(b.kind==5) with
  | true=>rw [hb.kind5 kb];exact .n0 (ty:=.mk 0 []) .unit
  | false=>simp only [Bool.false_eq_true,if_false];exact h
 | false =>
  rw [ka] at h
  simp only [Bool.false_eq_true,if_false] at h ⊢
  cases kb:(b.kind==5) with
  | true =>
   rw [kb] at h
   simp only [if_true] at h ⊢
   exact ⟨h,by rw [hb.kind5 kb];exact .n0 (ty:=.mk 0 []) .unit⟩
  | false =>
   rw [kb] at h
   simp only [Bool.false_eq_true,if_false] at h ⊢
   exact ⟨.n1 (ty:=.mk 0 []) .fst h,.n1 (ty:=.mk 0 []) .snd h⟩
theorem chCall_tyQ {Q:Ty→Prop} {g:List Ty} {a b:Ty} {f t:Tm} (hb:TyF b) (h:HasTy Q g f (chFun a b)) (ht:HasTy Q g t a):HasTy Q g (chCall a b f t) b:=by
 unfold chCall chFun at *
 cases kb:(b.kind==5) with
 | true=>simp only [if_true];rw [hb.kind5 kb];exact .n0 (ty:=.mk 0 []) .unit
 | false =>
  rw [kb] at h
  simp only [Bool.false_eq_true,if_false] at h ⊢
  cases ka:(a.kind==5) with
  | true=>rw [ka] at h;simp only [if_true] at h ⊢;exact h
  | false =>
   rw [ka] at h
   simp only [Bool.false_eq_true,if_false] at h ⊢
   exact .n2 (ty:=.mk 0 []) .app h ht
theorem FmTy.innU {Q:Ty→Prop} {a:Ty} {x:Tm} {f:Fm} {g':List Ty} (h:FmTy Q g' f):∀ g l:List Ty,g'=g++[a]++l→HasTy Q g x a→l.length+fmSz f≤40000→g.length+tmSz x≤40000→FmTy Q (g++l) (fmInn x 0 f (l.length:Int)):=by
 induction h with
 | @eq g' p q h1 h2 =>
  intro g l e hx hb hg
  rw [fmSz_eq] at hb
  rw [fmInn_eqn]
  exact .eq (h1.inn g l e hx (by omega) (by omega)) (h2.inn g l e hx (by omega) (by omega))
 | @two g' k p q hk _ _ ih1 ih2 =>
  intro g l e hx hb hg
  rw [fmSz_two] at hb
  rw [fmInn_two,below_two hk,addW_zero (by omega) (by omega)]
  exact .two hk (ih1 g l e hx (by omega) hg) (ih2 g l e hx (by omega) hg)
 | @q g' k s p hk _ ih =>
  intro g l e hx hb hg
  subst e
  rw [fmSz_q] at hb
  have hq:fmBelow k=1:=by rcases hk with rfl|rfl|rfl|rfl<;>rfl
  have e1:addW (l.length:Int) (fmBelow k)=((l++[s]).length:Int):=by
   rw [hq,addW_eq (by omega) (by omega) (by omega) (by omega)];simp
  rw [fmInn_q,e1]
  refine .q hk ?_
  have:=ih g (l++[s]) (by simp) hx (by simp;omega) hg
  rw [List.append_assoc];exact this
theorem two_tyG {k:Int} (hk:k=2∨k=3) {g:List Ty} {x y:Fm × Int} (h:(mTwo k x y).2=0) (hx:x.2=0→FmTy TyG g x.1) (hy:y.2=0→FmTy TyG g y.1):FmTy TyG g (mTwo k x y).1:=by
 obtain ⟨e1,e2,e3⟩:=mTwo_ok h
 rw [e3];exact .two hk (hx e1) (hy e2)
theorem mOf_tyG:∀ (n:Nat),n≤3→∀ (N:Nat) (f:Fm) (w c:Tm) (L:Int),Shp n f→fdp f≤N→ArgsOk f→fmSz f≤8200→(n=3→Corner f w c)→f.ch.2=0→FmTy TyF [] f →
  0≤L→L+(n:Int) * 1000000≤300000000→f.least L=true→TmOk L [] w f.ch.1.1→TmOk L [] c f.ch.1.2→(mOf N f w c).2=0 →
  FmTy TyG [] f→HasTy TyG [] w f.ch.1.1→HasTy TyG [] c f.ch.1.2→FmTy TyG [] (mOf N f w c).1:=by
 intro n
 induction n with
 | zero =>
  intro hn N f w c L hS hN hA hz hC hch hT hL0 hL hl hw hc h hM Dw Dc'
  obtain ⟨N,rfl⟩:∃ M,N=M+1:=⟨N - 1,by have:=fdp_pos f;omega⟩
  cases hS with
  | @eq _ x y hx hy =>
   rw [mOf_else h]
   exact hM
 | succ n ih =>
  intro hn N f w c L hS hN hA hz hC hch hT hL0 hL hl hw hc h hM Dw Dc'
  obtain ⟨N,rfl⟩:∃ M,N=M+1:=⟨N - 1,by have:=fdp_pos f;omega⟩
  obtain ⟨sw,sc⟩:=mOf_size h
  have zw:=hw.cut sw
  have zc:=hc.cut sc
  have hm:=mOf_else h
  rw [hm] at h ⊢
  clear hm
  have ih':=ih (by omega)
  have hg:([]:List Ty).length≤100:=by simp
  cases hS with
  | @eq _ x y hx hy =>
   exact hM
  | @two _ k a b hk h1 h2 =>
   obtain ⟨ca,cb,cc⟩:=ch_two_ok hch
   have za:=hA.1 a (by simp [fmTwo,Fm.args])
   have zb:=hA.1 b (by simp [fmTwo,Fm.args])
   rw [fmSz_two] at hz
   rw [fdp_two] at hN
   obtain ⟨la,lb⟩:=fleast_parts2 hl
   have ta:FmTy TyF [] a∧FmTy TyF [] b:=by cases hT with|two _ a b=>exact ⟨a,b⟩
   have Ga:=ch_TyG h1.G ca
   have Gb:=ch_TyG h2.G cb
   have ea:=look_ch h1.G za
   have eb:=look_ch h2.G zb
   have sub:∀ (x:Fm),fmSz x≤4096→ArgsOk x:=fun x hx=>argsOk_of hx
   have Ia:=ih' N a
   have Ib:=ih' N b
   rw [cc] at hw hc Dw Dc'
   have tg:FmTy TyG [] a∧FmTy TyG [] b:=by cases hM with|two _ a b=>exact ⟨a,b⟩
   rcases hk with rfl|rfl
   ·obtain ⟨w1,w2⟩:=hw.part (a:=a.ch.1.1) (b:=b.ch.1.1) hL0 (by omega) Ga.1.1 Gb.1.1
    obtain ⟨c1,c2⟩:=hc.part (a:=a.ch.1.2) (b:=b.ch.1.2) hL0 (by omega) Ga.2.1 Gb.2.1
    change (mAnd (mOf N) a b w c).2=0 at h
    show FmTy TyG [] (mAnd (mOf N) a b w c).1
    unfold mAnd at h ⊢
    rw [ea,eb] at h ⊢
    obtain ⟨p1,p2⟩:=chPart_tyQ Gb.1.1 Dw Ga.1.1
    obtain ⟨p3,p4⟩:=chPart_tyQ Gb.2.1 Dc' Ga.2.1
    exact two_tyG (.inl rfl) h (fun e=>Ia _ _ L h1 (by omega) (sub a za) (by omega) (fun e=>by omega) ca ta.1 hL0 (by omega) la w1 c1 e tg.1 p1 p3)
     (fun e=>Ib _ _ L h2 (by omega) (sub b zb) (by omega) (fun e=>by omega) cb ta.2 hL0 (by omega) lb w2 c2 e tg.2 p2 p4)
   ·have Fan:TyF (chFun a.ch.1.1 (chFun b.ch.1.2 a.ch.1.2)):=chFun_F Ga.1.1 (chFun_F Gb.2.1 Ga.2.1)
    have Ffn:TyF (chFun a.ch.1.1 b.ch.1.1):=chFun_F Ga.1.1 Gb.1.1
    obtain ⟨w1,w2⟩:=hw.part (a:=chFun a.ch.1.1 b.ch.1.1) (b:=chFun a.ch.1.1 (chFun b.ch.1.2 a.ch.1.2)) hL0 (by omega) Ffn Fan
    obtain ⟨c1,c2⟩:=hc.part (a:=a.ch.1.1) (b:=b.ch.1.2) hL0 (by omega) Ga.1.1 Gb.2.1
    have y1:=chPart_sz (k:=11) (a:=chFun a.ch.1.1 b.ch.1.1) (b:=chFun a.ch.1.1 (chFun b.ch.1.2 a.ch.1.2)) (t:=w)
    have y2:=chPart_sz (k:=12) (a:=chFun a.ch.1.1 (chFun b.ch.1.2 a.ch.1.2)) (b:=chFun a.ch.1.1 b.ch.1.1) (t:=w)
    have y3:=chPart_sz (k:=11) (a:=a.ch.1.1) (b:=b.ch.1.2) (t:=c)
    have y4:=chPart_sz (k:=12) (a:=b.ch.1.2) (b:=a.ch.1.1) (t:=c)
    have z1:=w2.call hL0 c1 (by omega) (chFun_F Gb.2.1 Ga.2.1)
    have y5:=chCall_sz (a:=a.ch.1.1) (b:=chFun b.ch.1.2 a.ch.1.2) (f:=chPart 12 (chFun a.ch.1.1 (chFun b.ch.1.2 a.ch.1.2)) (chFun a.ch.1.1 b.ch.1.1) w) (t:=chPart 11 a.ch.1.1 b.ch.1.2 c)
    have z2:=z1.call hL0 c2 (by omega) Ga.2.1
    have z3:=w1.call hL0 c1 (by omega) Gb.1.1
    change (mImp (mOf N) a b w c).2=0 at h
    show FmTy TyG [] (mImp (mOf N) a b w c).1
    unfold mImp at h ⊢
    rw [ea,eb] at h ⊢
    obtain ⟨p1,p2⟩:=chPart_tyQ (a:=chFun a.ch.1.1 b.ch.1.1) (b:=chFun a.ch.1.1 (chFun b.ch.1.2 a.ch.1.2)) Fan Dw Ffn
    obtain ⟨p3,p4⟩:=chPart_tyQ (a:=a.ch.1.1) (b:=b.ch.1.2) Gb.2.1 Dc' Ga.1.1
    exact two_tyG (.inr rfl) h (fun e=>Ia _ _ L h1 (by omega) (sub a za) (by omega) (fun e=>by omega) ca ta.1 hL0 (by omega) la c1 z2 e tg.1 p3 (chCall_tyQ Ga.2.1 (chCall_tyQ (chFun_F Gb.2.1 Ga.2.1) p2 p3) p4))
     (fun e=>Ib _ _ L h2 (by omega) (sub b zb) (by omega) (fun e=>by omega) cb ta.2 hL0 (by omega) lb z3 c2 e tg.2 (chCall_tyQ Gb.1.1 p1 p3) p4)
  | @q _ k s a hk hs h1 =>
   obtain ⟨ca,cc⟩:=ch_q_ok hch
   have za:=hA.1 a (by simp [fmQ,Fm.args])
   have Ga:=ch_TyG h1.G ca
   have ea:=look_ch h1.G za
   have la:=fleast_part hl
   have ta:FmTy TyF ([]++[s]) a:=by cases hT with|q _ a=>exact a
   have tg:FmTy TyG ([]++[s]) a:=by cases hM with|q _ a=>exact a
   have hfd:fdp a≤N:=by rw [fmQ,fdp,fdpL,fdpL] at hN;omega
   have step:∀ (x w' c':Tm),TmOk L [] x s→TmOk L [] w' a.ch.1.1→TmOk L [] c' a.ch.1.2→tmSz x≤max (tmSz w) (tmSz c)+1→(mWith (mOf N) a x w' c').2=0 →
     HasTy TyG [] x s→HasTy TyG [] w' a.ch.1.1→HasTy TyG [] c' a.ch.1.2→FmTy TyG [] (mWith (mOf N) a x w' c').1:=by
    intro x w' c' hx hw' hc' hxz hh Dx Dw Dc'
    obtain ⟨s1,s2,s3⟩:=mWith_ok hh
    rw [s3] at hh ⊢
    have zx:=hx.cut s1
    have esp:a.sp x=fmInn x 0 a 0:=fsp_inn hx.gd (by omega) (least_mono (by omega) _ hx.l) h1.G 0 (by omega) (by omega)
    rw [esp] at hh ⊢
    have hsz:=h1.G.inn_sz (s:=x) 0 (by omega) (by omega)
    have hqr:=qs_range h1.G (by omega)
    have hpos:=tmSz_pos x
    have hgr:a.grown x=(fmSz (fmInn x 0 a 0):Int):=by
     unfold Fm.grown
     rw [x.szW_nodes _ (hx.gd.nodes_val (by omega)),a.szW_nodes _ (h1.G.nodes_val (by omega))]
     have e1:subW (tmSz x:Int) 1=((tmSz x - 1:Nat):Int):=by rw [subW_eq (by omega) (by omega) (by omega) (by omega)];omega
     rw [e1,grown_occ (c:=4096) (by omega) h1.G 0 _ (by omega) (by omega) (by omega),hsz]
    have hmul:fmOcc a 0 * (tmSz x - 1)≤4096 * 4096:=Nat.mul_le_mul (by have:=fmOcc_le a 0;omega) (by omega)
    rw [hgr,subW_eq (by omega) (by omega) (by omega) (by omega)] at s2
    have hAr:=argsOk_inn (x:=x) (by omega) h1 za (by omega) (fun hq=>by
     obtain ⟨k1,s1',k2,s2',u,v,e⟩:=hq
     have hn2:n=2:=by
      subst e
      cases h1 with
      | q _ _ h2=>cases h2 with
       | q _ _ h3=>omega
     have:=hC (by omega) k s a rfl ⟨k1,s1',k2,s2',u,v,e⟩
     have hm2:fmOcc a 0 * (tmSz x - 1)≤fmOcc a 0 * (max (tmSz w) (tmSz c)):=Nat.mul_le_mul_left _ (by omega)
     omega)
    have hl':=fleast_inn hL0 (by omega) hx.gd hx.l h1 la 0 (by omega) (by omega)
    have up:∀ {t:Tm} {ty:Ty},TmOk L [] t ty→TmOk (L+1000000) [] t ty:=fun h=>⟨h.gd,h.sz,least_mono (by omega) _ h.l,h.ty⟩
    have hty:=ta.inn [] [] (by simp) hx.ty (by simp;omega) (by simp;omega)
    rw [List.append_nil] at hty
    have hms:=tg.innU [] [] (by simp) Dx (by simp;omega) (by simp;omega)
    rw [List.append_nil] at hms
    exact ih' N _ w' c' (L+1000000) (h1.inn hx.gd (least_mono (by omega) _ hx.l) (by
     exact fleast_mono (M:=L) (M':=536870912) (by omega) h1 la) 0 (by omega) (by omega)) (by rw [← esp,Fm.sp,fdp_evx];exact hfd) hAr (by omega) (fun e=>by omega) (by rw [ch_inn];exact ca) hty (by omega) (by omega) hl' (by rw [ch_inn];exact up hw') (by rw [ch_inn];exact up hc') hh hms (by rw [ch_inn];exact Dw) (by rw [ch_inn];exact Dc')
   rw [cc] at hw hc Dw Dc'
   rcases hk with rfl|rfl
   ·obtain ⟨c1,c2⟩:=hc.part (a:=s) (b:=a.ch.1.2) hL0 (by omega) hs.1 Ga.2.1
    have y3:=chPart_sz (k:=11) (a:=s) (b:=a.ch.1.2) (t:=c)
    have w1:=TmOk.call (a:=s) (b:=a.ch.1.1) hL0 hw c1 (by omega) Ga.1.1
    change (mAll (mOf N) s a w c).2=0 at h
    show FmTy TyG [] (mAll (mOf N) s a w c).1
    unfold mAll at h ⊢
    rw [ea] at h ⊢
    obtain ⟨p1,p2⟩:=chPart_tyQ (a:=s) (b:=a.ch.1.2) Ga.2.1 Dc' hs.1
    exact step _ _ _ c1 w1 c2 (by omega) h p1 (chCall_tyQ (a:=s) (b:=a.ch.1.1) Ga.1.1 Dw p1) p2
   ·obtain ⟨w1,w2⟩:=hw.part (a:=s) (b:=a.ch.1.1) hL0 (by omega) hs.1 Ga.1.1
    have y3:=chPart_sz (k:=11) (a:=s) (b:=a.ch.1.1) (t:=w)
    change (mEx (mOf N) s a w c).2=0 at h
    show FmTy TyG [] (mEx (mOf N) s a w c).1
    unfold mEx at h ⊢
    rw [ea] at h ⊢
    obtain ⟨p1,p2⟩:=chPart_tyQ (a:=s) (b:=a.ch.1.1) Ga.1.1 Dw hs.1
    exact step _ _ _ w1 w2 hc (by omega) h p1 p2 Dc'
theorem HasTy.weakQ {Q R:Ty→Prop} (hQ:∀ t,Q t→R t) {g:List Ty} {t:Tm} {s:Ty} (h:HasTy Q g t s):HasTy R g t s:=by
 have node:∀ {k:Int} {ty s:Ty} {ts:List Ty},NodeTy Q k ty ts s→NodeTy R k ty ts s:=by
  intro k ty s ts h
  cases h with
  | app=>exact .app
  | zero=>exact .zero
  | succ=>exact .succ
  | recr=>exact .recr
  | nil=>exact .nil
  | cons=>exact .cons
  | fold=>exact .fold
  | pair hq=>exact .pair (hQ _ hq)
  | fst=>exact .fst
  | snd=>exact .snd
  | unit=>exact .unit
 induction h with
 | var hi h=>exact .var hi h
 | lam hq _ ih=>exact .lam (hQ _ hq) ih
 | n0 hN=>exact .n0 (node hN)
 | n1 hN _ i1=>exact .n1 (node hN) i1
 | n2 hN _ _ i1 i2=>exact .n2 (node hN) i1 i2
 | n3 hN _ _ _ i1 i2 i3=>exact .n3 (node hN) i1 i2 i3
theorem FmTy.weakQ {Q R:Ty→Prop} (hQ:∀ t,Q t→R t) {g:List Ty} {f:Fm} (h:FmTy Q g f):FmTy R g f:=by
 induction h with
 | eq h1 h2=>exact .eq (h1.weakQ hQ) (h2.weakQ hQ)
 | two hk _ _ i1 i2=>exact .two hk i1 i2
 | q hk _ i1=>exact .q hk i1
theorem FmG.inv_two {u:Bool} {k:Int} {a b:Fm} (hG:FmG u (fmTwo k a b)):FmG u a∧FmG u b:=by
 generalize e:fmTwo k a b=f at hG
 cases hG with
 | two _ h1 h2 =>
  simp only [fmTwo,Fm.mk.injEq,List.cons.injEq] at e
  obtain ⟨_,_,_,rfl,rfl,_⟩:=e
  exact ⟨h1,h2⟩
 | _=>have:=congrArg (fun f=>f.args.length) e;simp [fmEq,fmTwo,fmQ,Fm.args] at this
theorem FmG.qf {f:Fm} (h:FmG false f):f.mfree=true→QF f:=by
 induction h with
 | eq _ _=>exact fun _=>.eq
 | @two k a b hk _ _ h1 h2 =>
  intro e
  rw [fmTwo,Fm.mfree,Fm.mfreeL_cons,Fm.mfreeL_cons,Fm.mfreeL_nil] at e
  simp only [Bool.and_eq_true,Bool.and_true] at e
  exact .two hk (h1 e.2.1) (h2 e.2.2)
 | @q k s a hk _ _ h1 =>
  intro e
  rw [fmQ,Fm.mfree] at e
  rcases hk with rfl|rfl|⟨h,_⟩
  ·simp at e
  ·simp at e
  ·cases h
theorem QF.dc {g:List Ty} {f:Fm} (h:FmTy TyG g f):QF f→FmG false f→Dc g f:=by
 induction h with
 | @eq g x y h1 h2 =>
  intro _ hG
  have:TmG x∧TmG y:=by
   generalize e:fmEq x y=f at hG
   cases hG with
   | eq h1 h2 =>
    simp only [fmEq,Fm.mk.injEq,List.cons.injEq] at e
    obtain ⟨_,_,⟨rfl,rfl,_⟩,_⟩:=e
    exact ⟨h1,h2⟩
   | _=>have:=congrArg (fun f=>f.args.length) e;simp [fmEq,fmTwo,fmQ,Fm.args] at this
  exact .eq this.1 this.2 h1 h2
 | @two g k a b hk h1 h2 i1 i2 =>
  intro hq hG
  have:QF a∧QF b:=by
   generalize e:fmTwo k a b=f at hq
   cases hq with
   | two _ h1 h2 =>
    simp only [fmTwo,Fm.mk.injEq,List.cons.injEq] at e
    obtain ⟨_,_,_,rfl,rfl,_⟩:=e
    exact ⟨h1,h2⟩
   | eq=>have:=congrArg (fun f=>f.args.length) e;simp [fmEq,fmTwo,fmQ,Fm.args] at this
  exact .two hk (i1 this.1 hG.inv_two.1) (i2 this.2 hG.inv_two.2)
 | @q g k s a hk h1 i1 =>
  intro hq _
  generalize e:fmQ k s a=f at hq
  cases hq with
  | _=>have:=congrArg (fun f=>f.args.length) e;simp [fmEq,fmTwo,fmQ,Fm.args] at this
structure Cl (t:Tm) (s:Ty):Prop where
 ty:HasTy TyG [] t s
 gd:TmG t
 sz:tmSz t≤4000
structure MatOk (f:Fm) (X:Fm):Prop where
 dc:Dc [] X
 qf:QF X
 sz:fmSz X≤4096
theorem mat_den {n:Nat} (hn:n≤3) {f:Fm} {w c:Tm} (hS:Shp n f) (h3:n=3→∀ k s a,f≠fmQ k s a) (hf:FmTy TyG [] f) (lf:f.least 10000=true) (zf:fmSz f≤8000) (ok:f.look.2=0)
  (hw:Cl w f.look.1.1) (hc:Cl c f.look.1.2):(matF f w c).2=4∨((matF f w c).2=0∧MatOk f (matF f w c).1 ∧
   ∀ {v q:U} {M:v.val→q.val→Prop} {dw:v.val} {dc:q.val},MS [] f v q M→Den [] w v dw→Den [] c q dc→FDen [] (matF f w c).1 (M dw dc)):=by
 have hG:FmG false f:=hS.G
 rcases hG.look with ⟨he,el,e0,g1,g2⟩|e4
 case inr=>rw [ok] at e4;cases e4
 have hsz:fmSz f≤4096:=by
  rcases Nat.lt_or_ge 4096 (fmSz f) with h|h
  ·exfalso
   rw [hG.err_val (by omega),if_neg (by omega)] at he
   cases he
  ·exact h
 rw [el] at hw hc
 have toF:∀ t,TyG t→TyF t:=fun _ h=>h.1
 have zw:=hw.sz
 have zc:=hc.sz
 have ow:TmOk 10000 [] w f.ch.1.1:=⟨hw.gd,by omega,hw.ty.least _ (by omega) (by simp;omega),hw.ty.weakQ toF⟩
 have oc:TmOk 10000 [] c f.ch.1.2:=⟨hc.gd,by omega,hc.ty.least _ (by omega) (by simp;omega),hc.ty.weakQ toF⟩
 rcases matF_code ok (fleast_mono (M:=10000) (by omega) hS lf) (least_mono (by omega) _ ow.l) (least_mono (by omega) _ oc.l) (hw.gd.err04 (by omega)) (hc.gd.err04 (by omega)) with h4|⟨h0,hq⟩
 ·exact .inl h4
 ·right
  refine ⟨h0,?_⟩
  rw [hq] at h0 ⊢
  have cor:n=3→Corner f w c:=fun e k s a ef=>absurd ef (h3 e k s a)
  have gd:=mOf_good n hn _ f [] w c 10000 hS (Nat.le_refl _) (argsOk_of hsz) (by omega) cor e0 (hf.weakQ toF) (by simp) (by omega) (by omega) lf ow oc h0
  have tg:=mOf_tyG n hn _ f w c 10000 hS (Nat.le_refl _) (argsOk_of hsz) (by omega) cor e0 (hf.weakQ toF) (by omega) (by omega) lf ow oc h0 hf hw.ty hc.ty
  refine ⟨⟨(gd.gd.qf gd.fr).dc tg gd.gd,gd.gd.qf gd.fr,gd.sz⟩,fun hM Dw Dc'=>?_⟩
  exact mOf_den n hn _ f w c 10000 hS (Nat.le_refl _) (argsOk_of hsz) (by omega) cor e0 (hf.weakQ toF) (by omega) (by omega) lf ow oc h0 hM Dw Dc'
def holdA (lim:Nat) (f:Fm) (w c:Tm):Ans:=if (matF f w c).2 != 0 then (false,0,(matF f w c).2) else dT lim (fdp (matF f w c).1) 0 (matF f w c).1
theorem MkFm.tyU {n:Nat} {g:List Ty} {f:Fm} (h:MkFm false n g f) (hg:∀ y∈g,MkTy 1 y):FmTy TyG g f:=by
 induction h with
 | eq h1 h2=>exact .eq (h1.ty (mk20 hg) nat20) (h2.ty (mk20 hg) nat20)
 | two hk _ _ h1 h2=>exact .two hk (h1 hg) (h2 hg)
 | q hk hs _ h1 =>
  simp only [Bool.false_eq_true,if_false] at hs
  exact .q (by rcases hk with h|h|⟨_,h|h⟩<;>simp [h]) (h1 (app_mk hg (hs.up (by omega))))
theorem Shp.up {n:Nat} {f:Fm} (h:Shp n f):∀ {m:Nat},n≤m→Shp m f:=by
 induction h with
 | eq h1 h2=>exact fun _=>.eq h1 h2
 | two hk _ _ i1 i2=>intro m hm;obtain ⟨m,rfl⟩:∃ k,m=k+1:=⟨m - 1,by omega⟩;exact .two hk (i1 (by omega)) (i2 (by omega))
 | q hk hs _ i1=>intro m hm;obtain ⟨m,rfl⟩:∃ k,m=k+1:=⟨m - 1,by omega⟩;exact .q hk hs (i1 (by omega))
structure Fm2 (f:Fm):Prop where
 shp:Shp 2 f
 ty:FmTy TyG [] f
 l:f.least 10000=true
 sz:fmSz f≤3000
theorem MkFm.two2 {n:Nat} (hn:n≤2) {f:Fm} (h:MkFm false n [] f):Fm2 f:=by
 refine ⟨(Shp.of h (by simp)).up hn,h.tyU (by simp),by simpa using h.least (m:=10000) (by omega) (by simp) (by simp;omega),?_⟩
 have hz:=h.sz (by simp)
 have:2 ^ n≤4:=by
  have:n=0∨n=1∨n=2:=by omega
  rcases this with rfl|rfl|rfl<;>decide
 omega
abbrev MatDen (f:Fm) (w c:Tm):Prop:=(matF f w c).2=4∨((matF f w c).2=0∧MatOk f (matF f w c).1 ∧
   ∀ {v q:U} {M:v.val→q.val→Prop} {dw:v.val} {dc:q.val},MS [] f v q M→Den [] w v dw→Den [] c q dc→FDen [] (matF f w c).1 (M dw dc))
theorem Fm2.both {k:Int} (hk:k=2∨k=3) {f g:Fm} (hf:Fm2 f) (hg:Fm2 g) {w c:Tm} (ok:(fmTwo k f g).look.2=0) (hw:Cl w (fmTwo k f g).look.1.1) (hc:Cl c (fmTwo k f g).look.1.2):MatDen (fmTwo k f g) w c :=
 mat_den (n:=3) (by omega) (f:=fmTwo k f g) (.two hk hf.shp hg.shp) (fun _ k' s a e=>by have:=congrArg (fun f=>f.args.length) e;simp [fmTwo,fmQ,Fm.args] at this)
  (.two hk hf.ty hg.ty) (fleast_two hf.l hg.l) (by rw [fmSz_two];have:=hf.sz;have:=hg.sz;omega) ok hw hc
theorem Fm2.one {f:Fm} (hf:Fm2 f) {w c:Tm} (ok:f.look.2=0) (hw:Cl w f.look.1.1) (hc:Cl c f.look.1.2):MatDen f w c :=
 mat_den (n:=2) (by omega) hf.shp (fun h=>by omega) hf.ty hf.l (by have:=hf.sz;omega) ok hw hc
theorem Cl.join {s t:Tm} {a b:Ty} (hs:Cl s a) (ht:Cl t b) (zs:tmSz s+tmSz t≤3000) (ha:TyF a) (hb:TyF b) (hq:TyG (chPair a b)):Cl (chJoin a b s t) (chPair a b):=by
 unfold chJoin chPair at *
 cases ka:(a.kind==5) with
 | true=>simp only [if_true];exact ht
 | false =>
  cases kb:(b.kind==5) with
  | true=>simp only [Bool.false_eq_true,if_false,if_true];exact hs
  | false =>
   rw [ka,kb] at hq
   simp only [Bool.false_eq_true,if_false] at hq ⊢
   exact ⟨.n2 (ty:=.mk 0 []) (.pair hq) hs.ty ht.ty,.t2 rfl rfl hs.gd ht.gd,by rw [tmSz_2];omega⟩
theorem Cl.call {f t:Tm} {a b:Ty} (hf:Cl f (chFun a b)) (ht:Cl t a) (zs:tmSz f+tmSz t≤3000) (hb:TyF b):Cl (chCall a b f t) b :=
 ⟨chCall_tyQ hb hf.ty ht.ty,chCall_G hf.gd ht.gd,by have:=chCall_sz (a:=a) (b:=b) (f:=f) (t:=t);omega⟩
theorem Fm2.look {f:Fm} (hf:Fm2 f) (ok:f.look.2=0):f.look=f.ch∧f.ch.2=0∧TyG f.look.1.1∧TyG f.look.1.2:=by
 rcases hf.shp.G.look with ⟨_,el,e0,g1,g2⟩|e4
 ·rw [el];exact ⟨rfl,e0,g1,g2⟩
 ·rw [ok] at e4;cases e4
theorem both_look {k:Int} (hk:k=2∨k=3) {f g:Fm} (hf:Fm2 f) (hg:Fm2 g):(fmTwo k f g).look.2=4∨((fmTwo k f g).look.2=0∧(fmTwo k f g).look=(fmTwo k f g).ch∧(fmTwo k f g).ch.2=0 ∧
  TyG (fmTwo k f g).look.1.1∧TyG (fmTwo k f g).look.1.2):=by
 rcases (FmG.two hk hf.shp.G hg.shp.G).look with ⟨_,el,e0,g1,g2⟩|e4
 ·right;rw [el];exact ⟨e0,rfl,e0,g1,g2⟩
 ·exact .inl e4
theorem Cl.den {t:Tm} {u:U} (h:Cl t u.ty):∃ d:u.val,Den [] t u d:=by
 obtain ⟨v,d,e,h1⟩:=h.ty.den EnvU.nil
 obtain rfl:=U.inj e
 exact ⟨d,h1⟩
def codes (e:Int):Prop:=e=0∨e=4∨e=5
theorem hold_ok {lim:Nat} {f:Fm} {w c:Tm} (h:MatDen f w c) :
  codes (holdA lim f w c).2.2∧∀ {v q:U} {M:v.val→q.val→Prop} {dw:v.val} {dc:q.val},MS [] f v q M→Den [] w v dw→Den [] c q dc→(holdA lim f w c).2.2=0→((holdA lim f w c).1=true↔M dw dc):=by
 unfold holdA
 rcases h with h4|⟨h0,hm,hd⟩
 ·rw [h4]
  exact ⟨.inr (.inl rfl),fun _ _ _ h=>by cases h⟩
 ·rw [h0]
  have hz:((0:Int) != 0)=false:=rfl
  simp only [hz,Bool.false_eq_true,if_false]
  refine ⟨(dT_code _ _ 0 (Nat.le_refl _) hm.dc hm.sz).2,fun hM Dw Dc' e=>?_⟩
  cases hA:dT lim (fdp (matF f w c).1) 0 (matF f w c).1 with|mk b r =>
  obtain ⟨k,e'⟩:=r
  rw [hA] at e
  simp only at e
  subst e
  exact dT_den hm.qf hm.dc hm.sz (hd hM Dw Dc') (Nat.le_refl _) hA
theorem hold_bad {lim:Nat} {f:Fm} {w c:Tm} (h:f.look.2=4):(holdA lim f w c).2.2=4:=by
 unfold holdA matF
 rw [h];rfl
theorem law_contestImp {lim:Nat} {f g:Fm} (hf:Fm2 f) (hg:Fm2 g) (of':f.look.2=0) (og:g.look.2=0) {fo ba s k:Tm}
  (q1:TyG (chFun f.look.1.1 g.look.1.1)) (q2:TyG (chFun f.look.1.1 (chFun g.look.1.2 f.look.1.2)))
  (hfo:Cl fo (chFun f.look.1.1 g.look.1.1)) (hba:Cl ba (chFun f.look.1.1 (chFun g.look.1.2 f.look.1.2))) (hs:Cl s f.look.1.1) (hk:Cl k g.look.1.2)
  (zf:tmSz fo≤700) (zb:tmSz ba≤700) (zs:tmSz s≤700) (zk:tmSz k≤700) :
  let x:=holdA lim (fmTwo 3 f g) (chJoin (chFun f.look.1.1 g.look.1.1) (chFun f.look.1.1 (chFun g.look.1.2 f.look.1.2)) fo ba) (chJoin f.look.1.1 g.look.1.2 s k)
  let y:=holdA lim f s (chCall g.look.1.2 f.look.1.2 (chCall f.look.1.1 (chFun g.look.1.2 f.look.1.2) ba s) k)
  let z:=holdA lim g (chCall f.look.1.1 g.look.1.1 fo s) k
  codes x.2.2∧codes y.2.2∧codes z.2.2∧(x.2.2=0→y.2.2=0→z.2.2=0→x.1=(!y.1||z.1)):=by
 intro x y z
 obtain ⟨lf,cf,f1,f2⟩:=hf.look of'
 obtain ⟨lg,cg,g1,g2⟩:=hg.look og
 have Fi:TyF (chFun g.look.1.2 f.look.1.2):=chFun_F g2.1 f2.1
 have k1:Cl (chCall f.look.1.1 (chFun g.look.1.2 f.look.1.2) ba s) (chFun g.look.1.2 f.look.1.2):=hba.call hs (by omega) Fi
 have y1':=chCall_sz (a:=f.look.1.1) (b:=chFun g.look.1.2 f.look.1.2) (f:=ba) (t:=s)
 have k2:Cl (chCall g.look.1.2 f.look.1.2 (chCall f.look.1.1 (chFun g.look.1.2 f.look.1.2) ba s) k) f.look.1.2:=k1.call hk (by omega) f2.1
 have k3:Cl (chCall f.look.1.1 g.look.1.1 fo s) g.look.1.1:=hfo.call hs (by omega) g1.1
 obtain ⟨y1,y2⟩:=hold_ok (lim:=lim) (hf.one of' hs k2)
 obtain ⟨z1,z2⟩:=hold_ok (lim:=lim) (hg.one og k3 hk)
 rcases both_look (.inr rfl) hf hg with h4|⟨o0,ob,cb,b1,b2⟩
 ·have e:=hold_bad (lim:=lim) (w:=chJoin (chFun f.look.1.1 g.look.1.1) (chFun f.look.1.1 (chFun g.look.1.2 f.look.1.2)) fo ba) (c:=chJoin f.look.1.1 g.look.1.2 s k) h4
  refine ⟨.inr (.inl e),y1,z1,fun e0=>?_⟩
  rw [show x.2.2=4 from e] at e0;cases e0
 ·have cc:=(ch_two_ok cb).2.2
  rw [ob,cc] at b1 b2
  rw [← lf,← lg] at b1 b2
  have jw:Cl (chJoin (chFun f.look.1.1 g.look.1.1) (chFun f.look.1.1 (chFun g.look.1.2 f.look.1.2)) fo ba) (fmTwo 3 f g).look.1.1:=by
   rw [ob,cc,← lf,← lg];exact hfo.join hba (by omega) q1.1 q2.1 b1
  have jc:Cl (chJoin f.look.1.1 g.look.1.2 s k) (fmTwo 3 f g).look.1.2:=by rw [ob,cc,← lf,← lg];exact hs.join hk (by omega) f1.1 g2.1 b2
  obtain ⟨x1,x2⟩:=hold_ok (lim:=lim) (Fm2.both (.inr rfl) hf hg o0 jw jc)
  refine ⟨x1,y1,z1,fun ex ey ez=>?_⟩
  obtain ⟨v,q,M,mf⟩:=hf.ty.ms hf.shp.G EnvU.nil
  obtain ⟨u,r,N,mg⟩:=hg.ty.ms hg.shp.G EnvU.nil
  have kf:=mf.ch cf
  have kg:=mg.ch cg
  rw [← lf] at kf
  rw [← lg] at kg
  rw [kf] at hs hba hfo
  rw [kg] at hk hba hfo
  simp only [← funU_ty] at hba hfo
  obtain ⟨ds,Ds⟩:=hs.den
  obtain ⟨dk,Dk⟩:=hk.den
  obtain ⟨df,Df⟩:=hfo.den
  obtain ⟨db,Db⟩:=hba.den
  have Dc1:Den [] (chCall g.look.1.2 f.look.1.2 (chCall f.look.1.1 (chFun g.look.1.2 f.look.1.2) ba s) k) q (callU (callU db ds) dk):=by
   rw [kf,kg];simp only [← funU_ty];exact Den.call (Den.call Db Ds) Dk
  have Dc2:Den [] (chCall f.look.1.1 g.look.1.1 fo s) u (callU df ds):=by rw [kf,kg];exact Den.call Df Ds
  have e1:=y2 mf Ds Dc1 ey
  have e2:=z2 mg Dc2 Dk ez
  have j1:Den [] (chJoin (chFun f.look.1.1 g.look.1.1) (chFun f.look.1.1 (chFun g.look.1.2 f.look.1.2)) fo ba) (pairU (funU v u) (funU v (funU r q))) (joinU df db):=by
   rw [kf,kg];simp only [← funU_ty];exact Df.join Db
  have j2:Den [] (chJoin f.look.1.1 g.look.1.2 s k) (pairU v r) (joinU ds dk):=by rw [kf,kg];exact Ds.join Dk
  have e3:=x2 (mf.imp mg) j1 j2 ex
  rw [left_join,right_join,left_join,right_join] at e3
  show x.1=(!y.1||z.1)
  have e4:=e3.trans (imp_congr e1.symm e2.symm)
  change x.1=true↔(y.1=true→z.1=true) at e4
  revert e4
  cases x.1<;>cases y.1<;>cases z.1<;>simp
def MatOk1 (f:Fm) (w c:Tm):Prop:=(matF f w c).2=0→Dc [] (matF f w c).1∧fmSz (matF f w c).1≤4096
theorem matDen_ok {f:Fm} {w c:Tm} (h:MatDen f w c):MatOk1 f w c:=fun e=>by
 rcases h with h4|⟨_,hm,_⟩
 ·rw [h4] at e;cases e
 ·exact ⟨hm.dc,hm.sz⟩
theorem matBad_ok {f:Fm} {w c:Tm} (h:f.look.2=4):MatOk1 f w c:=fun e=>by
 unfold matF at e
 rw [h] at e;cases e
theorem imp_ok {f g:Fm} (hf:Fm2 f) (hg:Fm2 g) (of':f.look.2=0) (og:g.look.2=0) {fo ba s k:Tm}
  (q1:TyG (chFun f.look.1.1 g.look.1.1)) (q2:TyG (chFun f.look.1.1 (chFun g.look.1.2 f.look.1.2)))
  (hfo:Cl fo (chFun f.look.1.1 g.look.1.1)) (hba:Cl ba (chFun f.look.1.1 (chFun g.look.1.2 f.look.1.2))) (hs:Cl s f.look.1.1) (hk:Cl k g.look.1.2)
  (zf:tmSz fo≤700) (zb:tmSz ba≤700) (zs:tmSz s≤700) (zk:tmSz k≤700) :
  MatOk1 (fmTwo 3 f g) (chJoin (chFun f.look.1.1 g.look.1.1) (chFun f.look.1.1 (chFun g.look.1.2 f.look.1.2)) fo ba) (chJoin f.look.1.1 g.look.1.2 s k) ∧
  MatOk1 f s (chCall g.look.1.2 f.look.1.2 (chCall f.look.1.1 (chFun g.look.1.2 f.look.1.2) ba s) k)∧MatOk1 g (chCall f.look.1.1 g.look.1.1 fo s) k:=by
 obtain ⟨lf,cf,f1,f2⟩:=hf.look of'
 obtain ⟨lg,cg,g1,g2⟩:=hg.look og
 have Fi:TyF (chFun g.look.1.2 f.look.1.2):=chFun_F g2.1 f2.1
 have k1:Cl (chCall f.look.1.1 (chFun g.look.1.2 f.look.1.2) ba s) (chFun g.look.1.2 f.look.1.2):=hba.call hs (by omega) Fi
 have y1':=chCall_sz (a:=f.look.1.1) (b:=chFun g.look.1.2 f.look.1.2) (f:=ba) (t:=s)
 have k2:Cl (chCall g.look.1.2 f.look.1.2 (chCall f.look.1.1 (chFun g.look.1.2 f.look.1.2) ba s) k) f.look.1.2:=k1.call hk (by omega) f2.1
 have k3:Cl (chCall f.look.1.1 g.look.1.1 fo s) g.look.1.1:=hfo.call hs (by omega) g1.1
 refine ⟨?_,matDen_ok (hf.one of' hs k2),matDen_ok (hg.one og k3 hk)⟩
 rcases both_look (.inr rfl) hf hg with h4|⟨o0,ob,cb,b1,b2⟩
 ·exact matBad_ok h4
 ·have cc:=(ch_two_ok cb).2.2
  rw [ob,cc] at b1 b2
  rw [← lf,← lg] at b1 b2
  have jw:Cl (chJoin (chFun f.look.1.1 g.look.1.1) (chFun f.look.1.1 (chFun g.look.1.2 f.look.1.2)) fo ba) (fmTwo 3 f g).look.1.1:=by
   rw [ob,cc,← lf,← lg];exact hfo.join hba (by omega) q1.1 q2.1 b1
  have jc:Cl (chJoin f.look.1.1 g.look.1.2 s k) (fmTwo 3 f g).look.1.2:=by rw [ob,cc,← lf,← lg];exact hs.join hk (by omega) f1.1 g2.1 b2
  exact matDen_ok (Fm2.both (.inr rfl) hf hg o0 jw jc)
theorem chJoin_W {a b:Ty} {s t:Tm} (hs:TmW s) (ht:TmW t):TmW (chJoin a b s t):=by
 unfold chJoin
 repeat' split
 all_goals first|exact hs|exact ht|exact tm0_W2 hs ht
end GoAbs
