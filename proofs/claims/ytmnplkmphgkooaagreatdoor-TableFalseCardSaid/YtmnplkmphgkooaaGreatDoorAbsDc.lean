/-
 The abstract layer: plain laws, further ones.
-/
import Derived.Test.YtmnplkmphgkooaaGreatDoorAbsDb
import Derived.Test.YtmnplkmphgkooaaGreatDoorAbsD
import Derived.Test.YtmnplkmphgkooaaGreatDoorAbsB
import Derived.LoopNIn
set_option linter.unusedSimpArgs false
set_option linter.unusedVariables false
set_option linter.unusedSectionVars false
namespace GoAbs
open Go
/- Content types. -/
def ctJoin (k:Int) (x y:Ty × Int):Ty × Int :=
 if x.2 != 0 then (tZero,x.2) else if y.2 != 0 then (tZero,y.2) else if tyErr (.mk k [x.1,y.1]) != 0 then (tZero,tyErr (.mk k [x.1,y.1])) else (.mk k [x.1,y.1],0)
def ctCase (k:Int) (t:Ty) (ps:List (Bool × (Ty × Int))):Ty × Int :=
 if k==2 then (if (ps.getD 0 (false,(tUnit,0))).1 then (if (ps.getD 1 (false,(tUnit,0))).1 then ctJoin 3 (ps.getD 0 (false,(tUnit,0))).2 (ps.getD 1 (false,(tUnit,0))).2 else (ps.getD 0 (false,(tUnit,0))).2) else (ps.getD 1 (false,(tUnit,0))).2)
 else if k==3 then (if (ps.getD 1 (false,(tUnit,0))).1 then (if (ps.getD 0 (false,(tUnit,0))).1 then ctJoin 4 (ps.getD 0 (false,(tUnit,0))).2 (ps.getD 1 (false,(tUnit,0))).2 else (ps.getD 1 (false,(tUnit,0))).2) else (tUnit,0))
 else if k==4 then (if (ps.getD 0 (false,(tUnit,0))).1 then ctJoin 4 (t,0) (ps.getD 0 (false,(tUnit,0))).2 else (tUnit,0))
 else if k==5 then (if (ps.getD 0 (false,(tUnit,0))).1 then ctJoin 3 (t,0) (ps.getD 0 (false,(tUnit,0))).2 else (t,0))
 else if k==1 then (tUnit,0) else (ps.getD 0 (false,(tUnit,0))).2
mutual
def Fm.ct:Fm→Ty × Int
 | .mk k t _ a=>ctCase k t (Fm.ctL a)
def Fm.ctL:List Fm→List (Bool × (Ty × Int))
 | []=>[]
 | f::l=>(f.fl.c,f.ct)::Fm.ctL l
end
def Fm.cty (f:Fm):Ty × Int:=if fmErr f != 0 then (tZero,fmErr f) else f.ct
def Fm.hc (f:Fm):Bool:=(f.has 1).1
/- realize. -/
def rlCall (t:Tm):Tm:=tm0 3 [t.sl 1 0,tmVar 0]
def rlPart (b:Bool) (k:Int) (t:Tm):Tm:=if b then tm0 k [t] else t
def rlBuild (k:Int) (s:Ty) (x:Fm × Int):Fm × Int:=if x.2 != 0 then (zeroF,x.2) else if decide ((fmQ k s x.1).szW>4096) then (zeroF,4) else (fmQ k s x.1,0)
def Fm.slf (f:Fm) (b:Int):Fm:=f.ev (fun t d=>t.sl b d) 0
mutual
def Fm.exs:Fm→Int
 | .mk k _ _ a=>Fm.exsL (if k==5 then 1 else 0) a
def Fm.exsL:Int→List Fm→Int
 | n,[]=>n
 | n,f::l=>Fm.exsL (addW n f.exs) l
end
theorem Fm.exs_eq (f:Fm):f.exs=Fm.exsL (if f.kind==5 then 1 else 0) f.args:=by cases f;rw [Fm.exs];rfl
theorem Fm.exsL_nil {n:Int}:Fm.exsL n []=n:=by rw [Fm.exsL]
theorem Fm.exsL_cons {n:Int} {f:Fm} {l:List Fm}:Fm.exsL n (f::l)=Fm.exsL (addW n f.exs) l:=by rw [Fm.exsL]
def rlAnd (r:Fm→Tm→Fm × Int) (a b:Fm) (t:Tm):Fm × Int:=mTwo 2 (r a (rlPart (a.hc&&b.hc) 11 t)) (r b (rlPart (a.hc&&b.hc) 12 t))
def rlUp (b:Bool) (t:Tm):Tm:=if b then rlCall t else t.sl 1 0
def rlImp (r:Fm→Tm→Fm × Int) (a b:Fm) (t:Tm):Fm × Int :=
 if !a.hc then mTwo 3 (r a t) (r b t) else if a.cty.2 != 0 then (zeroF,a.cty.2)
 else rlBuild 4 a.cty.1 (mTwo 3 (r (a.slf 1) (tmVar 0)) (r (b.slf 1) (rlUp b.hc t)))
def rlQ (r:Fm→Tm→Fm × Int) (k:Int) (s:Ty) (a:Fm) (t:Tm):Fm × Int:=rlBuild (if k==6 then 4 else k) s (r a (rlUp (k==4&&a.hc) t))
def rlEx (r:Fm→Tm→Fm × Int) (a:Fm) (t:Tm):Fm × Int :=
 if decide ((rlPart a.hc 11 t).szW>4096)||decide (subW (a.grown (rlPart a.hc 11 t)) a.exs>4096) then (zeroF,4) else r (a.sp (rlPart a.hc 11 t)) (rlPart a.hc 12 t)
def rlOf:Nat→Fm→Tm→Fm × Int
 | 0,_,_=>(zeroF,4)
 | n+1,f,t =>
  if decide (t.szW>4096) then (zeroF,4)
  else if f.kind==2 then rlAnd (rlOf n) (f.args.getD 0 zeroF) (f.args.getD 1 zeroF) t
  else if f.kind==3 then rlImp (rlOf n) (f.args.getD 0 zeroF) (f.args.getD 1 zeroF) t
  else if f.kind==4||f.kind==6||f.kind==7 then rlQ (rlOf n) f.kind f.type (f.args.getD 0 zeroF) t
  else if f.kind==5 then rlEx (rlOf n) (f.args.getD 0 zeroF) t
  else (f,0)
def rlF (f:Fm) (t:Tm):Fm × Int :=
 if fmErr f != 0 then (zeroF,fmErr f) else if tmErr t != 0 then (zeroF,tmErr t)
 else if f.far||!t.least 268435456 then (zeroF,1) else rlOf (fdp f) f (if f.hc then t else tm0 13 [])
theorem FmG.qk {u:Bool} {k:Int} (hk:k=4∨k=5∨(u=true∧(k=6∨k=7))):k=4∨k=5∨k=6∨k=7:=by
 rcases hk with h|h|⟨_,h|h⟩<;>simp [h]
theorem below_q {k:Int} (hk:k=4∨k=5∨k=6∨k=7):fmBelow k=1:=by rcases hk with rfl|rfl|rfl|rfl<;>rfl
theorem fdp_q {k:Int} {t:Ty} {a:Fm}:fdp (fmQ k t a)=fdp a+1:=by simp [fmQ,fdp,fdpL]
/- Existential quantifiers are counted. -/
theorem ctJoin_G {k:Int} (hk:k=3∨k=4) {x y:Ty × Int} (hx:(x.2=0∧TyG x.1)∨x.2=4) (hy:(y.2=0∧TyG y.1)∨y.2=4) :
  ((ctJoin k x y).2=0∧TyG (ctJoin k x y).1∧x.2=0∧y.2=0∧(ctJoin k x y).1=.mk k [x.1,y.1])∨(ctJoin k x y).2=4:=by
 unfold ctJoin
 rcases hx with ⟨ex,gx⟩|ex
 case inr=>rw [ex];right;rfl
 rcases hy with ⟨ey,gy⟩|ey
 case inr=>rw [ex,ey];right;rfl
 have hF:TyF (.mk k [x.1,y.1]):=by
  rcases hk with rfl|rfl
  ·exact .pair gx.1 gy.1
  ·exact .func gx.1 gy.1
 have hs:tySz (.mk k [x.1,y.1])=tySz x.1+tySz y.1+1:=by
  rcases hk with rfl|rfl
  ·exact tySz_pair
  ·exact tySz_fun
 have z1:=gx.2
 have z2:=gy.2
 have he:=hF.err (by omega)
 rw [ex,ey]
 by_cases h64:tySz (.mk k [x.1,y.1])≤64
 ·rw [if_pos h64] at he
  rw [he]
  exact .inl ⟨rfl,⟨hF,h64⟩,rfl,rfl,rfl⟩
 ·rw [if_neg h64] at he
  rw [he]
  right;rfl
structure TmR (L:Int) (t:Tm):Prop where
 gd:TmG t
 sz:tmSz t≤20000
 l:t.least L=true
theorem hc_c {u:Bool} {f:Fm} (h:FmG u f) (hz:fmSz f≤4096):f.hc=f.fl.c:=by
 unfold Fm.hc;rw [h.has hz 1];rfl
theorem rlOf_else {n:Nat} {f:Fm} {t:Tm} (h:¬ t.szW>4096):rlOf (n+1) f t=if f.kind==2 then rlAnd (rlOf n) (f.args.getD 0 zeroF) (f.args.getD 1 zeroF) t
  else if f.kind==3 then rlImp (rlOf n) (f.args.getD 0 zeroF) (f.args.getD 1 zeroF) t
  else if f.kind==4||f.kind==6||f.kind==7 then rlQ (rlOf n) f.kind f.type (f.args.getD 0 zeroF) t
  else if f.kind==5 then rlEx (rlOf n) (f.args.getD 0 zeroF) t
  else (f,0):=by rw [rlOf,decide_eq_false h];rfl
theorem mk_term {n:Nat} {g:List Ty} {s:Ty} {t:Tm} (hn:n≤2) (hg:∀ y∈g,MkTy 1 y) (hgl:g.length≤10) (hs:TyG s) (zs:tySz s≤15) (mt:MkTm n g s t):TmR 10000 t∧tmSz t≤565∧HasTy TyG g t s:=by
 have hgG:∀ y∈g,TyG y:=fun y hy=>(hg y hy).G (by omega)
 have hg3:∀ y∈g,tySz y≤15:=fun y hy=>by have:=(hg y hy).sz1;omega
 have b2:∀ n,n≤2→bndT 15 n≤565:=fun n h=>by
  match n,h with
  | 0,_=>decide
  | 1,_=>decide
  | 2,_=>decide
 have zt:=(mt.sz (M:=15) (by omega) hg3 zs).1
 have:=b2 n hn
 have lt:=mt.least (M:=15) (m:=10000) (by omega) (by omega) hg3 zs (by omega)
 exact ⟨⟨mt.G hgG hs,by omega,by simpa using lt⟩,by omega,mt.ty (mk20 hg) ⟨hs.1,by omega⟩⟩
inductive FmC:Fm→Prop
 | eq {t:Ty} {l:List Tm}:FmC (.mk 1 t l [])
 | two {k:Int} {t:Ty} {l:List Tm} {a b:Fm} (hk:k=2∨k=3):FmC a→FmC b→FmC (.mk k t l [a,b])
 | q {k:Int} {s:Ty} {l:List Tm} {a:Fm} (hk:k=4∨k=5∨k=6∨k=7) (hs:TyG s):FmC a→FmC (.mk k s l [a])
theorem FmG.C {u:Bool} {f:Fm} (h:FmG u f):FmC f:=by
 induction h with
 | eq _ _=>exact .eq
 | two hk _ _ h1 h2=>exact .two hk h1 h2
 | q hk hs _ h1=>exact .q (FmG.qk hk) hs h1
theorem FmC.ev {F:Tm→Int→Tm} {f:Fm} (h:FmC f):∀ b:Int,FmC (f.ev F b):=by
 induction h with
 | eq=>intro b;rw [Fm.ev_eq];exact .eq
 | two hk _ _ h1 h2=>intro b;rw [Fm.ev_eq];exact .two hk (h1 _) (h2 _)
 | q hk hs _ h1=>intro b;rw [Fm.ev_eq];exact .q hk hs (h1 _)
theorem FmC.arg {f x:Fm} (h:FmC f) (hx:x∈f.args):FmC x:=by
 cases h with
 | eq=>simp [Fm.args] at hx
 | two _ ha hb=>simp [Fm.args] at hx;rcases hx with rfl|rfl<;>assumption
 | q _ _ ha=>simp [Fm.args] at hx;subst hx;exact ha
theorem ctk_1 {t:Ty} {l:List Tm}:(Fm.mk 1 t l []).ct=(tUnit,0)∧(Fm.mk 1 t l []).fl.c=false:=⟨rfl,by rw [Fm.fl_1 rfl]⟩
theorem ctk_2 {t:Ty} {l:List Tm} {a b:Fm}:(Fm.mk 2 t l [a,b]).ct=(if a.fl.c then (if b.fl.c then ctJoin 3 a.ct b.ct else a.ct) else b.ct)∧(Fm.mk 2 t l [a,b]).fl.c=(b.fl.c||a.fl.c) :=
 ⟨by rw [Fm.ct,Fm.ctL,Fm.ctL,Fm.ctL];rfl,by rw [Fm.fl_2 (f:=.mk 2 t l [a,b]) (.inl rfl) rfl];rfl⟩
theorem ctk_3 {t:Ty} {l:List Tm} {a b:Fm}:(Fm.mk 3 t l [a,b]).ct=(if b.fl.c then (if a.fl.c then ctJoin 4 a.ct b.ct else b.ct) else (tUnit,0))∧(Fm.mk 3 t l [a,b]).fl.c=b.fl.c :=
 ⟨by rw [Fm.ct,Fm.ctL,Fm.ctL,Fm.ctL];rfl,by rw [Fm.fl_2 (f:=.mk 3 t l [a,b]) (.inr rfl) rfl];show (b.fl.c||false)=_;rw [Bool.or_false]⟩
theorem ctk_4 {s:Ty} {l:List Tm} {a:Fm}:(Fm.mk 4 s l [a]).ct=(if a.fl.c then ctJoin 4 (s,0) a.ct else (tUnit,0))∧(Fm.mk 4 s l [a]).fl.c=a.fl.c :=
 ⟨by rw [Fm.ct,Fm.ctL,Fm.ctL];rfl,by rw [Fm.fl_q (f:=.mk 4 s l [a]) (by simp [Fm.kind]) rfl];show (a.fl.c||false)=_;rw [Bool.or_false]⟩
theorem ctk_5 {s:Ty} {l:List Tm} {a:Fm}:(Fm.mk 5 s l [a]).ct=(if a.fl.c then ctJoin 3 (s,0) a.ct else (s,0))∧(Fm.mk 5 s l [a]).fl.c=true :=
 ⟨by rw [Fm.ct,Fm.ctL,Fm.ctL];rfl,by rw [Fm.fl_q (f:=.mk 5 s l [a]) (by simp [Fm.kind]) rfl];show (a.fl.c||true)=_;rw [Bool.or_true]⟩
theorem ctk_67 {k:Int} (hk:k=6∨k=7) {s:Ty} {l:List Tm} {a:Fm}:(Fm.mk k s l [a]).ct=a.ct∧(Fm.mk k s l [a]).fl.c=a.fl.c:=by
 rcases hk with rfl|rfl
 ·exact ⟨by rw [Fm.ct,Fm.ctL,Fm.ctL];rfl,by rw [Fm.fl_q (f:=.mk 6 s l [a]) (by simp [Fm.kind]) rfl];show (a.fl.c||false)=_;rw [Bool.or_false]⟩
 ·exact ⟨by rw [Fm.ct,Fm.ctL,Fm.ctL];rfl,by rw [Fm.fl_q (f:=.mk 7 s l [a]) (by simp [Fm.kind]) rfl];show (a.fl.c||false)=_;rw [Bool.or_false]⟩
def CtOk (p:Ty × Int):Prop:=(p.2=0∧TyG p.1)∨p=(tZero,4)
theorem ctJoin_ok {k:Int} (hk:k=3∨k=4) {x y:Ty × Int} (hx:CtOk x) (hy:CtOk y):CtOk (ctJoin k x y):=by
 rcases hx with ⟨ex,gx⟩|rfl
 case inr=>exact .inr rfl
 rcases hy with ⟨ey,gy⟩|rfl
 case inr=>unfold ctJoin;rw [ex];exact .inr rfl
 rcases ctJoin_G hk (.inl ⟨ex,gx⟩) (.inl ⟨ey,gy⟩) with ⟨h1,h2,_⟩|h4
 ·exact .inl ⟨h1,h2⟩
 ·right
  unfold ctJoin at h4 ⊢
  rw [ex,ey] at h4 ⊢
  have n0:((0:Int) != 0)=false:=rfl
  rw [n0] at h4 ⊢
  simp only [Bool.false_eq_true,if_false] at h4 ⊢
  split at h4
  ·rename_i h;rw [if_pos h];simp only at h4;rw [h4]
  ·cases h4
theorem FmC.ok {f:Fm} (h:FmC f):CtOk f.ct∧(f.fl.c=false→f.ct=(tUnit,0)):=by
 induction h with
 | eq=>exact ⟨.inl ⟨by rw [ctk_1.1],by rw [ctk_1.1];exact TyG.unit⟩,fun _=>ctk_1.1⟩
 | @two k t l a b hk _ _ h1 h2 =>
  rcases hk with rfl|rfl
  ·rw [ctk_2.1,ctk_2.2]
   cases ha:a.fl.c<;>cases hb:b.fl.c<;>simp only [Bool.or_false,Bool.or_true,Bool.or_self,if_true,Bool.false_eq_true,if_false,false_implies,and_true,true_implies]
   ·exact ⟨h2.1,h2.2 hb⟩
   ·exact ⟨h2.1,fun h=>by cases h⟩
   ·exact ⟨h1.1,fun h=>by cases h⟩
   ·exact ⟨ctJoin_ok (.inl rfl) h1.1 h2.1,fun h=>by cases h⟩
  ·rw [ctk_3.1,ctk_3.2]
   cases ha:a.fl.c<;>cases hb:b.fl.c<;>simp only [if_true,Bool.false_eq_true,if_false]
   ·exact ⟨.inl ⟨rfl,TyG.unit⟩,fun _=>trivial⟩
   ·exact ⟨h2.1,fun h=>by cases h⟩
   ·exact ⟨.inl ⟨rfl,TyG.unit⟩,fun _=>trivial⟩
   ·exact ⟨ctJoin_ok (.inr rfl) h1.1 h2.1,fun h=>by cases h⟩
 | @q k s l a hk hs _ h1 =>
  rcases hk with rfl|rfl|hk
  ·rw [ctk_4.1,ctk_4.2]
   cases ha:a.fl.c<;>simp only [if_true,Bool.false_eq_true,if_false]
   ·exact ⟨.inl ⟨rfl,TyG.unit⟩,fun _=>trivial⟩
   ·exact ⟨ctJoin_ok (.inr rfl) (.inl ⟨rfl,hs⟩) h1.1,fun h=>by cases h⟩
  ·rw [ctk_5.1,ctk_5.2]
   refine ⟨?_,fun h=>by cases h⟩
   cases ha:a.fl.c<;>simp only [if_true,Bool.false_eq_true,if_false]
   ·exact .inl ⟨rfl,hs⟩
   ·exact ctJoin_ok (.inl rfl) (.inl ⟨rfl,hs⟩) h1.1
  ·rw [(ctk_67 hk).1,(ctk_67 hk).2];exact h1
def CtR (f:Fm) (v:V):Prop :=
 (f.ct.2=0∧v=.tup [.agg (if f.fl.c then f.ct.1 else tZero).cells,.bool f.fl.c,.int .i64 0])∨(f.ct=(tZero,4)∧∃ (x:Ty) (b:Bool),TyW x∧v=.tup [.agg x.cells,.bool b,.int .i64 4])
theorem tZero_cells:tZero.cells=[.int .i64 0,.sl .any []]:=rfl
theorem mk_T {k:Int} {a b:Ty}:(Ty.mk k [a,b]).cells=[.int .i64 k,.sl .any [a.cells,b.cells]]:=by simp [Ty.mk_cells]
mutual
def Fm.rv (F:Tm→Int→Tm):Fm→Int→Fm
 | .mk k t l a,b=>.mk k t (l.map fun x=>F x b) (Fm.rvL F a (evB k b))
def Fm.rvL (F:Tm→Int→Tm):List Fm→Int→List Fm
 | [],_=>[]
 | t::l,b=>t.rv F b::Fm.rvL F l b
end
theorem Fm.rvL_map {F:Tm→Int→Tm}:∀ (l:List Fm) (b:Int),Fm.rvL F l b=l.map fun t=>t.rv F b
 | [],b=>by simp [Fm.rvL]
 | t::l,b=>by simp [Fm.rvL,Fm.rvL_map l b]
theorem Fm.rv_eq (F:Tm→Int→Tm) (f:Fm) (b:Int):f.rv F b=.mk f.kind f.type (f.terms.map fun x=>F x b) (f.args.map fun x=>x.rv F (evB f.kind b)):=by
 cases f;rw [Fm.rv,Fm.rvL_map];rfl
/- The context of a sequent, and the places of its hypotheses. -/
mutual
def Fm.sm (F:Tm→Int→Int):Fm→Int→Int→Int
 | .mk k _ l a,b,n=>Fm.smL F a (evB k b) (l.foldl (fun n t=>addW n (F t b)) n)
def Fm.smL (F:Tm→Int→Int):List Fm→Int→Int→Int
 | [],_,n=>n
 | f::l,b,n=>Fm.smL F l b (f.sm F b n)
end
theorem Fm.smL_fold {F:Tm→Int→Int}:∀ (l:List Fm) (b n:Int),Fm.smL F l b n=l.foldl (fun n f=>f.sm F b n) n
 | [],b,n=>by simp [Fm.smL]
 | t::l,b,n=>by simp [Fm.smL,Fm.smL_fold l b]
theorem Fm.sm_eq (F:Tm→Int→Int) (f:Fm) (b n:Int):f.sm F b n=f.args.foldl (fun n x=>x.sm F (evB f.kind b) n) (f.terms.foldl (fun n t=>addW n (F t b)) n):=by
 cases f;rw [Fm.sm,Fm.smL_fold];rfl
theorem foldl_take_succ {α:Type} {g:Int→α→Int} {l:List α} {i:Nat} {x:α} (h:l[i]? = some x) (n:Int):(l.take (i+1)).foldl g n=g ((l.take i).foldl g n) x:=by
 rw [List.take_add_one,h];simp
theorem TmG.rb_put {s:Tm} (hs:TmG s) (zs:tmSz s≤5000) (ls:s.least 536870912=true) {a:Int} (ha0:0≤a) (ha:a≤100000):∀ (n:Nat) {t:Tm},TmG t→tmSz t≤n→t.least 1000000000=true→∀ d:Int,0≤d→d+n≤100000 →
  t.rb (putG a s) d=tmInn s 0 t (a+d)
 | 0,t,h,hn,_,_,_,_=>by have:=tmSz_pos t;omega
 | n + 1,t,h,hn,hl,d,h0,hd=>by
  revert hn hl
  have e0:addW 0 (a+d)=a+d:=by rw [addW_eq (by omega) (by omega) (by omega) (by omega)];omega
  refine h.cases' (p:=fun t=>tmSz t≤n+1→t.least 1000000000=true→t.rb (putG a s) d=tmInn s 0 t (a+d)) ?_ ?_
  ·intro i hi _ hl
   have hi2:=var_j hl
   rw [tmVar,Tm.rb,tmInn,e0]
   simp only [beq_self_eq_true,if_true,putG]
   rw [subW_eq (by omega) (by omega) (by omega) (by omega),addW_eq (a:=a) (by omega) (by omega) (by omega) (by omega)]
   have e1:(i - d==a)=(i==a+d):=by
    by_cases h:i=a+d
    ·have h1:(i==a+d)=true:=by simpa using h
     rw [h1];simp;omega
    ·have h1:(i==a+d)=false:=by simpa using h
     rw [h1];simp;omega
   have e2:decide (i - d>a)=decide (i>a+d):=by
    by_cases h:i>a+d
    ·rw [decide_eq_true h,decide_eq_true (by omega)]
    ·rw [decide_eq_false h,decide_eq_false (by omega)]
   rw [e1,e2,tLift_up hs zs ls (by omega) (by omega) (by omega) (by omega)]
   rfl
  ·intro k ty l hk _ hg _ hn hl
   rw [tmSz] at hn
   rw [Tm.least,Bool.and_eq_true] at hl
   have hr:=tmBelow_range k
   have e:addW (a+d) (tmBelow k)=a+(d+tmBelow k):=by rw [addW_eq (by omega) (by omega) (by omega) (by omega)];omega
   rw [Tm.rb,Tm.rbL_map,tmInn,tmInnL_map,hk,e,below_eq h0 (by omega)]
   simp only [Bool.false_eq_true,if_false]
   congr 1
   refine List.map_congr_left fun y hy=>?_
   exact TmG.rb_put hs zs ls ha0 ha n (hg y hy) (by have:=tmSzL_mem hy;omega) (Tm.leastL_iff.1 hl.2 y hy) _ (by omega) (by omega)
theorem tPut_inn {s t:Tm} (hs:TmG s) (zs:tmSz s≤5000) (ls:s.least 536870912=true) (ht:TmG t) (zt:tmSz t≤5000) (lt:t.least 536870912=true) {a:Int} (ha0:0≤a) (ha:a≤50000):tPut t a s=tmInn s 0 t a:=by
 have:=TmG.rb_put hs zs ls ha0 (by omega:a≤100000) _ ht (Nat.le_refl _) (least_mono (by omega) _ lt) 0 (by omega) (by omega)
 rw [Int.add_zero] at this
 exact this
theorem rv_put {u:Bool} {s:Tm} (hs:TmG s) (zs:tmSz s≤5000) (ls:s.least 536870912=true) {f:Fm} (h:FmG u f):fmSz f≤5000→f.least 536870912=true→∀ d:Int,0≤d→d+fmSz f≤50000 →
  f.rv (fun t b=>tPut t (addW 0 b) s) d=fmInn s 0 f d:=by
 induction h with
 | @eq x y hx hy =>
  intro hz hl d h0 hd
  rw [fmSz_eq] at hd hz
  obtain ⟨l1,l2⟩:=fleast_eq.1 hl
  rw [fmInn_eqn,fmEq,Fm.rv_eq]
  simp only [Fm.kind,Fm.terms,Fm.args,Fm.type,List.map_cons,List.map_nil]
  rw [addW_z h0 (by omega),tPut_inn hs zs ls hx (by omega) l1 h0 (by omega),tPut_inn hs zs ls hy (by omega) l2 h0 (by omega)]
  rfl
 | @two k p q hk _ _ h1 h2 =>
  intro hz hl d h0 hd
  rw [fmSz_two] at hd hz
  obtain ⟨l1,l2⟩:=fleast_parts2 hl
  rw [fmInn_two,fmTwo,Fm.rv_eq]
  simp only [Fm.kind,Fm.terms,Fm.args,Fm.type,List.map_cons,List.map_nil]
  rw [evB_eq h0 (by omega),below_two hk,Int.add_zero,addW_zero h0 (by omega),h1 (by omega) l1 d h0 (by omega),h2 (by omega) l2 d h0 (by omega)]
  rfl
 | @q k t p hk hs' _ h1 =>
  intro hz hl d h0 hd
  rw [fmSz_q] at hd hz
  rw [fmInn_q,fmQ,Fm.rv_eq]
  simp only [Fm.kind,Fm.terms,Fm.args,Fm.type,List.map_cons,List.map_nil]
  rw [evB_eq h0 (by omega),below_q (FmG.qk hk),addW_eq (by omega) (by omega) (by omega) (by omega),h1 (by omega) (fleast_part hl) _ (by omega) (by omega)]
  rfl
theorem sm_occ {u:Bool} {f:Fm} (h:FmG u f):fmSz f≤5000→f.least 536870912=true→∀ (d:Int) (n:Nat),0≤d→d+fmSz f≤50000→n+fmSz f≤50000 →
  f.sm (fun t b=>t.count (addW 0 b)) d (n:Int)=((n+fmOcc f d:Nat):Int):=by
 induction h with
 | @eq x y hx hy =>
  intro hz hl d n h0 hd hn
  rw [fmSz_eq] at hd hz hn
  obtain ⟨l1,l2⟩:=fleast_eq.1 hl
  have o1:=tmOcc_le x d
  have o2:=tmOcc_le y d
  rw [Fm.sm_eq,fmOcc_eq,fmEq]
  simp only [Fm.kind,Fm.terms,Fm.args,List.foldl_cons,List.foldl_nil]
  rw [addW_z h0 (by omega),hx.count_occ (by omega) (least_mono (by omega) _ l1) h0 (by omega),hy.count_occ (by omega) (least_mono (by omega) _ l2) h0 (by omega),
   addW_eq (a:=(n:Int)) (by omega) (by omega) (by omega) (by omega),addW_eq (by omega) (by omega) (by omega) (by omega)]
  omega
 | @two k p q hk _ _ h1 h2 =>
  intro hz hl d n h0 hd hn
  rw [fmSz_two] at hd hz hn
  obtain ⟨l1,l2⟩:=fleast_parts2 hl
  have o1:=fmOcc_le p d
  rw [Fm.sm_eq,fmOcc_two hk,fmTwo]
  simp only [Fm.kind,Fm.terms,Fm.args,List.foldl_cons,List.foldl_nil]
  rw [evB_eq h0 (by omega),below_two hk,Int.add_zero,h1 (by omega) l1 d n h0 (by omega) (by omega),h2 (by omega) l2 d _ h0 (by omega) (by omega)]
  omega
 | @q k t p hk hs' _ h1 =>
  intro hz hl d n h0 hd hn
  rw [fmSz_q] at hd hz hn
  rw [Fm.sm_eq,fmOcc_q (FmG.qk hk),fmQ]
  simp only [Fm.kind,Fm.terms,Fm.args,List.foldl_cons,List.foldl_nil]
  rw [evB_eq h0 (by omega),below_q (FmG.qk hk),h1 (by omega) (fleast_part hl) _ n (by omega) (by omega) (by omega)]
theorem HasTy.least {g:List Ty} {t:Tm} {s:Ty} (h:HasTy TyG g t s):∀ M:Int,1≤M→(g.length:Int)+tmSz t≤M→t.least M=true:=by
 induction h with
 | var hi h=>intro M hM hb;rw [tmSz_v] at hb;exact least_v (by omega)
 | lam hG _ ih=>intro M hM hb;rw [tmSz_T1] at hb;exact least_T1 hM (ih M hM (by simp;omega))
 | n0 hN=>intro M hM hb;exact least_mk (by omega) (by simp)
 | n1 hN _ ih=>intro M hM hb;rw [tmSz_T1] at hb;exact least_T1 hM (ih M hM (by omega))
 | n2 hN _ _ ih1 ih2=>intro M hM hb;rw [tmSz_T2] at hb;exact least_mk (by omega) (by simp [ih1 M hM (by omega),ih2 M hM (by omega)])
 | n3 hN _ _ _ ih1 ih2 ih3=>intro M hM hb;rw [tmSz_T3] at hb;exact least_T3 hM (ih1 M hM (by omega)) (ih2 M hM (by omega)) (ih3 M hM (by omega))
theorem TmG.toW {t:Tm} (h:TmG t):TmW t:=by
 induction h with
 | @plain k l a ha hl ht _ ih =>
  refine tm0_W ?_ ih
  have:a≤3:=by
   unfold arity at ha
   split at ha
   ·cases ha
   ·rename_i hk
    have:k=1∨k=2∨k=3∨k=4∨k=5∨k=6∨k=7∨k=8∨k=9∨k=10∨k=11∨k=12∨k=13:=by omega
    rcases this with rfl|rfl|rfl|rfl|rfl|rfl|rfl|rfl|rfl|rfl|rfl|rfl|rfl<;>simp [arities] at ha<;>omega
  omega
 | var=>exact tmVar_W _
 | @typd k t l a ha hl ht hg _ ih =>
  have:a≤3:=by
   unfold arity at ha
   split at ha
   ·cases ha
   ·rename_i hk
    have:k=1∨k=2∨k=3∨k=4∨k=5∨k=6∨k=7∨k=8∨k=9∨k=10∨k=11∨k=12∨k=13:=by omega
    rcases this with rfl|rfl|rfl|rfl|rfl|rfl|rfl|rfl|rfl|rfl|rfl|rfl|rfl<;>simp [arities] at ha<;>omega
  exact .mk _ _ _ _ hg.1.W (by omega) ih
theorem FmG.toW {u:Bool} {f:Fm} (h:FmG u f):FmW f:=by
 induction h with
 | eq hx hy=>exact fmEq_W hx.toW hy.toW
 | two hk _ _ h1 h2=>exact .mk _ _ _ _ tZero_W (by simp) (by simp) (by simp) (by simp [h1,h2])
 | q hk hs _ h1=>exact .mk _ _ _ _ hs.1.W (by simp) (by simp) (by simp) (by simp [h1])
inductive Dc:List Ty→Fm→Prop
 | eq {g:List Ty} {x y:Tm}:TmG x→TmG y→HasTy TyG g x tNat→HasTy TyG g y tNat→Dc g (fmEq x y)
 | two {g:List Ty} {k:Int} {a b:Fm} (hk:k=2∨k=3):Dc g a→Dc g b→Dc g (fmTwo k a b)
 | bnd {g:List Ty} {all:Bool} {q:Tm} {a:Fm}:TmG q→HasTy TyG (g++[tNat]) q tNat→tmOcc q 0=0→Dc (g++[tNat]) a→Dc g (bndF all q a)
theorem Dc.G {u:Bool} {g:List Ty} {f:Fm} (h:Dc g f):FmG u f:=by
 induction h with
 | eq h1 h2 _ _=>exact .eq h1 h2
 | two hk _ _ h1 h2=>exact .two hk h1 h2
 | bnd hq _ _ _ h1=>exact bndF_G hq h1
theorem bnd_sz {all:Bool} {q:Tm} {a:Fm}:fmSz (bndF all q a)=tmSz q+fmSz a+24:=by
 rw [bndF_sz]
theorem Dc.ty {g:List Ty} {f:Fm} (h:Dc g f):FmTy TyG g f:=by
 induction h with
 | eq _ _ h1 h2=>exact .eq h1 h2
 | two hk _ _ h1 h2=>exact .two hk h1 h2
 | bnd _ hq _ _ h1=>exact bnd_ty' hq h1
theorem Dc.least {g:List Ty} {f:Fm} (h:Dc g f):(g.length:Int)+fmSz f≤100000→f.least 536870912=true:=by
 induction h with
 | eq _ _ h1 h2 =>
  intro hb
  rw [fmSz_eq] at hb
  exact fleast_eq.2 ⟨h1.least _ (by omega) (by omega),h2.least _ (by omega) (by omega)⟩
 | two hk _ _ h1 h2 =>
  intro hb
  rw [fmSz_two] at hb
  exact fleast_two (h1 (by omega)) (h2 (by omega))
 | @bnd g all q a _ hq _ _ h1 =>
  intro hb
  rw [bnd_sz] at hb
  have hl:q.least 536870912=true:=hq.least _ (by omega) (by simp;omega)
  have hless:(lessF (tmVar 0) q).least 536870912=true :=
   least_eqn (least_2 (by omega) (least_2 (by omega) (least_sub (by omega)) (least_1 (by omega) (least_v (by omega)))) hl) (least_0 (by omega))
  exact least_q (least_two hless (h1 (by simp;omega)))
theorem bnd_inn {s:Tm} {all:Bool} {q:Tm} {a:Fm} {d:Int} (hd:0≤d) (hd2:d≤100000) :
  fmInn s 0 (bndF all q a) d=bndF all (tmInn s 0 q (d+1)) (fmInn s 0 a (d+1)):=by
 have e0:addW (d+1) (tmBelow 3)=d+1:=addW_zero (by omega) (by omega)
 have hb:fmBelow (if all then 4 else 5)=1:=by cases all<;>rfl
 have hb2:fmBelow (if all then 3 else 2)=0:=by cases all<;>rfl
 unfold bndF lessF
 rw [fmInn_q,hb,addW_eq (by omega) (by omega) (by omega) (by omega),fmInn_two,hb2,addW_zero (by omega) (by omega),fmInn_eqn,inn_tm0 rfl,e0,inn_tm0 rfl]
 simp only [List.map_cons,List.map_nil]
 rw [inn_cl 19 _ (by rw [left_sz];omega) 1 (d+1) left_cl (by omega) (by omega) (by omega)]
theorem Dc.inn {s:Tm} (gs:TmG s) (ts:HasTy TyG [] s tNat) (zs:tmSz s≤4096) {g':List Ty} {f:Fm} (h:Dc g' f):∀ l:List Ty,g'=[tNat]++l→l.length+fmSz f≤10000→Dc l (fmInn s 0 f (l.length:Int)):=by
 have ls:s.least 536870912=true:=ts.least _ (by omega) (by simp;omega)
 induction h with
 | @eq g x y gx gy h1 h2 =>
  intro l e hb
  rw [fmSz_eq] at hb
  subst e
  rw [fmInn_eqn]
  have lx:x.least 536870912=true:=h1.least _ (by omega) (by simp;omega)
  have ly:y.least 536870912=true:=h2.least _ (by omega) (by simp;omega)
  exact .eq (TmG.inn gs ls _ gx (Nat.le_refl _) lx _ (by omega) (by omega)) (TmG.inn gs ls _ gy (Nat.le_refl _) ly _ (by omega) (by omega))
   (h1.inn [] l rfl ts (by omega) (by simp;omega)) (h2.inn [] l rfl ts (by omega) (by simp;omega))
 | @two g k a b hk _ _ ih1 ih2 =>
  intro l e hb
  rw [fmSz_two] at hb
  rw [fmInn_two,below_two hk,addW_zero (by omega) (by omega)]
  exact .two hk (ih1 l e (by omega)) (ih2 l e (by omega))
 | @bnd g all q a gq hq oq _ ih =>
  intro l e hb
  rw [bnd_sz] at hb
  subst e
  rw [bnd_inn (by omega) (by omega)]
  have lq:q.least 536870912=true:=hq.least _ (by omega) (by simp;omega)
  have e1:((l.length:Int)+1)=((l++[tNat]).length:Int):=by simp
  refine .bnd ?_ ?_ ?_ ?_
  ·exact TmG.inn gs ls _ gq (Nat.le_refl _) lq _ (by omega) (by omega)
  ·rw [e1];exact hq.inn [] (l++[tNat]) (by simp) ts (by simp;omega) (by simp;omega)
  ·rw [TmG.inn_occ gs (by omega) (least_mono (by omega) _ ls) _ gq (Nat.le_refl _) (least_mono (by omega) _ lq) _ 0 (by omega) (by omega) (by omega)];exact oq
  ·rw [e1];exact ih (l++[tNat]) (by simp) (by simp;omega)
def evN (m:Nat) (t:Tm):Nat × Nat × Bool:=match ev m (m+1) 0 t [] with|some (r,u,o)=>(r.num,u,o)|none=>(0,0,true)
theorem evN_at {m:Nat} {t:Tm} (ht:HasTy TyG [] t tNat):∃ r u o,ev m (m+1) 0 t []=some (r,u,o)∧evN m t=(r.num,u,o)∧u≤m:=by
 obtain ⟨r,u,o,h1,_,h3,_⟩:=ev_P (Q:=TyG) (most:=m) (m+1) 0 t [] [] tNat (by omega) (by omega) ht ⟨rfl,by simp⟩
 exact ⟨r,u,o,h1,by simp [evN,h1],h3⟩
theorem evN_le {m:Nat} {t:Tm} (ht:HasTy TyG [] t tNat) (wt:TmW t) (hm:m≤65536):(evN m t).2.1≤m∧((evN m t).2.2=false→(evN m t).1≤m):=by
 obtain ⟨r,u,o,h1,h2,h3⟩:=evN_at (m:=m) ht
 rw [h2]
 refine ⟨h3,fun ho=>?_⟩
 simp only at ho
 subst ho
 obtain ⟨_,_,h4⟩:=ev_W (K:=0) (by omega) (m+1) 0 0 t [] r u false h1 (by omega) (by omega) wt (by simp) (by simp)
 have:=(h4 rfl).2.n1
 omega
abbrev Ans:=Bool × Nat × Int
def putR (f:Fm) (s:Tm):Fm × Int:=if fmSz f+fmOcc f 0 * (tmSz s - 1)≤4096 then (fmInn s 0 f 0,0) else (zeroF,4)
def dN (lim w:Nat) (t:Tm):Nat × Nat × Int:=if (evN (lim - w) t).2.2 then (0,w,5) else ((evN (lim - w) t).1,w+(evN (lim - w) t).2.1,0)
def dW (D:Nat→Fm→Ans) (f:Fm) (k w:Nat):Ans :=
 if 4096≤k then (false,w,4) else if (putR f (numT k)).2 != 0 then (false,w,(putR f (numT k)).2) else D w (putR f (numT k)).1
def dB (D:Nat→Fm→Ans) (lim:Nat) (all:Bool) (f:Fm):Nat→Nat→Nat→Ans
 | 0,_,w=>(all,w,0)
 | n+1,k,w=>if lim≤w then (false,w,5) else
  if (dW D f k (w+1)).2.2 != 0||(dW D f k (w+1)).1 != all then dW D f k (w+1) else dB D lim all f n (k+1) (dW D f k (w+1)).2.1
def dE (lim w:Nat) (x y:Tm):Ans :=
 if (dN lim w x).2.2 != 0 then (false,(dN lim w x).2.1,(dN lim w x).2.2)
 else if (dN lim (dN lim w x).2.1 y).2.2 != 0 then (false,(dN lim (dN lim w x).2.1 y).2.1,(dN lim (dN lim w x).2.1 y).2.2)
 else ((dN lim w x).1==(dN lim (dN lim w x).2.1 y).1,(dN lim (dN lim w x).2.1 y).2.1,0)
def dT (lim:Nat):Nat→Nat→Fm→Ans
 | 0,w,_=>(false,w,0)
 | n+1,w,f =>
  if f.kind==1 then dE lim w (f.terms.getD 0 zeroT) (f.terms.getD 1 zeroT)
  else if f.kind==2 then (if (dT lim n w (fa f 0)).1 then dT lim n (dT lim n w (fa f 0)).2.1 (fa f 1) else dT lim n w (fa f 0))
  else if f.kind==3 then
   (if (dT lim n w (fa f 0)).2.2 != 0||!(dT lim n w (fa f 0)).1 then ((dT lim n w (fa f 0)).2.2==0,(dT lim n w (fa f 0)).2.1,(dT lim n w (fa f 0)).2.2) else dT lim n (dT lim n w (fa f 0)).2.1 (fa f 1))
  else if (dN lim w (tPut (bndTerm f) 0 zeroT)).2.2 != 0 then (false,(dN lim w (tPut (bndTerm f) 0 zeroT)).2.1,(dN lim w (tPut (bndTerm f) 0 zeroT)).2.2)
  else dB (fun w f=>dT lim n w f) lim (f.kind==4) (bndBody f) (dN lim w (tPut (bndTerm f) 0 zeroT)).1 0 (dN lim w (tPut (bndTerm f) 0 zeroT)).2.1
theorem dT_eq {lim n w:Nat} {x y:Tm}:dT lim (n+1) w (fmEq x y)=dE lim w x y:=rfl
theorem dT_and {lim n w:Nat} {a b:Fm}:dT lim (n+1) w (fmTwo 2 a b)=if (dT lim n w a).1 then dT lim n (dT lim n w a).2.1 b else dT lim n w a:=rfl
theorem dT_imp {lim n w:Nat} {a b:Fm}:dT lim (n+1) w (fmTwo 3 a b) =
  if (dT lim n w a).2.2 != 0||!(dT lim n w a).1 then ((dT lim n w a).2.2==0,(dT lim n w a).2.1,(dT lim n w a).2.2) else dT lim n (dT lim n w a).2.1 b:=rfl
theorem dT_bnd {lim n w:Nat} {all:Bool} {q:Tm} {a:Fm}:dT lim (n+1) w (bndF all q a) =
  if (dN lim w (tPut q 0 zeroT)).2.2 != 0 then (false,(dN lim w (tPut q 0 zeroT)).2.1,(dN lim w (tPut q 0 zeroT)).2.2)
  else dB (fun w f=>dT lim n w f) lim all a (dN lim w (tPut q 0 zeroT)).1 0 (dN lim w (tPut q 0 zeroT)).2.1:=by
 cases all<;>rfl
theorem fdp_bnd {all:Bool} {q:Tm} {a:Fm}:fdp (bndF all q a)=fdp a+2:=by
 have:=fdp_pos a
 unfold bndF
 rw [fdp_q,fdp_two,lessF,fdp_eqn];omega
theorem fdp_inn {s:Tm}:∀ (f:Fm) (d:Int),fdp (fmInn s 0 f d)=fdp f:=by
 intro f
 induction f using Fm.ind with|h f ih=>?_
 intro d
 obtain ⟨k,t,l,a⟩:=f
 rw [fmInn,fmInnL_map,fdp,fdp]
 congr 1
 have:∀ (l:List Fm) (d:Int),(∀ x∈l,∀ d,fdp (fmInn s 0 x d)=fdp x)→fdpL (l.map fun x=>fmInn s 0 x d)=fdpL l:=by
  intro l
  induction l with
  | nil=>intro d _;rfl
  | cons x l ih2=>intro d h;rw [List.map_cons,fdpL,fdpL,h x (by simp),ih2 d (fun y hy=>h y (by simp [hy]))]
 exact this a _ (fun x hx d=>ih x hx d)
theorem bnd_term {q:Tm} (gq:TmG q) (hq:HasTy TyG [tNat] q tNat) (oq:tmOcc q 0=0) (zq:tmSz q≤4096):TmG (tPut q 0 zeroT)∧HasTy TyG [] (tPut q 0 zeroT) tNat∧tmSz (tPut q 0 zeroT)=tmSz q:=by
 have g0:TmG (tm0 4 []):=.t0 ar4 rfl
 have lq:q.least 536870912=true:=hq.least _ (by omega) (by simp;omega)
 have key:∀ (n:Nat) {s s' t:Tm},TmG t→tmSz t≤n→∀ d:Int,0≤d→d+n≤100000→tmOcc t d=0→t.least 1000000000=true→t.rb (putG 0 s) d=t.rb (putG 0 s') d:=by
  intro n
  induction n with
  | zero=>intro s s' t _ hn;have:=tmSz_pos t;omega
  | succ n ih =>
   intro s s' t gt hn d h0 hd ho hl
   revert hn ho hl
   refine gt.cases' (p:=fun t=>tmSz t≤n+1→tmOcc t d=0→t.least 1000000000=true→t.rb (putG 0 s) d=t.rb (putG 0 s') d) ?_ ?_
   ·intro i hi _ ho hl
    have hi2:=var_j hl
    rw [tmVar,tmOcc] at ho
    simp only [beq_self_eq_true,if_true] at ho
    have hne:i≠d:=by intro e;subst e;simp at ho
    rw [tmVar,Tm.rb,Tm.rb]
    simp only [beq_self_eq_true,if_true,putG]
    rw [subW_eq (by omega) (by omega) (by omega) (by omega)]
    have:(i - d==0)=false:=by simp;omega
    rw [this];rfl
   ·intro k ty l hk _ hg _ hn ho hl
    rw [tmSz] at hn
    rw [Tm.least,Bool.and_eq_true] at hl
    rw [tmOcc,hk] at ho
    simp only [Bool.false_eq_true,if_false] at ho
    have hr:=tmBelow_range k
    rw [Tm.rb,Tm.rbL_map,Tm.rb,Tm.rbL_map,hk,below_eq h0 (by omega)]
    simp only [Bool.false_eq_true,if_false]
    congr 1
    refine List.map_congr_left fun y hy=>?_
    have hoy:tmOcc y (d+tmBelow k)=0:=by
     have:∀ {l:List Tm},y∈l→tmOccL l (d+tmBelow k)=0→tmOcc y (d+tmBelow k)=0:=by
      intro l
      induction l with
      | nil=>intro h;simp at h
      | cons z l ihl =>
       intro h h2
       rw [tmOccL] at h2
       rcases List.mem_cons.1 h with rfl|h
       ·omega
       ·exact ihl h (by omega)
     exact this hy ho
    exact ih (hg y hy) (by have:=tmSzL_mem hy;omega) _ (by omega) (by omega) hoy (Tm.leastL_iff.1 hl.2 y hy)
 have e:tPut q 0 zeroT=tmInn (tm0 4 []) 0 q 0:=by
  rw [← tPut_inn g0 (by simp [tm0,tmSz,tmSzL]) (least_0 (by omega)) gq (by omega) lq (by omega) (by omega)]
  exact key _ gq (Nat.le_refl _) 0 (by omega) (by omega) oq (least_mono (by omega) _ lq)
 rw [e]
 refine ⟨TmG.inn g0 (least_0 (by omega)) _ gq (Nat.le_refl _) lq 0 (by omega) (by omega),?_,?_⟩
 ·have:=hq.inn [] [] rfl (HasTy.num 0) (by simp;omega) (by simp [numT,tm0,tmSz,tmSzL])
  exact this
 ·rw [TmG.inn_sz _ gq (Nat.le_refl _) 0 (by omega) (by omega),oq];omega
theorem Dc.put {a:Fm} (h:Dc [tNat] a) (za:fmSz a≤4096) {k:Nat} (hk:k<4096) (hp:(putR a (numT k)).2=0):Dc [] (putR a (numT k)).1∧fmSz (putR a (numT k)).1≤4096∧fdp (putR a (numT k)).1=fdp a:=by
 have zk:tmSz (numT k)=k+1:=tmSz_num k
 unfold putR at hp ⊢
 split at hp
 ·rename_i hle
  rw [if_pos hle]
  refine ⟨h.inn (numT_G k) (HasTy.num k) (by omega) [] rfl (by simp;omega),?_,fdp_inn _ _⟩
  rw [(h.G (u:=true)).inn_sz 0 (by omega) (by omega)]
  exact hle
 ·simp at hp
theorem Dc.fld {g:List Ty} {f:Fm} (h:Dc g f):g.length+fmSz f≤50000→f.fl.d=true:=by
 induction h with
 | eq _ _ _ _=>intro _;rw [Fm.fl_eqn]
 | two hk _ _ h1 h2 =>
  intro hb
  rw [fmSz_two] at hb
  rw [Fm.fl_two hk,h1 (by omega),h2 (by omega)];rfl
 | @bnd g all q a gq tq oq _ h1 =>
  intro hb
  rw [bnd_sz] at hb
  rw [bndF_fl (by rw [gq.count_occ (by omega) (tq.least _ (by omega) (by simp;omega)) (by omega) (by omega),oq];rfl)]
  exact h1 (by simp;omega)
def EvM (m:Nat) (E F:Evl):Prop:=∀ u t e r u',u≤m→E u t e=some (r,u',false)→u≤u'∧u'≤m∧F u t e=some (r,u',false)
section
variable {m:Nat} {E F:Evl} (hM:EvM m E F)
include hM
end
def dA (lim:Nat) (f:Fm):Ans:=dT lim (fdp f) 0 f
section
variable {f g:Fm} (hf:Dc [] f) (hg:Dc [] g) (zf:fmSz f≤1000) (zg:fmSz g≤1000)
include hf hg zf zg
end
def hR (lim:Nat) (f:Fm) (k:Nat):Ans:=if (putR f (numT k)).2 != 0 then (false,0,(putR f (numT k)).2) else dA lim (putR f (numT k)).1
section
variable {all:Bool} {f:Fm} {n:Nat} (hf:Dc [tNat] f) (zf:fmSz f≤1000) (hn:n≤5)
include hf zf hn
end
abbrev AnsL:=Nat × Bool × Nat × Int
def leastL (D:Nat→Fm→Ans) (f:Fm):Nat→Nat→Nat→AnsL
 | 0,_,w=>(0,false,w,0)
 | n+1,k,w=>if (dW D f k w).2.2 != 0 then (0,false,0,(dW D f k w).2.2) else if (dW D f k w).1 then (k,true,(dW D f k w).2.1,0) else leastL D f n (k+1) (dW D f k w).2.1
inductive PVl where
 | mk (kind num:Int) (list:List Int) (args:List PVl)
def PVl.kind:PVl→Int | .mk k _ _ _=>k
def PVl.num:PVl→Int | .mk _ n _ _=>n
def PVl.list:PVl→List Int | .mk _ _ l _=>l
def PVl.args:PVl→List PVl | .mk _ _ _ a=>a
theorem PVl.ind {p:PVl→Prop} (h:∀ t,(∀ x∈t.args,p x)→p t):∀ t,p t:=by
 intro t
 refine PVl.rec (motive_1:=p) (motive_2:=fun l=>∀ x∈l,p x) (fun k n l a i1=>h _ i1) (by simp) (fun a l ha hl x hx=>?_) t
 rcases List.mem_cons.1 hx with rfl|hx
 ·exact ha
 ·exact hl x hx
mutual
def PVl.cells:PVl→List V
 | .mk k n l a=>[.int .i64 k,.int .i64 n,.sl .any (ints l),.sl .any (PVl.rows a)]
def PVl.rows:List PVl→List (List V)
 | []=>[]
 | r::l=>r.cells::PVl.rows l
end
theorem PVl.rows_eq:∀ l,PVl.rows l=l.map PVl.cells
 | []=>by simp [PVl.rows]
 | t::l=>by simp [PVl.rows,PVl.rows_eq l]
theorem PVl.cells_eq (t:PVl):t.cells=[.int .i64 t.kind,.int .i64 t.num,.sl .any (ints t.list),.sl .any (t.args.map PVl.cells)]:=by
 cases t;simp [PVl.cells,PVl.rows_eq,PVl.kind,PVl.num,PVl.list,PVl.args]
section
variable (t:PVl)
theorem PVl.cells_len:t.cells.length=4:=by rw [PVl.cells_eq];rfl
theorem PVl.cells_0:t.cells[0]? = some (.int .i64 t.kind):=by rw [PVl.cells_eq];rfl
theorem PVl.cells_1:t.cells[1]? = some (.int .i64 t.num):=by rw [PVl.cells_eq];rfl
theorem PVl.cells_2:t.cells[2]? = some (.sl .any (ints t.list)):=by rw [PVl.cells_eq];rfl
theorem PVl.cells_3:t.cells[3]? = some (.sl .any (t.args.map PVl.cells)):=by rw [PVl.cells_eq];rfl
theorem PVl.cells_take:List.take 4 t.cells=t.cells:=List.take_of_length_le (by rw [PVl.cells_len];exact Nat.le_refl _)
theorem PVl.cells_one:t.cells.all oneV=true:=by rw [PVl.cells_eq];rfl
end
theorem splice_PVl {cs:List V} {t:PVl} (h:cs.length=4):splice cs 0 t.cells=t.cells:=splice_full (by rw [h,PVl.cells_len])
theorem weakL_PVl:∀ t:PVl,weakL t.cells=t.cells:=by
 intro t
 induction t using PVl.ind with
 | h t i1 =>
  rw [PVl.cells_eq]
  have e1:weakLL (t.args.map PVl.cells)=t.args.map PVl.cells:=by
   rw [weakLL_eq,List.map_map];exact List.map_congr_left fun x hx=>i1 x hx
  simp only [weakL,weak,weakLL_ints,e1]
theorem weakLL_PVl (l:List PVl):weakLL (l.map PVl.cells)=l.map PVl.cells:=by
 rw [weakLL_eq,List.map_map];exact List.map_congr_left fun x _=>weakL_PVl x
section
variable {S:Id→Prop}
theorem InL_PVl:∀ t:PVl,InL S t.cells:=by
 intro t
 induction t using PVl.ind with
 | h t i1 =>
  rw [PVl.cells_eq]
  have e1:InLL S (t.args.map PVl.cells):=by
   rw [InLL_mem];intro l hl;obtain ⟨x,hx,rfl⟩:=List.mem_map.1 hl;exact i1 x hx
  simp only [InL,InV,capIn,true_and,and_true,InLL_ints,e1]
theorem InLL_PVl (l:List PVl):InLL S (l.map PVl.cells):=by
 rw [InLL_mem];intro x hx;obtain ⟨y,_,rfl⟩:=List.mem_map.1 hx;exact InL_PVl y
end
theorem all_len_PVl (l:List PVl):(l.map PVl.cells).all (fun e=>e.length==4)=true:=by simp [PVl.cells_len]
theorem all_one_PVl (l:List PVl):(l.map PVl.cells).flatten.all oneV=true:=by
 rw [List.all_eq_true];intro v hv
 obtain ⟨c,hc,hv⟩:=List.mem_flatten.1 hv
 obtain ⟨x,_,rfl⟩:=List.mem_map.1 hc
 exact List.all_eq_true.1 (PVl.cells_one x) v hv
theorem PVl.mk_cells (k n:Int) (l:List Int) (a:List PVl):(PVl.mk k n l a).cells=[.int .i64 k,.int .i64 n,.sl .any (ints l),.sl .any (a.map PVl.cells)]:=PVl.cells_eq _
attribute [go_sem] InL_PVl InLL_PVl
attribute [go_sem] PVl.cells_len PVl.cells_0 PVl.cells_1 PVl.cells_2 PVl.cells_3 PVl.cells_take PVl.cells_one splice_PVl weakL_PVl weakLL_PVl all_len_PVl all_one_PVl
def listT:List Nat→Tm
 | []=>tm0 7 []
 | n::l=>tm0 8 [numT n,listT l]
inductive IsVl:Ty→PVl→Tm→Prop
 | num (n:Nat):IsVl tNat (.mk 1 n [] []) (numT n)
 | list (l:List Nat):IsVl tList (.mk 2 0 (l.map fun (n:Nat)=>(n:Int)) []) (listT l)
 | unit:IsVl tUnit (.mk 4 0 [] []) (tm0 13 [])
 | pair {a b:Ty} {x y:PVl} {s t:Tm}:IsVl a x s→IsVl b y t→IsVl (tPair a b) (.mk 3 0 [] [x,y]) (tm0 10 [s,t])
theorem num_cl {m:Int}:∀ n,tmCl (numT n) m=true
 | 0=>by simp [numT,tm0,tmCl,tmClL]
 | n+1=>by have:=num_cl (m:=m+tmBelow 5) n;simpa [numT,tm0,tmCl,tmClL] using this
theorem listT_cl {m:Int}:∀ l,tmCl (listT l) m=true
 | []=>by simp [listT,tm0,tmCl,tmClL]
 | n::l=>by
  have h1:=num_cl (m:=m+tmBelow 8) n
  have h2:=listT_cl (m:=m+tmBelow 8) l
  simp [listT,tm0,tmCl,tmClL,h1,h2]
theorem IsVl.cl {a:Ty} {v:PVl} {t:Tm} (h:IsVl a v t):∀ m,tmCl t m=true:=by
 induction h with
 | num n=>exact fun m=>num_cl n
 | list l=>exact fun m=>listT_cl l
 | unit=>intro m;simp [tm0,tmCl,tmClL]
 | pair _ _ h1 h2=>intro m;simp [tm0,tmCl,tmClL,h1,h2]
theorem listT_ty {g:List Ty}:∀ l,HasTy TyG g (listT l) tList
 | []=>.n0 (ty:=.mk 0 []) .nil
 | n::l=>.n2 (ty:=.mk 0 []) .cons (HasTy.num n) (listT_ty l)
theorem IsVl.ty {a:Ty} {v:PVl} {t:Tm} (h:IsVl a v t):TyG a→∀ g,HasTy TyG g t a:=by
 induction h with
 | num n=>exact fun _ g=>HasTy.num n
 | list l=>exact fun _ g=>listT_ty l
 | unit=>exact fun _ g=>.n0 (ty:=.mk 0 []) .unit
 | pair _ _ h1 h2 =>
  intro ht g
  obtain ⟨t1,t2⟩:=ht.pair1
  exact .n2 (ty:=.mk 0 []) (.pair ht) (h1 t1 g) (h2 t2 g)
def lsz:List Nat→Nat
 | []=>1
 | n::l=>n+2+lsz l
theorem listT_sz:∀ l,tmSz (listT l)=lsz l
 | []=>by rw [listT,tmSz_0];rfl
 | n::l=>by rw [listT,tmSz_2,tmSz_num,listT_sz l,lsz];omega
theorem lsz_take:∀ {l:List Nat} {i x:Nat},l[i]? = some x→lsz (l.take (i+1))=lsz (l.take i)+x+2
 | [],i,x,h=>by simp at h
 | y::l,0,x,h=>by simp at h;subst h;simp [lsz];omega
 | y::l,i+1,x,h=>by
  have:=lsz_take (l:=l) (i:=i) (x:=x) (by simpa using h)
  rw [List.take_succ_cons,List.take_succ_cons,lsz,lsz,this];omega
theorem lsz_take_le:∀ (l:List Nat) (i:Nat),lsz (l.take i)≤lsz l
 | [],i=>by simp
 | y::l,0=>by simp [lsz];omega
 | y::l,i+1=>by have:=lsz_take_le l i;rw [List.take_succ_cons,lsz,lsz];omega
theorem lsz_len:∀ l:List Nat,l.length * 2+1≤lsz l
 | []=>by simp [lsz]
 | y::l=>by have:=lsz_len l;rw [lsz,List.length_cons];omega
theorem lsz_mem:∀ {l:List Nat} {x:Nat},x∈l→x+3≤lsz l
 | [],x,h=>by simp at h
 | y::l,x,h=>by
  rw [lsz]
  rcases List.mem_cons.1 h with rfl|h
  ·have:=lsz_len l;omega
  ·have:=lsz_mem h;omega
theorem IsVl.mem {l:List Nat} (hb:lsz l≤4096):(∀ x∈l,x≤4096)∧l.length≤4096:=⟨fun x hx=>by have:=lsz_mem hx;omega,by have:=lsz_len l;omega⟩
theorem ARX_doneF {c:Ctx} {gen:Nat} {σ:St} (hm:c.P.follows .mixedOrders=true) (h:AR c gen [] .ret σ):ARX c (xF c) gen [] .ret σ :=
 fun g a w hx _ r=>bodyPost_M (show bodyPost c.P c.fn c.R .ret a w from h rfl hm g a w hx r.st)
def G.free (g:G):G:=g.wrs fun _=>true
theorem ext_free {g g':G} {w w':World} (x:Ext g w g' w'):Ext g.free w g' w' :=
 ⟨x.os,x.tape,x.output,x.size,x.lim,x.cells,fun b _ h=>by simp [G.free,G.wrs] at h,x.dom,x.top⟩
theorem ext_via {g0 g g':G} {w0 w w':World} (x:Ext g0 w0 g w) (hf:∀ b,g0.wr b=true) (y:Ext g.free w g' w'):Ext g0 w0 g' w' :=
 let z:Ext g0 w0 g.free w:=⟨x.os,x.tape,x.output,x.size,x.lim,x.cells,fun b _ h=>(by rw [hf] at h;cases h),x.dom,x.top⟩
 z.trans y
theorem free_wr {g:G}:∀ b,g.free.wr b=true:=fun _=>rfl
theorem ext_dn {g:G} {w:World}:Ext g w (g.dn w) w:=(Ext.refl g w).dn
theorem Turned.extF {g gi:G} {w W W':World} {B:Nat} (t:Turned B W W') (hl:∀ b,w.heap.size≤b→g.lim b=0) (x:Ext g.free w gi W):Ext g.free w (gi.up B) W':=by
 refine ⟨t.os.trans x.os,t.tape.trans x.tape,t.output.trans x.output,Nat.le_trans x.size t.size,x.lim,fun b o h=>?_,fun b hb hw=>?_,x.dom,x.top⟩
 ·by_cases hs:b<W.heap.size
  ·rw [t.cell b o hs];exact x.cells b o h
  ·have hw:w.heap.size≤b:=by have:=x.size;omega
   have:g.free.lim b=g.lim b:=rfl
   rw [this,hl b hw] at h;omega
 ·simp [G.free,G.wrs] at hw
def KO (L:Nat→Prop) (W0:World) (g:G) (w:World):Prop:=∀ b o,¬ L b→W0.heap[b]? = some o→o.isCells=false→w.heap[b]? = some o∧g.wr b=false
theorem KO.ext {L:Nat→Prop} {W0 w w':World} {g g':G} (x:Ext g w g' w') (k:KO L W0 g w):KO L W0 g' w':=fun b o h1 h2 h3=>by
 obtain ⟨k1,k2⟩:=k b o h1 h2 h3
 obtain ⟨x1,x2⟩:=x.wr b (Array.getElem?_eq_some_iff.1 k1).1 k2
 exact ⟨x1.trans k1,x2⟩
theorem KO.turn {L:Nat→Prop} {W0 w w':World} {g:G} {B:Nat} (hB:W0.heap.size≤B) (t:Turned B w w') (k:KO L W0 g w):KO L W0 (g.up B) w':=fun b o h1 h2 h3=>by
 obtain ⟨k1,k2⟩:=k b o h1 h2 h3
 have hb:=(Array.getElem?_eq_some_iff.1 h2).1
 refine ⟨(t.same b (by omega)).trans k1,?_⟩
 show (g.wr b||decide (B≤b))=false
 rw [k2];simp;omega
theorem KO.back {L L':Nat→Prop} {W0 w w':World} {g g':G} (hL:∀ b,L' b→L b) (k:KO L W0 g w) (h:∀ b o,¬ L' b→w.heap[b]? = some o→o.isCells=false→w'.heap[b]? = some o):KO L W0 (g'.dn w') w':=fun b o h1 h2 h3=>by
 obtain ⟨k1,k2⟩:=k b o h1 h2 h3
 have:=h b o (fun e=>h1 (hL b e)) k1 h3
 exact ⟨this,(dn_kept (Ext.refl _ _) this h3).2⟩
theorem KO.here {L:Nat→Prop} {w:World} {g:G}:KO L w (g.dn w) w:=fun b o _ h2 h3=>⟨h2,(dn_kept (Ext.refl _ _) h2 h3).2⟩
structure YC where
 F:Fence
 ds:List Deferred
 L:G→World→Prop
 E:Exit→Act→World→Prop
 Lo:Nat→Prop
 bd:Nat
def YC.at (y:YC) (X:G→World→Prop):XC:=⟨y.F,y.ds,fun g w=>X g w∧y.L g w,y.E⟩
structure YOk (c:Ctx) (y:YC):Prop where
 fn:∀ f,y.F.fn f
 dp:y.F.depth=none
 cl:∀ k args w R,Calls c.P k args w R→CallsIn y.F (0 - 1) c.P k args w R
 ci:∀ {n k args w R},CallsIn Fence.wide n c.P k args w R→CallsIn y.F n c.P k args w R
 ri:∀ {n l f tmps a b w R},RoundIn Fence.wide n c.P l f tmps a b w R→RoundIn y.F n c.P l f tmps a b w R
 ext:∀ g w g' w',Ext g w g' w'→y.L g w→y.L g' w'
 turn:∀ g W W' B,y.bd≤B→Turned B W W'→(∀ b,W.heap.size≤b→g.lim b=0)→y.L g W→y.L (g.up B) W'
 back:∀ g w g' w',(∀ b,c.g0.wr b=true)→y.L g w→Ext g.free w g' w'→(∀ b o,¬ y.Lo b→w.heap[b]? = some o→o.isCells=false→w'.heap[b]? = some o)→y.L (g'.dn w') w'
 size:∀ g w,y.L g w→y.bd≤w.heap.size
 lo:∀ b,y.Lo b→b<y.bd
structure XSt (bd:Nat) (X:G→World→Prop):Prop where
 ext:∀ g w g' w',Ext g w g' w'→X g w→X g' w'
 turn:∀ g W W' B,bd≤B→Turned B W W'→(∀ b,W.heap.size≤b→g.lim b=0)→X g W→X (g.up B) W'
theorem YOk.x {c:Ctx} {y:YC} (h:YOk c y) {X:G→World→Prop} {bd:Nat} (hX:XSt bd X):XOk c.P (y.at X) :=
 ⟨h.fn,h.dp,h.cl,fun g w g' w' x hh=>⟨hX.ext _ _ _ _ x hh.1,h.ext _ _ _ _ x hh.2⟩⟩
structure Cons where
 l:Nat
 bd:Nat
 L:Nat→Prop
 S:Id→Prop
 base:Id→Prop
 Y:Nat→G→World→H→Prop
 Z:G→World→H→Prop
structure After (C:Cons) (g:G) (W:World) (h:H) (g':G) (W':World) (h':H):Prop where
 ext:Ext g.free W g' W'
 same:∀ id,¬ C.S id→h id≠none→h' id=h id
 obj:∀ b o,¬ C.L b→W.heap[b]? = some o→o.isCells=false→W'.heap[b]? = some o
structure ConsOk (P:Program) (env:Nat→Option (List V)) (C:Cons) (vs:List (List V)):Prop where
 sub:∀ id,C.S id→C.base id
 lo:∀ b,C.L b→b<C.bd
 Yext:∀ i g w g' w' h,Ext g w g' w'→C.Y i g w h→C.Y i g' w' h
 Yh:∀ i g w h h',(∀ id,C.base id→h' id=h id)→C.Y i g w h→C.Y i g w h'
 Yt:∀ i g W W' h B,C.bd≤B→Turned B W W'→(∀ b,W.heap.size≤b→g.lim b=0)→C.Y i g W h→C.Y i (g.up B) W' h
 Ybd:∀ i g w h,C.Y i g w h→C.bd≤w.heap.size
 Zext:∀ g w g' w' h,Ext g w g' w'→C.Z g w h→C.Z g' w' h
 Zh:∀ g w h h',(∀ id,C.base id→h' id=h id)→C.Z g w h→C.Z g w h'
 Zt:∀ g W W' h B,C.bd≤B→Turned B W W'→(∀ b,W.heap.size≤b→g.lim b=0)→C.Z g W h→C.Z (g.up B) W' h
 round:∀ i vv (xs:List Value) g W h,vs[i]? = some vv→C.Y i g W h→Rel env g W h→xs.length=vv.length→(∀ (j:Nat) x v,xs[j]? = some x→vv[j]? = some v→RV g W x v) →
  YieldAt Fence.wide (0 - 1) P C.l xs.toArray W fun e W'=>∃ g' h',After C g W h g' W' h'∧Rel env g' W' h'∧((e=.returned (.bool true)∧C.Y (i+1) g' W' h')∨(e=.returned (.bool false)∧C.Z g' W' h'))
def Iter (P:Program) (env:Nat→Option (List V)) (fv:V) (vs:List (List V)):Prop :=
 ∀ g w x,RV g w x fv→∃ gf lb,x=.func (.func gf) #[] lb∧Callable P gf ∧
  ∀ (C:Cons),ConsOk P env C vs→∀ g1 W1 h1,Ext g w g1 W1→Rel env g1 W1 h1→C.Y 0 g1 W1 h1→(∀ id,C.base id→h1 id≠none) →
   CallsIn Fence.wide 0 P gf (#[.func (.yield C.l) #[] #[]]++lb) W1 fun e W'=>(∃ v,e=.returned v)∧∃ g' h',After C g1 W1 h1 g' W' h'∧Rel env g' W' h'∧(C.Y vs.length g' W' h'∨C.Z g' W' h')
def roundL (y:YC) (W:World) (G0:G) (g:G) (w:World):Prop:=y.L g w∧Ext G0.free W g w∧KO y.Lo W g w
def roundLb (y:YC) (W:World) (G0:G) (l:Nat) (r:Loop) (g:G) (w:World):Prop :=
 y.L g w∧Ext G0.free W g w∧KO (fun b=>b=l∨y.Lo b) W g w∧w.heap[l]? = some (.loop r)∧g.wr l=false
def roundA (c:Ctx) (y:YC) (W:World) (G0:G) (l:Nat) (E:Exit→Act→World→Prop):YC:=⟨Fence.wide.inRound l,[],roundL y W G0,E,y.Lo,W.heap.size⟩
def roundB (c:Ctx) (y:YC) (W:World) (G0:G) (l:Nat) (r:Loop) (E:Exit→Act→World→Prop):YC:=⟨Fence.wide.inRound l,[],roundLb y W G0 l r,E,y.Lo,W.heap.size⟩
theorem roundA_ok {c:Ctx} {y:YC} (hy:YOk c y) {W:World} {G0:G} {l:Nat} {E:Exit→Act→World→Prop} (hG:∀ b,W.heap.size≤b→G0.lim b=0) (hbd:y.bd≤W.heap.size):YOk c (roundA c y W G0 l E) :=
 ⟨fun _=>trivial,rfl,fun k args w R h=>(show CallsIn Fence.wide (0 - 1) c.P k args w R from callsIn_wide.2 h),fun h=>h,fun h=>h,
  fun g w g' w' x ⟨h1,h2,h3⟩=>⟨hy.ext _ _ _ _ x h1,h2.trans x,h3.ext x⟩,
  fun g W1 W2 B hB t hl ⟨h1,h2,h3⟩=>⟨hy.turn _ _ _ _ (Nat.le_trans hbd hB) t hl h1,t.extF hG h2,h3.turn hB t⟩,
  fun g w g' w' hf ⟨h1,h2,h3⟩ x ho=>⟨hy.back _ _ _ _ hf h1 x ho,(ext_via h2 free_wr x).trans ext_dn,h3.back (fun _ e=>e) ho⟩,
  fun g w ⟨_,h2,_⟩=>h2.size,fun b hb=>Nat.lt_of_lt_of_le (hy.lo b hb) hbd⟩
theorem roundB_ok {c:Ctx} {y:YC} (hy:YOk c y) {W:World} {G0:G} {l:Nat} {r:Loop} {E:Exit→Act→World→Prop} (hG:∀ b,W.heap.size≤b→G0.lim b=0) (hbd:y.bd≤W.heap.size) (hl:l<W.heap.size) (hlo:¬ y.Lo l):YOk c (roundB c y W G0 l r E) :=
 ⟨fun _=>trivial,rfl,fun k args w R h=>(show CallsIn Fence.wide (0 - 1) c.P k args w R from callsIn_wide.2 h),fun h=>h,fun h=>h,
  fun g w g' w' x ⟨h1,h2,h3,h4,h5⟩=>by
   obtain ⟨x1,x2⟩:=x.wr l (Array.getElem?_eq_some_iff.1 h4).1 h5
   exact ⟨hy.ext _ _ _ _ x h1,h2.trans x,h3.ext x,x1.trans h4,x2⟩,
  fun g W1 W2 B hB t hz ⟨h1,h2,h3,h4,h5⟩=>by
   have hB':W.heap.size≤B:=hB
   exact ⟨hy.turn _ _ _ _ (Nat.le_trans hbd hB) t hz h1,t.extF hG h2,h3.turn hB t,(t.same l (by omega)).trans h4,by show (g.wr l||decide (B≤l))=false;rw [h5];simp;omega⟩,
  fun g w g' w' hf ⟨h1,h2,h3,h4,h5⟩ x ho=>by
   have e:=ho l _ hlo h4 rfl
   exact ⟨hy.back _ _ _ _ hf h1 x ho,(ext_via h2 free_wr x).trans ext_dn,h3.back (fun _ e=>.inr e) ho,e,(dn_kept (Ext.refl _ _) e rfl).2⟩,
  fun g w ⟨_,h2,_⟩=>h2.size,fun b hb=>Nat.lt_of_lt_of_le (hy.lo b hb) hbd⟩
section
variable {c:Ctx} {y:YC} (hy:YOk c y) {σ:St} {ps:List Nat} {vs:List (List V)} {assign body:Code} {gen:Nat}
 (hps:∀ p∈ps,p<c.n) (hvv:∀ v∈vs,v.length=ps.length)
 (S:Id→Prop) (hS:∀ id,S id→σ.h id≠none)
 (J:Nat→(G→World→Prop)→H→Prop) (Jx:Option Nat→(G→World→Prop)→H→Prop)
 (hJX:∀ i X h,J i X h→XSt y.bd X) (hJxX:∀ i X h,Jx i X h→XSt y.bd X)
 (hJh:∀ i X h h',(∀ id,σ.h id≠none→h' id=h id)→J i X h→J i X h') (hJxh:∀ i X h h',(∀ id,σ.h id≠none→h' id=h id)→Jx i X h→Jx i X h')
 (hlim:∀ b,c.w0.heap.size≤b→c.g0.lim b=0)
 (hround:∀ (ya yb:YC) (gn i:Nat) (vv:List V) (hi:H) (X:G→World→Prop),YOk c ya→YOk c yb→(∃ l,ya.F=Fence.wide.inRound l∧yb.F=Fence.wide.inRound l∧∀ g w,yb.L g w→∃ r,w.heap[l]? = some (.loop r)) →
   ya.ds=[]→yb.ds=[]→ya.Lo=y.Lo→yb.Lo=y.Lo→XSt y.bd X→ya.bd=yb.bd→y.bd≤ya.bd→gen≤gn→vs[i]? = some vv→J i X hi→(∀ id,σ.h id≠none→hi id≠none) →
   (∀ X' σ' gn',XSt y.bd X'→ARX c (yb.at X') gn' [.code body] .normal σ'→ARX c (ya.at X') gn' [] .normal σ') →
   (∀ X' gn' σ',J (i+1) X' σ'.h→(∀ id,¬ S id→hi id≠none→σ'.h id=hi id)→ARX c (yb.at X') gn' [] .normal σ') →
   (∀ X' gn' id σ',Jx id X' σ'.h→(∀ id,¬ S id→hi id≠none→σ'.h id=hi id)→ARX c (yb.at X') gn' [] (jumpE id) σ') →
   ARX c (ya.at X) gn [.code assign] .normal ⟨updL σ.tm ps vv,hi⟩)
include hy hps hvv hS hJX hJxX hJh hJxh hlim hround
theorem iter_core {g:G} {a:Act} {w W1:World} {l:Nat} {rec:LoopState→Option Code→Loop} (hx:Ext c.g0 c.w0 g w) {X0:G→World→Prop} (hX:X0 g w) (hL:y.L g w) (r:RelSt c.env c.n g w a σ)
  (h0:J 0 X0 σ.h) {gf:Nat} {lb:Array Value}
  (hgo:∀ (C:Cons),ConsOk c.P c.env C vs→∀ g1 W1 h1,Ext g w g1 W1→Rel c.env g1 W1 h1→C.Y 0 g1 W1 h1→(∀ id,C.base id→h1 id≠none) →
   CallsIn Fence.wide 0 c.P gf (#[.func (.yield C.l) #[] #[]]++lb) W1 fun e W'=>(∃ v,e=.returned v)∧∃ g' h',After C g1 W1 h1 g' W' h'∧Rel c.env g' W' h'∧(C.Y vs.length g' W' h'∨C.Z g' W' h'))
  (ht:Turned w.heap.size w W1) (hl:W1.heap[l]? = some (.loop (rec .ready none))) (hwl:w.heap.size≤l)
  (hrec:∃ fn df,rec=fun st pe=>{ state:=st,pending:=pe,fn,tmps:=a.tmps,params:=ps.toArray,assign,body,defers:=df }) :
  CallsIn Fence.wide 0 c.P gf (#[.func (.yield l) #[] #[]]++lb) W1 fun e W2=>(∃ v,e=.returned v)∧∃ g' h' X',X' g' W2∧y.L g' W2∧Ext c.g0 c.w0 g' W2∧Ext g.free w g' W2∧Rel c.env g' W2 h' ∧
   (∀ id,¬ S id→σ.h id≠none→h' id=σ.h id)∧(∀ b o,¬ (b=l∨y.Lo b)→W1.heap[b]? = some o→o.isCells=false→W2.heap[b]? = some o) ∧
   ((J vs.length X' h'∧W2.heap[l]? = some (.loop (rec .ready none)))∨∃ id,Jx id X' h'∧W2.heap[l]? = some (.loop (rec .done (some (jumpC id))))):=by
 obtain ⟨fn,df,hrec⟩:=hrec
 have hbl:y.bd≤l:=Nat.le_trans (hy.size g w hL) hwl
 have hcl:c.w0.heap.size≤l:=Nat.le_trans hx.size hwl
 have hlimg:∀ b,w.heap.size≤b→g.lim b=0:=r.rel.limnew
 have hnl:¬ y.Lo l:=fun h=>by have:=hy.lo l h;omega
 have hdef:a.defers=[]:=r.defers
 obtain ⟨C,hC⟩:∃ C:Cons,C=⟨l,l+1,fun b=>b=l∨y.Lo b,S,fun id=>σ.h id≠none,
   fun i G W H=>∃ X',J i X' H∧X' G W∧y.L G W∧Ext c.g0 c.w0 G W∧Ext g.free w G W∧W.heap[l]? = some (.loop (rec .ready none))∧G.wr l=false,
   fun G W H=>∃ X' id,Jx id X' H∧X' G W∧y.L G W∧Ext c.g0 c.w0 G W∧Ext g.free w G W∧W.heap[l]? = some (.loop (rec .done (some (jumpC id))))∧G.wr l=false⟩:=⟨_,rfl⟩
 have wrl:∀ {G:G} {B:Nat},G.wr l=false→l+1≤B→(G.up B).wr l=false:=fun {G B} h hB=>by
  show (G.wr l||decide (B≤l))=false
  rw [h];simp;omega
 have hok:ConsOk c.P c.env C vs:=by
  subst hC
  refine ⟨hS,fun b h=>?_,?_,?_,?_,?_,?_,?_,?_,?_⟩
  ·rcases h with rfl|h
   ·show b<b+1;omega
   ·have:=hy.lo b h;show b<l+1;omega
  ·rintro i G W G' W' H x ⟨X',j1,j2,j3,j4,j5,j6,j7⟩
   obtain ⟨x1,x2⟩:=x.wr l (Array.getElem?_eq_some_iff.1 j6).1 j7
   exact ⟨X',j1,(hJX _ _ _ j1).ext _ _ _ _ x j2,hy.ext _ _ _ _ x j3,j4.trans x,j5.trans x,x1.trans j6,x2⟩
  ·rintro i G W H H' e ⟨X',j1,j⟩
   exact ⟨X',hJh _ _ _ _ e j1,j⟩
  ·rintro i G W W' H B hB t hz ⟨X',j1,j2,j3,j4,j5,j6,j7⟩
   have hB':l+1≤B:=hB
   exact ⟨X',j1,(hJX _ _ _ j1).turn _ _ _ _ (by omega) t hz j2,hy.turn _ _ _ _ (by omega) t hz j3,t.ext (by omega) hlim j4,t.extF hlimg j5,(t.same l (by omega)).trans j6,wrl j7 hB'⟩
  ·rintro i G W H ⟨X',_,_,_,_,_,j6,_⟩
   exact (Array.getElem?_eq_some_iff.1 j6).1
  ·rintro G W G' W' H x ⟨X',id,j1,j2,j3,j4,j5,j6,j7⟩
   obtain ⟨x1,x2⟩:=x.wr l (Array.getElem?_eq_some_iff.1 j6).1 j7
   exact ⟨X',id,j1,(hJxX _ _ _ j1).ext _ _ _ _ x j2,hy.ext _ _ _ _ x j3,j4.trans x,j5.trans x,x1.trans j6,x2⟩
  ·rintro G W H H' e ⟨X',id,j1,j⟩
   exact ⟨X',id,hJxh _ _ _ _ e j1,j⟩
  ·rintro G W W' H B hB t hz ⟨X',id,j1,j2,j3,j4,j5,j6,j7⟩
   have hB':l+1≤B:=hB
   exact ⟨X',id,j1,(hJxX _ _ _ j1).turn _ _ _ _ (by omega) t hz j2,hy.turn _ _ _ _ (by omega) t hz j3,t.ext (by omega) hlim j4,t.extF hlimg j5,(t.same l (by omega)).trans j6,wrl j7 hB'⟩
  ·
   rintro i vv xs G W hh hi ⟨X',j1,j2,j3,j4,j5,j6,j7⟩ q hlen hrv
   have hvl:=hvv vv (List.mem_of_getElem? hi)
   have hyl:=run_yield (P:=c.P) (args:=xs.toArray) j6 (by rw [hrec];simp;omega)
   have hsz:l<W.heap.size:=(Array.getElem?_eq_some_iff.1 j6).1
   refine ⟨(rec .ready none).fn,_,(rec .ready none).assign,(rec .ready none).body,hyl,roundIn_of_wpIn trivial ?_⟩
   clear hyl
   obtain ⟨busy,hbusy⟩:∃ busy:Loop,busy={ rec .ready none with state:=.busy }:=⟨_,rfl⟩
   obtain ⟨Eb,hEb⟩:∃ Eb:Exit→Act→World→Prop,Eb=fun e a w'=>∃ g' h' X'',X'' g' w'∧roundLb y W G l busy g' w'∧Ext c.g0 c.w0 g' w'∧Rel c.env g' w' h'∧(∀ id,¬ S id→hh id≠none→h' id=hh id) ∧
    (match e with | .normal=>J (i+1) X'' h' | .exit id=>Jx (some id) X'' h' | .ret=>Jx none X'' h'|_=>False):=⟨_,rfl⟩
   obtain ⟨Ea,hEa⟩:∃ Ea:Exit→Act→World→Prop,Ea=fun e a w'=>e=.normal∧∃ g' σ' X'' gn',XSt y.bd X''∧X'' g' w'∧roundL y W G g' w'∧Ext c.g0 c.w0 g' w'∧RelD [] c.env c.n g' w' a σ' ∧
    ARX c ((roundB c y W G l busy Eb).at X'') gn' [.code body] .normal σ':=⟨_,rfl⟩
   have hbn:∀ id,σ.h id≠none→hh id≠none:=fun id hid=>(q.dom id).1 (j5.dom id ((r.rel.dom id).2 hid)).1
   have h1:=hround (roundA c y W G l Ea) (roundB c y W G l busy Eb) gen i vv hh X' (roundA_ok hy q.limnew (by omega)) (roundB_ok hy q.limnew (by omega) hsz hnl) ⟨l,rfl,rfl,fun g w h=>⟨_,h.2.2.2.1⟩⟩
    rfl rfl rfl rfl (hJX _ _ _ j1) rfl (by show y.bd≤W.heap.size;omega) (Nat.le_refl _) hi j1 hbn
    (fun X'' σ' gn' hXS h g' a' w' hx' hX' r'=>by
     show Ea .normal a' w'
     rw [hEa]
     exact ⟨rfl,g',σ',X'',gn',hXS,hX'.1,hX'.2,hx',r',h⟩)
    (fun X'' gn' σ' hJ hs g' a' w' hx' hX' r'=>by
     show Eb .normal a' w'
     rw [hEb]
     exact ⟨g',σ'.h,X'',hX'.1,hX'.2,hx',r'.1.rel,hs,hJ⟩)
    (fun X'' gn' id σ' hJ hs g' a' w' hx' hX' r'=>by
     show Eb (jumpE id) a' w'
     rw [hEb]
     cases id<;>exact ⟨g',σ'.h,X'',hX'.1,hX'.2,hx',r'.1.rel,hs,hJ⟩)
   have hst:RelD [] c.env c.n (G.dn W) W { tmps:=(ps.zip xs).foldl (fun tmps (t,a)=>tmps.setIfInBounds t a) a.tmps,defers:=[] } ⟨updL σ.tm ps vv,hh⟩:=by
    have s0:RelSt c.env c.n (G.dn W) W a ⟨σ.tm,hh⟩:=⟨q.dn,fun t=>((r.tm t).wrs _).mono (j5.trans ext_dn),r.size,hdef⟩
    have s1:=RelSt.putL ps xs vv s0 hps (by omega) (fun j x v hx hv=>(hrv j x v hx hv).mono ext_dn) hvl
    rw [hdef] at s1
    exact RelD.of s1
   have h2:=h1 _ _ W (j4.trans ext_dn) ⟨(hJX _ _ _ j1).ext _ _ _ _ ext_dn j2,hy.ext _ _ _ _ ext_dn j3,ext_free ext_dn,KO.here⟩ hst
   have etm:(((rec .ready none).params.zip xs.toArray).foldl (fun tmps (t,a)=>tmps.setIfInBounds t a) (rec .ready none).tmps)=(ps.zip xs).foldl (fun tmps (t,a)=>tmps.setIfInBounds t a) a.tmps:=by
    rw [hrec];simp
   have eas:(rec .ready none).assign=assign:=by rw [hrec]
   have ebo:(rec .ready none).body=body:=by rw [hrec]
   rw [etm,eas,ebo]
   refine wpIn_mono (show assign.wpIn (Fence.wide.inRound l) 0 c.P _ _ _ from h2) ?_
   intro e a1 w1 hp
   have hp':Ea e a1 w1:=by cases e<;>exact hp
   rw [hEa] at hp'
   obtain ⟨rfl,g1,σ1,X1,gn',hXS,hX1,⟨k1,k2,k3⟩,hx1,r1,hbody⟩:=hp'
   have e1:w1.heap[l]? = some (.loop (rec .ready none)):=(k3 l _ hnl j6 rfl).1
   refine ⟨_,run_beginRound e1 (by rw [hrec]),?_⟩
   rw [← hbusy]
   have t:Turned l w1 (w1.putObj l (.loop busy)):=turned_put (Nat.le_refl _) e1 rfl rfl
   have hl1:l<w1.heap.size:=(Array.getElem?_eq_some_iff.1 e1).1
   have l3:(w1.putObj l (.loop busy)).heap[l]? = some (.loop busy):=World.putObj_heap_same hl1
   have r1':=r1.st
   have hst3:RelD [] c.env c.n ((g1.up l).dn (w1.putObj l (.loop busy))) (w1.putObj l (.loop busy)) a1 σ1 :=
    RelD.of ⟨(t.rel r1'.rel).dn,fun t'=>(((r1'.tm t').wrs _).mono (t.here r1'.rel.limnew)).mono ext_dn,r1'.size,r1'.defers⟩
   have h4:=hbody _ a1 _ ((t.ext hcl hlim hx1).trans ext_dn) ⟨hXS.ext _ _ _ _ ext_dn (hXS.turn _ _ _ _ hbl t r1'.rel.limnew hX1),hy.ext _ _ _ _ ext_dn (hy.turn _ _ _ _ hbl t r1'.rel.limnew k1),(t.extF q.limnew k2).trans ext_dn,
    (fun b o hb h2 h3=>by
     have hb':b≠l∧¬ y.Lo b:=⟨fun e=>hb (.inl e),fun e=>hb (.inr e)⟩
     have:(w1.putObj l (.loop busy)).heap[b]? = some o:=(World.putObj_heap_other hb'.1).trans (k3 b o hb'.2 h2 h3).1
     exact ⟨this,(dn_kept (Ext.refl _ _) this h3).2⟩),l3,(dn_kept (Ext.refl _ _) l3 rfl).2⟩ hst3
   refine wpIn_mono (show body.wpIn (Fence.wide.inRound l) 0 c.P _ _ _ from h4) ?_
   intro e a4 w4 hp4
   have hp4':Eb e a4 w4:=by cases e<;>exact hp4
   rw [hEb] at hp4'
   obtain ⟨g4,h4',X4,y0,⟨z1,z2,z3,z4,z5⟩,zx,q4,hs4,hJ4⟩:=hp4'
   have hl4:l<w4.heap.size:=(Array.getElem?_eq_some_iff.1 z4).1
   have fin:∀ (jump:Option Code) (rr:Loop),rr={ busy with state:=if jump.isNone then .ready else .done,pending:=jump }→XSt y.bd X4 →
     (Instr.endRound l jump).run c.P w4=.ok (.bool jump.isNone) (w4.putObj l (.loop rr)) ∧
     After ⟨l,l+1,fun b=>b=l∨y.Lo b,S,fun id=>σ.h id≠none,
      fun i G W H=>∃ X',J i X' H∧X' G W∧y.L G W∧Ext c.g0 c.w0 G W∧Ext g.free w G W∧W.heap[l]? = some (.loop (rec .ready none))∧G.wr l=false,
      fun G W H=>∃ X' id,Jx id X' H∧X' G W∧y.L G W∧Ext c.g0 c.w0 G W∧Ext g.free w G W∧W.heap[l]? = some (.loop (rec .done (some (jumpC id))))∧G.wr l=false⟩ G W hh ((g4.up l).dn (w4.putObj l (.loop rr))) (w4.putObj l (.loop rr)) h4' ∧
     Rel c.env ((g4.up l).dn (w4.putObj l (.loop rr))) (w4.putObj l (.loop rr)) h4' ∧
     X4 ((g4.up l).dn (w4.putObj l (.loop rr))) (w4.putObj l (.loop rr))∧y.L ((g4.up l).dn (w4.putObj l (.loop rr))) (w4.putObj l (.loop rr)) ∧
     Ext c.g0 c.w0 ((g4.up l).dn (w4.putObj l (.loop rr))) (w4.putObj l (.loop rr))∧Ext g.free w ((g4.up l).dn (w4.putObj l (.loop rr))) (w4.putObj l (.loop rr)) ∧
     (w4.putObj l (.loop rr)).heap[l]? = some (.loop rr)∧((g4.up l).dn (w4.putObj l (.loop rr))).wr l=false:=by
    intro jump rr hrr hXS4
    have t4:Turned l w4 (w4.putObj l (.loop rr)):=turned_put (Nat.le_refl _) z4 rfl rfl
    have l5:(w4.putObj l (.loop rr)).heap[l]? = some (.loop rr):=World.putObj_heap_same hl4
    have x5:Ext G.free W ((g4.up l).dn (w4.putObj l (.loop rr))) (w4.putObj l (.loop rr)):=(t4.extF q.limnew z2).trans ext_dn
    refine ⟨?_,⟨x5,hs4,fun b o hb h2 h3=>?_⟩,(t4.rel q4).dn,hXS4.ext _ _ _ _ ext_dn (hXS4.turn _ _ _ _ hbl t4 q4.limnew y0),hy.ext _ _ _ _ ext_dn (hy.turn _ _ _ _ hbl t4 q4.limnew z1),
     (t4.ext hcl hlim zx).trans ext_dn,ext_via j5 free_wr x5,l5,(dn_kept (Ext.refl _ _) l5 rfl).2⟩
    ·rw [hrr];exact run_endRound jump z4
    ·have hb':b≠l:=fun e=>hb (.inl e)
     exact (World.putObj_heap_other hb').trans (z3 b o hb h2 h3).1
   cases e with
   | normal =>
    obtain ⟨f1,f2,f3,f4,f5,f6,f7,f8,f9⟩:=fin none (rec .ready none) (by rw [hbusy,hrec];rfl) (hJX _ _ _ hJ4)
    exact ⟨_,_,f1,_,h4',f2,f3,.inl ⟨rfl,X4,hJ4,f4,f5,f6,f7,f8,f9⟩⟩
   | exit id =>
    obtain ⟨f1,f2,f3,f4,f5,f6,f7,f8,f9⟩:=fin (some (.exit id)) (rec .done (some (.exit id))) (by rw [hbusy,hrec];rfl) (hJxX _ _ _ hJ4)
    exact ⟨_,_,f1,_,h4',f2,f3,.inr ⟨rfl,X4,some id,hJ4,f4,f5,f6,f7,f8,f9⟩⟩
   | ret =>
    obtain ⟨f1,f2,f3,f4,f5,f6,f7,f8,f9⟩:=fin (some .ret) (rec .done (some .ret)) (by rw [hbusy,hrec];rfl) (hJxX _ _ _ hJ4)
    exact ⟨_,_,f1,_,h4',f2,f3,.inr ⟨rfl,X4,none,hJ4,f4,f5,f6,f7,f8,f9⟩⟩
   | goto t=>exact hJ4.elim
   | panic ch=>exact hJ4.elim
   | outgrown=>exact hJ4.elim
 have hXS0:=hJX _ _ _ h0
 have hbw:y.bd≤w.heap.size:=hy.size g w hL
 have t:=ht
 have q1:Rel c.env ((g.up w.heap.size).dn W1) W1 σ.h:=(t.rel r.rel).dn
 have x1:Ext g w ((g.up w.heap.size).dn W1) W1:=(t.ext (Nat.le_refl _) hlimg (Ext.refl g w)).trans ext_dn
 have hY0:C.Y 0 ((g.up w.heap.size).dn W1) W1 σ.h:=by
  subst hC
  exact ⟨X0,h0,hXS0.ext _ _ _ _ ext_dn (hXS0.turn _ _ _ _ hbw t hlimg hX),hy.ext _ _ _ _ ext_dn (hy.turn _ _ _ _ hbw t hlimg hL),hx.trans x1,ext_free x1,hl,(dn_kept (Ext.refl _ _) hl rfl).2⟩
 have:=hgo C hok _ W1 σ.h x1 q1 hY0 (by subst hC;exact fun id h=>h)
 subst hC
 refine this.mono ?_
 rintro e W2 ⟨hv,g',h',⟨a1,a2,a3⟩,q2,hend⟩
 refine ⟨hv,g',h',?_⟩
 rcases hend with ⟨X',j1,j2,j3,j4,j5,j6,j7⟩|⟨X',id,j1,j2,j3,j4,j5,j6,j7⟩
 ·exact ⟨X',j2,j3,j4,j5,q2,a2,a3,.inl ⟨j1,j6⟩⟩
 ·exact ⟨X',j2,j3,j4,j5,q2,a2,a3,.inr ⟨id,j1,j6⟩⟩
end
end GoAbs
set_option maxHeartbeats 400000
namespace GoAbs
open Go
def YC.mk1 (y:YC) (D:Nat):YC:=⟨y.F,[markD D],fun g w=>y.L g w∧w.heap[D]? = some (.deferred (some []))∧g.wr D=false,y.E,y.Lo,D+1⟩
theorem mk1_ok {c:Ctx} {y:YC} (hy:YOk c y) {D:Nat} (hD:y.bd≤D):YOk c (y.mk1 D) :=
 ⟨hy.fn,hy.dp,hy.cl,hy.ci,hy.ri,
  fun g w g' w' x ⟨h1,h2,h3⟩=>by
   obtain ⟨x1,x2⟩:=x.wr D (Array.getElem?_eq_some_iff.1 h2).1 h3
   exact ⟨hy.ext _ _ _ _ x h1,x1.trans h2,x2⟩,
  fun g W W' B hB t hz ⟨h1,h2,h3⟩=>by
   have hB':D+1≤B:=hB
   exact ⟨hy.turn _ _ _ _ (by omega) t hz h1,(t.same D (by omega)).trans h2,by show (g.wr D||decide (B≤D))=false;rw [h3];simp;omega⟩,
  fun g w g' w' hf ⟨h1,h2,h3⟩ x ho=>by
   have e:=ho D _ (fun h=>by have:=hy.lo D h;omega) h2 rfl
   exact ⟨hy.back _ _ _ _ hf h1 x ho,e,(dn_kept (Ext.refl _ _) e rfl).2⟩,
  fun g w ⟨_,h2,_⟩=>(Array.getElem?_eq_some_iff.1 h2).1,
  fun b hb=>by have:=hy.lo b hb;show b<D+1;omega⟩
section
variable {c:Ctx} {y:YC} (hy:YOk c y) {σ:St} {ps:List Nat} {vs:List (List V)} {assign body:Code} {gen:Nat}
 (hps:∀ p∈ps,p<c.n) (hvv:∀ v∈vs,v.length=ps.length)
 (S:Id→Prop) (hS:∀ id,S id→σ.h id≠none)
 (J:Nat→(G→World→Prop)→H→Prop) (Jx:Option Nat→(G→World→Prop)→H→Prop)
 (hJX:∀ i X h,J i X h→XSt y.bd X) (hJxX:∀ i X h,Jx i X h→XSt y.bd X)
 (hJh:∀ i X h h',(∀ id,σ.h id≠none→h' id=h id)→J i X h→J i X h') (hJxh:∀ i X h h',(∀ id,σ.h id≠none→h' id=h id)→Jx i X h→Jx i X h')
 (hlim:∀ b,c.w0.heap.size≤b→c.g0.lim b=0)
 (hround:∀ (ya yb:YC) (gn i:Nat) (vv:List V) (hi:H) (X:G→World→Prop),YOk c ya→YOk c yb→(∃ l,ya.F=Fence.wide.inRound l∧yb.F=Fence.wide.inRound l∧∀ g w,yb.L g w→∃ r,w.heap[l]? = some (.loop r)) →
   ya.ds=[]→yb.ds=[]→ya.Lo=y.Lo→yb.Lo=y.Lo→XSt y.bd X→ya.bd=yb.bd→y.bd≤ya.bd→gen≤gn→vs[i]? = some vv→J i X hi→(∀ id,σ.h id≠none→hi id≠none) →
   (∀ X' σ' gn',XSt y.bd X'→ARX c (yb.at X') gn' [.code body] .normal σ'→ARX c (ya.at X') gn' [] .normal σ') →
   (∀ X' gn' σ',J (i+1) X' σ'.h→(∀ id,¬ S id→hi id≠none→σ'.h id=hi id)→ARX c (yb.at X') gn' [] .normal σ') →
   (∀ X' gn' id σ',Jx id X' σ'.h→(∀ id,¬ S id→hi id≠none→σ'.h id=hi id)→ARX c (yb.at X') gn' [] (jumpE id) σ') →
   ARX c (ya.at X) gn [.code assign] .normal ⟨updL σ.tm ps vv,hi⟩)
 {f:Nat} {k:List It} (hit:Iter c.P c.env (σ.tm f) vs) {X0:G→World→Prop} (h0:J 0 X0 σ.h)
include hy hps hvv hS hJX hJxX hJh hJxh hlim hround hit h0
theorem ARX_iter (hF:y.F=Fence.wide) (hds:y.ds=[])
  (hdone:∀ D X' h',y.bd≤D→YOk c (y.mk1 D)→J vs.length X' h'→(∀ id,¬ S id→σ.h id≠none→h' id=σ.h id)→ARX c ((y.mk1 D).at X') gen k .normal ⟨σ.tm,h'⟩)
  (hstop:∀ D id X' h',y.bd≤D→YOk c (y.mk1 D)→Jx id X' h'→(∀ id,¬ S id→σ.h id≠none→h' id=σ.h id)→ARX c ((y.mk1 D).at X') gen k (jumpE id) ⟨σ.tm,h'⟩) :
  ARX c (y.at X0) gen (.code (.rangeFunc (.tmp f) ps.toArray assign body)::k) .normal σ:=by
 intro g a w hx hX r0
 obtain ⟨hX,hL⟩:=hX
 have r:RelSt c.env c.n g w a σ:=by
  have:RelD [] c.env c.n g w a σ:=by rw [← hds];exact r0
  exact this.st
 obtain ⟨gf,lb,hev,⟨fn0,hc1,hc2,hc3⟩,hgo⟩:=hit g w _ (r.tm f)
 have hc3' : ¬ (fn0.name = "runtime.NumGoroutine") := by simpa using hc3
 have hc2':fn0.body≠none:=by intro e;simp [e] at hc2
 have hdef:a.defers=[]:=r.defers
 have hlimg:∀ b,w.heap.size≤b→g.lim b=0:=r.rel.limnew
 show (Code.rangeFunc (.tmp f) ps.toArray assign body).wpIn y.F 0 c.P (postX c.P y.F y.E k) a w
 refine wpIn_rangeFunc ?_
 intro fn hfn
 obtain ⟨D,hD⟩:∃ D,w.heap.size=D:=⟨_,rfl⟩
 obtain ⟨rec,hrec⟩:∃ rec:LoopState→Option Code→Loop,rec=fun st pe=>{ state:=st,pending:=pe,fn,tmps:=a.tmps,params:=ps.toArray,assign,body,defers:=D }:=⟨_,rfl⟩
 obtain ⟨W1,hW1⟩:∃ W1,(w.alloc (.deferred (some []))).alloc (.loop (rec .ready none))=W1:=⟨_,rfl⟩
 have hbD:y.bd≤D:=by rw [← hD];exact hy.size g w hL
 have hcD:c.w0.heap.size≤D:=by rw [← hD];exact hx.size
 have hdW:W1.heap[D]? = some (.deferred (some [])):=by
  rw [← hW1]
  refine (Go.RowKit.Below.heap_alloc _ _ _ (by simp;omega)).trans ?_
  rw [← hD];exact World.alloc_heap_new w _
 have hlW:W1.heap[D+1]? = some (.loop (rec .ready none)):=by
  rw [← hW1]
  have:=World.alloc_heap_new (w.alloc (.deferred (some []))) (.loop (rec .ready none))
  rwa [World.size_alloc,hD] at this
 have tW:Turned w.heap.size w W1:=by
  rw [← hW1]
  have t1:Turned w.heap.size w (w.alloc (.deferred (some []))):=turned_alloc (Nat.le_refl _)
  have t2:Turned w.heap.size (w.alloc (.deferred (some []))) ((w.alloc (.deferred (some []))).alloc (.loop (rec .ready none))):=turned_alloc (by simp)
  exact ⟨Nat.le_trans t1.size t2.size,t2.os.trans t1.os,t2.tape.trans t1.tape,t2.output.trans t1.output,fun b hb=>(t2.same b hb).trans (t1.same b hb),
   fun b o hb=>(t2.cell b o (by simp;omega)).trans (t1.cell b o hb),fun b vs ty h=>t2.keep _ _ _ (t1.keep _ _ _ h)⟩
 have core:=iter_core hy hps hvv S hS J Jx hJX hJxX hJh hJxh hlim hround hx hX hL r h0 hgo tW hlW (by omega) ⟨fn,D,hrec⟩
 refine ⟨D+1,[markD D],W1,{ target:=.fn (.func gf) lb,args:=#[.func (.yield (D+1)) #[] #[]] },W1,gf,
  #[.func (.yield (D+1)) #[] #[]]++lb,W1,?_,?_,fun _ _=>hy.fn _,?_,?_,?_⟩
 ·rw [← hW1,hrec,← hD,hF];exact run_enterLoop_outer _ _ _ _ _
 ·have he:a.eval (.tmp f)=.func (.func gf) #[] lb:=hev
  simp only [resolve,he]
  simp [go_sem,Deferred.ofValue,Act.eval]
 ·simp [invoke,callFunc,hc1,hc2',hc3']
 ·intro h;rw [hy.dp] at h;simp at h
 ·refine hy.ci (n:=0) (core.mono ?_)
  rintro e W2 ⟨⟨v,rfl⟩,gi,hi,X',e1,e2,e3,e4,q,hs,hob,hend⟩
  have hdf:W2.heap[D]? = some (.deferred (some [])):=hob D _ (by rintro (h|h);omega;have:=hy.lo D h;omega) hdW rfl
  have tail:∀ rr:Loop,W2.heap[D+1]? = some (.loop rr)→rr.state≠.busy→XSt y.bd X' →
    ∃ g5 w5,(Instr.endLoop (D+1)).run c.P W2=.ok rr.pending w5∧Ext c.g0 c.w0 g5 w5∧((y.mk1 D).at X').X g5 w5∧RelD [markD D] c.env c.n g5 w5 { a with defers:=[markD D]++a.defers } ⟨σ.tm,hi⟩:=by
   intro rr hlp hst hXS
   have t5:Turned (D+1) W2 (W2.putObj (D+1) (.loop { rr with state:=.exhausted })):=turned_put (Nat.le_refl _) hlp rfl rfl
   have d5:(W2.putObj (D+1) (.loop { rr with state:=.exhausted })).heap[D]? = some (.deferred (some [])):=(World.putObj_heap_other (by omega)).trans hdf
   refine ⟨_,_,run_endLoop hlp hst,(t5.ext (by omega) hlim e3).trans ext_dn,⟨hXS.ext _ _ _ _ ext_dn (hXS.turn _ _ _ _ (by omega) t5 q.limnew e1),hy.ext _ _ _ _ ext_dn (hy.turn _ _ _ _ (by omega) t5 q.limnew e2),d5,(dn_kept (Ext.refl _ _) d5 rfl).2⟩,
    ⟨⟨(t5.rel q).dn,fun t'=>((r.tm t').wrs _).mono ((t5.extF hlimg e4).trans ext_dn),r.size,rfl⟩,by simp [hdef]⟩⟩
  rcases hend with ⟨hJ,hlp⟩|⟨id,hJ,hlp⟩
  ·obtain ⟨g5,w5,f1,f2,f3,f4⟩:=tail _ hlp (by rw [hrec];simp) (hJX _ _ _ hJ)
   exact ⟨none,w5,by rw [f1,hrec],hdone D X' hi hbD (mk1_ok hy hbD) hJ hs g5 _ w5 f2 f3 f4⟩
  ·obtain ⟨g5,w5,f1,f2,f3,f4⟩:=tail _ hlp (by rw [hrec];simp) (hJxX _ _ _ hJ)
   refine ⟨some (jumpC id),w5,by rw [f1,hrec],?_⟩
   have:=hstop D id X' hi hbD (mk1_ok hy hbD) hJ hs g5 _ w5 f2 f3 f4
   cases id with
   | some id=>exact wpIn_exit this
   | none=>exact wpIn_ret this
end
section
variable {c:Ctx} {y:YC} (hy:YOk c y) (hfree:∀ b,c.g0.wr b=true) {C:Cons} {vs:List (List V)} (hC:ConsOk c.P c.env C vs) (hLo:∀ b,C.L b→y.Lo b) (hbd:C.bd≤y.bd)
include hy hfree hC hLo hbd
end
section
variable {c:Ctx} {y:YC} (hy:YOk c y) (hfree:∀ b,c.g0.wr b=true) {C:Cons} {vs:List (List V)} (hC:ConsOk c.P c.env C vs) (hLo:∀ b,C.L b→y.Lo b) (hbd:C.bd≤y.bd)
include hy hfree hC hLo hbd
end
def FzP (id:Id) (cs:List V) (v v':V):Prop:=v'=.undef∨v'=v∨∃ off,v=.ptr id off∧v'=.el cs off
theorem AR_freezeP {c:Ctx} {gen:Nat} {k:List It} {e:Exit} {σ:St} (id:Id) {cs:List V} {tm':Nat→V} {h':H}
  (hrel0:Rel c.env c.g0 c.w0 c.h0) (hb:σ.h id=some (.box cs)) (hrin:InL (fun j=>h' j≠none) cs) (hid:h' id=none)
  (hh:∀ j,h' j≠none→(h' j=σ.h j∧∀ bs,h' j=some (.box bs)→c.h0 j=some (.box bs)) ∨
   ∃ bs bs',σ.h j=some (.box bs)∧h' j=some (.box bs')∧bs.length=bs'.length∧(∀ (i:Nat) v v',bs[i]? = some v→bs'[i]? = some v'→FzP id cs v v')∧InL (fun j=>h' j≠none) bs')
  (hdom:∀ j,c.h0 j≠none→h' j≠none) (htm:∀ t,FzP id cs (σ.tm t) (tm' t)∧InV (fun j=>h' j≠none) (tm' t))
  (h:AR c gen k e ⟨tm',h'⟩):AR c gen k e σ:=by
 intro ok hm g a w hx r
 have q:=r.rel
 obtain ⟨vs,⟨ty,b1⟩,b2,b3,b4,b5⟩:=q.box id cs hb
 let g':G:={ g with dom:=fun j=>decide (h' j≠none),lim:=fun b=>if b=g.loc id then cs.length else g.lim b }
 have hl:∀ b,g.lim b≤g'.lim b:=fun b=>by
  show g.lim b≤if b=g.loc id then cs.length else g.lim b
  split
  ·rename_i e;rw [e,b4];omega
  ·exact Nat.le_refl _
 have hlo:∀ b,b≠g.loc id→g'.lim b=g.lim b:=fun b hb=>by show (if b=g.loc id then _ else g.lim b)=_;rw [if_neg hb]
 have hS:∀ j,h' j≠none→g'.dom j=true∧g'.loc j=g.loc j∧g'.buf j=g.buf j:=fun j hj=>⟨by show decide (h' j≠none)=true;simpa using hj,rfl,rfl⟩
 have hmv:∀ {c:Value} {v:V},RV g w c v→InV (fun j=>h' j≠none) v→RV g' w c v:=fun h1 h2=>h1.freeze hl hS h2
 have hsame:∀ j,h' j≠none→∃ ob,σ.h j=some ob:=fun j hj=>by
  rcases hh j hj with ⟨h1,_⟩|⟨bs,bs',h1,_⟩
  ·rw [← h1];cases hj':h' j with
   | none=>exact absurd hj' hj
   | some ob=>exact ⟨ob,rfl⟩
  ·exact ⟨_,h1⟩
 have hx':Ext c.g0 c.w0 g' w:=by
  refine ⟨hx.os,hx.tape,hx.output,hx.size,fun b=>Nat.le_trans (hx.lim b) (hl b),hx.cells,hx.wr,fun j hj=>?_,hx.top⟩
  obtain ⟨_,a2,a3⟩:=hx.dom j hj
  exact ⟨by show decide (h' j≠none)=true;simpa using hdom j ((hrel0.dom j).1 hj),a2,a3⟩
 have hrow:∀ off,RV g' w (.pointer (some ⟨g.loc id,off,none⟩)) (.el cs off):=fun off=>by
  have:RV g' w (.pointer (some ⟨g.loc id,0+off,none⟩)) (.el cs off):=by
   refine .el _ 0 cs off (fun i=>vs[i]?.getD undef) ?_ (fun i hi=>?_) (fun i v hv=>?_)
   ·show 0+_≤if g.loc id=g.loc id then cs.length else _
    rw [if_pos rfl];omega
   ·rw [Nat.zero_add]
    have:i<vs.size:=by omega
    simp [World.cell?,b1,this]
   ·obtain ⟨c0,hc1,hc2⟩:=(show RVL g w vs cs from ⟨b2,b3⟩).at hv
    simp only [hc1,Option.getD_some]
    exact hmv hc2 (InL_get hrin hv)
  rwa [Nat.zero_add] at this
 have hfz:∀ {cv:Value} {v v':V},RV g w cv v→FzP id cs v v'→InV (fun j=>h' j≠none) v'→RV g' w cv v':=by
  intro cv v v' h1 h2 h3
  rcases h2 with rfl|rfl|⟨off,rfl,rfl⟩
  ·exact .undef _
  ·exact hmv h1 h3
  ·cases h1 with
   | ptr _ _ _=>exact hrow off
 have hboxes:∀ j bs',h' j=some (.box bs')→∃ bs,σ.h j=some (.box bs)∧bs.length=bs'.length∧∀ (vs:Array Value),RVL g w vs bs→RVL g' w vs bs':=by
  intro j bs' e'
  rcases hh j (by rw [e'];simp) with ⟨h1,h2⟩|⟨bs,bs2,h1,h2,h3,h4,h5⟩
  ·have h0:=h2 bs' e'
   refine ⟨bs',by rw [← h1];exact e',rfl,fun vs hv=>⟨hv.1,fun i cv v hc hv'=>hmv (hv.2 i cv v hc hv') ?_⟩⟩
   obtain ⟨vs0,_,z2,z3,_⟩:=hrel0.box j bs' h0
   obtain ⟨c0,hc0⟩:=RVL_get (g:=c.g0) (w:=c.w0) z2 hv'
   have:=(z3 i c0 v hc0 hv').inV
   exact InV_mono (fun id hid=>hdom id ((hrel0.dom id).1 hid)) v this
  ·rw [e'] at h2;cases h2
   refine ⟨bs,h1,h3,fun vs hv=>⟨by rw [hv.1,h3],fun i cv v hc hv'=>?_⟩⟩
   have hi:i<bs.length:=by rw [h3];exact (List.getElem?_eq_some_iff.1 hv').1
   have hbi:bs[i]? = some bs[i]:=List.getElem?_eq_getElem hi
   exact hfz (hv.2 i cv _ hc hbi) (h4 i _ _ hbi hv') (InL_get h5 hv')
 have hne:∀ j bs',h' j=some (.box bs')→g.loc j≠g.loc id:=fun j bs' e' e2=>by
  obtain ⟨bs,h1,_⟩:=hboxes j bs' e'
  have:=q.inj j id bs cs h1 hb e2
  rw [this,hid] at e';cases e'
 have htok:∀ j n' k',h' j=some (.tok n' k')→σ.h j=some (.tok n' k'):=fun j n' k' e'=>by
  rcases hh j (by rw [e'];simp) with ⟨h1,_⟩|⟨bs,bs2,_,h2,_⟩
  ·rw [← h1];exact e'
  ·rw [e'] at h2;cases h2
 refine h ok hm g' a w hx' ⟨?_,fun t=>?_,r.size,r.defers⟩
 ·refine ⟨fun j=>by show decide (h' j≠none)=true↔_;simp,fun j hj=>?_,?_,?_,?_,?_,?_,?_,?_⟩
  ·obtain ⟨ob,ho⟩:=hsame j hj
   exact q.top j (by rw [ho];simp)
  ·intro j bs' e'
   obtain ⟨bs,h1,h2,h3⟩:=hboxes j bs' e'
   obtain ⟨vs',c1,c2,c3,c4,c5⟩:=q.box j bs h1
   have:=h3 vs' ⟨c2,c3⟩
   exact ⟨vs',c1,this.1,this.2,by show g'.lim (g.loc j)=0;rw [hlo _ (hne j bs' e')];exact c4,c5⟩
  ·intro i1 i2 c1 c2 e1 e2 e3
   obtain ⟨d1,f1,_⟩:=hboxes i1 c1 e1
   obtain ⟨d2,f2,_⟩:=hboxes i2 c2 e2
   exact q.inj i1 i2 d1 d2 f1 f2 e3
  ·intro j n' k' e'
   obtain ⟨h1,h2,h3,hk⟩:=q.tok j n' k' (htok j n' k' e')
   refine ⟨h1,h2,fun hlt=>?_,hk⟩
   obtain ⟨b,off,vs',s1,s2,s3,s4,s5⟩:=h3 hlt
   have:=q.apart j id n' k' cs (htok j n' k' e') hlt hb _ s1
   exact ⟨b,off,vs',s1,s2,s3,by rw [hlo b this];exact s4,s5⟩
  ·intro i1 i2 n' k' c' e1 hlt e2
   obtain ⟨d2,f2,_⟩:=hboxes i2 c' e2
   exact q.apart i1 i2 n' k' d2 (htok i1 n' k' e1) hlt f2
  ·intro i1 i2 n1 n2 k1 k2 e1 hlt e2 hlt2
   exact q.apart2 i1 i2 n1 n2 k1 k2 (htok _ _ _ e1) hlt (htok _ _ _ e2) hlt2
  ·intro b hb'
   rw [hlo b (by have:=q.lt hb;omega)];exact q.limnew b hb'
  ·intro k cs' e'
   refine hmv (q.glob k cs' e') ?_
   have:=(hrel0.glob k cs' e').inV
   exact InV_mono (fun id hid=>hdom id ((hrel0.dom id).1 hid)) _ this
 ·exact hfz (r.tm t) (htm t).1 (htm t).2
theorem AR_freezePL {c:Ctx} {gen:Nat} {k:List It} {e:Exit} {σ:St} (id:Id) (L:List (Nat × V)) (B:List (Id × List V × List V)) {cs:List V} {h':H} {tm':Nat→V}
  (hh':h'=B.foldr (fun b h=>hset h b.1 (.box b.2.2)) c.h0) (htm':tm'=L.foldr (fun p tm=>upd tm (some p.1) p.2) (fun _=>.undef))
  (hrel0:Rel c.env c.g0 c.w0 c.h0) (hb:σ.h id=some (.box cs)) 
  (h0:c.h0 id=none) (hnot:∀ b∈B,b.1≠id) (hag:Agree c.h0 σ.h)
  (hrin:InL (fun j=>h' j≠none) cs)
  (hB:∀ b∈B,c.h0 b.1=none∧σ.h b.1=some (.box b.2.1)∧b.2.1.length=b.2.2.length∧(∀ p∈b.2.1.zip b.2.2,FzP id cs p.1 p.2)∧InL (fun j=>h' j≠none) b.2.2)
  (hL:∀ p∈L,FzP id cs (σ.tm p.1) p.2∧InV (fun j=>h' j≠none) p.2)
  (h:AR c gen k e ⟨tm',h'⟩):AR c gen k e σ:=by
 have key:∀ (B':List (Id × List V × List V)) (j:Id),(B'.foldr (fun b h=>hset h b.1 (.box b.2.2)) c.h0) j=c.h0 j∨∃ b∈B',b.1=j∧(B'.foldr (fun b h=>hset h b.1 (.box b.2.2)) c.h0) j=some (.box b.2.2):=by
  intro B' j
  induction B' with
  | nil=>exact .inl rfl
  | cons b B' ih =>
   by_cases hj:j=b.1
   ·right;exact ⟨b,by simp,hj.symm,by simp only [List.foldr_cons];rw [hj,hset_same]⟩
   ·simp only [List.foldr_cons]
    rw [hset_other hj]
    rcases ih with h|⟨b',h1,h2,h3⟩
    ·exact .inl h
    ·exact .inr ⟨b',by simp [h1],h2,h3⟩
 have keyT:∀ (L':List (Nat × V)) (t:Nat),(L'.foldr (fun p tm=>upd tm (some p.1) p.2) (fun _=>V.undef)) t=.undef∨∃ p∈L',p.1=t∧(L'.foldr (fun p tm=>upd tm (some p.1) p.2) (fun _=>V.undef)) t=p.2:=by
  intro L' t
  induction L' with
  | nil=>exact .inl rfl
  | cons p L' ih =>
   simp only [List.foldr_cons,upd]
   by_cases ht:t=p.1
   ·right;exact ⟨p,by simp,ht.symm,by rw [if_pos ht]⟩
   ·rw [if_neg ht]
    rcases ih with h|⟨b',h1,h2,h3⟩
    ·exact .inl h
    ·exact .inr ⟨b',by simp [h1],h2,h3⟩
 refine AR_freezeP id hrel0 hb hrin ?_ ?_ ?_ ?_ h
 ·rcases key B id with h1|⟨b,h1,h2,_⟩
  ·rw [hh',h1];exact h0
  ·exact absurd h2 (hnot b h1)
 ·intro j hj
  rcases key B j with h1|⟨b,h1,h2,h3⟩
  ·left
   have e1:h' j=c.h0 j:=by rw [hh'];exact h1
   rw [e1] at hj ⊢
   exact ⟨(hag j hj).symm,fun bs hbs=>hbs⟩
  ·right
   obtain ⟨_,b1,b2,b3,b4⟩:=hB b h1
   subst h2
   refine ⟨_,_,b1,by rw [hh'];exact h3,b2,fun i v v' hv hv'=>?_,b4⟩
   refine b3 (v,v') ?_
   have:(b.2.1.zip b.2.2)[i]? = some (v,v'):=by rw [List.getElem?_zip_eq_some];exact ⟨hv,hv'⟩
   exact List.mem_of_getElem? this
 ·intro j hj
  rcases key B j with h1|⟨b,h1,h2,h3⟩
  ·rw [hh',h1];exact hj
  ·rw [hh',h3];simp
 ·intro t
  rcases keyT L t with h1|⟨p,h1,h2,h3⟩
  ·rw [htm',h1];exact ⟨.inl rfl,by rw [InV];trivial⟩
  ·subst h2
   rw [htm',h3];exact hL p h1
def numP (n:Nat):PVl:=.mk 1 n [] []
def listP (l:List Nat):PVl:=.mk 2 0 (l.map fun (n:Nat)=>(n:Int)) []
def unitP:PVl:=.mk 4 0 [] []
def pairP (a b:PVl):PVl:=.mk 3 0 [] [a,b]
def valsN (b:Nat):List PVl:=(List.range b).map numP
def valsL (b:Nat):List PVl:=listP []::((List.range b).map fun a=>listP [a])++(List.range b).flatMap fun a=>(List.range b).map fun c=>listP [a,c]
def valsP (l r:List PVl):List PVl:=l.flatMap fun a=>r.map fun c=>pairP a c
inductive PlT:Ty→Prop
 | nat:PlT tNat
 | list:PlT tList
 | unit:PlT tUnit
 | pair {a b:Ty}:PlT a→PlT b→PlT (tPair a b)
def vals (b:Nat):Ty→List PVl
 | .mk 2 _=>valsL b
 | .mk 5 _=>[unitP]
 | .mk 3 [x,y]=>valsP (vals b x) (vals b y)
 | _=>valsN b
def rows (l:List PVl):List (List V):=l.map fun v=>[V.agg v.cells]
end GoAbs
