/-
 The abstract layer: plain laws.
-/
import Derived.Test.YteaijonkbbkkjaaGreatDoorAbsC
import Derived.Test.YteaijonkbbkkjaaGreatDoorAbsB
set_option linter.unusedSimpArgs false
set_option linter.unusedVariables false
set_option linter.unusedSectionVars false
namespace GoAbs
open Go
theorem Ty.aj3 (k:Int) (l:List Ty):(Ty.mk k l).nodes=match ap7 k with|none=>none|some w=>if (l.length:Int)==w then Ty.C0 1 l else none:=by rw [Ty.nodes];rfl
theorem Tm.aj3 (k i:Int) (t:Ty) (l:List Tm):(Tm.mk k i t l).nodes=if O5 k i t l.length then Tm.C0 1 l else none:=by rw [Tm.nodes]
theorem Fm.aj3 (k:Int) (t:Ty) (l:List Tm) (a:List Fm) :
  (Fm.mk k t l a).nodes=if formed k t l.length a.length then (match Tm.C0 1 l with|none=>none|some n=>Fm.C0 n a) else none:=by rw [Fm.nodes];rfl
mutual
def D7:Ty→Nat
 | .mk _ l=>bb9 l+1
def bb9:List Ty→Nat
 | []=>0
 | t::l=>D7 t+bb9 l
end
theorem L7:D7 r5=1:=by simp [r5,D7,bb9]
theorem S2:D7 C8=1:=by simp [C8,D7,bb9]
theorem ag7:D7 S5=1:=by simp [S5,D7,bb9]
theorem P0 {a b:Ty}:D7 (E9 a b)=D7 a+D7 b+1:=by simp [E9,D7,bb9]
theorem M6 {a b:Ty}:D7 (G1 a b)=D7 a+D7 b+1:=by simp [G1,D7,bb9]
theorem bv8 (t:Ty):1≤D7 t:=by cases t;simp [D7]
theorem bi1 {k:Int} {a b:Ty} {x y:Nat} (hk:k=3∨k=4) (ha:a.nodes=some (x:Int)) (hb:b.nodes=some (y:Int)) (h:x+y+1≤1000000) :
  (Ty.mk k [a,b]).nodes=some ((x+y+1:Nat):Int):=by
 have hw:ap7 k=some 2:=by rcases hk with rfl|rfl<;>rfl
 rw [Ty.aj3,hw];have hl:(([a,b]:List Ty).length:Int)=2:=rfl;simp only [hl,beq_self_eq_true,if_true];have e1:IntKind.i64.wrap (1+(x:Int))=((x+1:Nat):Int):=w8 om_ om_ om_;have e2:IntKind.i64.wrap (((x+1:Nat):Int)+(y:Int))=((x+y+1:Nat):Int):=w8 om_ om_ om_;rw [Ty.H7 ha,Ty.H7 hb,Ty.K7,e1,e2]
theorem TyF.nodes {t:Ty} (h:TyF t):D7 t≤1000000→t.nodes=some (D7 t:Int):=by
 induction h with
 | nat=>intro _;rfl
 | list=>intro _;rfl
 | unit=>intro _;rfl
 | pair _ _ h1 h2=>intro hs;rw [P0] at hs ⊢;exact bi1 (.inl rfl) (h1 om_) (h2 om_) om_
 | func _ _ h1 h2=>intro hs;rw [M6] at hs ⊢;exact bi1 (.inr rfl) (h1 om_) (h2 om_) om_
def TyG (t:Ty):Prop:=TyF t∧D7 t≤64
theorem TyF.err {t:Ty} (h:TyF t) (hs:D7 t≤1000000):ac2 t=if D7 t≤64 then 0 else 4:=by
 unfold ac2;rw [h.nodes hs,chk];by_cases h64:D7 t≤64
 ·rw [if_neg om_,if_pos h64]
 ·rw [if_pos om_,if_neg h64]
theorem TyG.err {t:Ty} (h:TyG t):ac2 t=0:=by rw [h.1.err (by have:=h.2;omega),if_pos h.2]
theorem TyG.nat:TyG r5:=⟨.nat,by rw [L7];omega⟩
theorem TyG.list:TyG C8:=⟨.list,by rw [S2];omega⟩
theorem TyG.unit:TyG S5:=⟨.unit,by rw [ag7];omega⟩
theorem TyG.bQ2 {a b:Ty} (h:TyG (E9 a b)):TyG a∧TyG b:=by
 obtain ⟨h1,h2⟩:=h;rw [P0] at h2;cases h1 with|pair ha hb=>exact ⟨⟨ha,om_⟩,⟨hb,om_⟩⟩
theorem TyG.ce2 {a b:Ty} (h:TyG (G1 a b)):TyG a∧TyG b:=by
 obtain ⟨h1,h2⟩:=h;rw [M6] at h2;cases h1 with|func ha hb=>exact ⟨⟨ha,om_⟩,⟨hb,om_⟩⟩
theorem V9.sz0 {t:Ty} (h:V9 0 t):D7 t=1:=by
 cases h with
 | nat=>exact L7
 | list=>exact S2
 | unit=>exact ag7
theorem V9.sz1 {t:Ty} (h:V9 1 t):D7 t≤3:=by
 cases h with
 | nat=>rw [L7];omega
 | list=>rw [S2];omega
 | unit=>rw [ag7];omega
 | pair h1 h2=>rw [P0,h1.sz0,h2.sz0];omega
 | func h1 h2=>rw [M6,h1.sz0,h2.sz0];omega
theorem V9.G {n:Nat} (hn:n≤1) {t:Ty} (h:V9 n t):TyG t:=⟨h.F,by have:=(h.up hn).sz1;omega⟩
inductive TmG:Tm→Prop
 | plain {k:Int} {l:List Tm} {a:Int} (ha:arity k=some a) (hl:(l.length:Int)=a) (ht:typed k=false) (h:∀ x∈l,TmG x):TmG (tm0 k l)
 | var {i:Int} (hi:0≤i):TmG (u5 i)
 | typd {k:Int} {t:Ty} {l:List Tm} {a:Int} (ha:arity k=some a) (hl:(l.length:Int)=a) (ht:typed k=true) (hg:TyG t) (h:∀ x∈l,TmG x):TmG (tmT k t l)
theorem ar4:arity 4=some 0:=rfl
theorem ar5:arity 5=some 1:=rfl
theorem ar3:arity 3=some 2:=rfl
theorem ar2:arity 2=some 1:=rfl
theorem ar6:arity 6=some 3:=rfl
theorem ar7:arity 7=some 0:=rfl
theorem ar8:arity 8=some 2:=rfl
theorem ar9:arity 9=some 3:=rfl
theorem cT2:arity 10=some 2:=rfl
theorem dl8:arity 11=some 1:=rfl
theorem dl1:arity 12=some 1:=rfl
theorem di7:arity 13=some 0:=rfl
theorem TmG.t0 {k:Int} (ha:arity k=some 0) (ht:typed k=false):TmG (tm0 k []):=.plain ha rfl ht sp_
theorem TmG.t1 {k:Int} {a:Tm} (ha:arity k=some 1) (ht:typed k=false) (h1:TmG a):TmG (tm0 k [a]):=.plain ha rfl ht (by simp [h1])
theorem TmG.t2 {k:Int} {a b:Tm} (ha:arity k=some 2) (ht:typed k=false) (h1:TmG a) (h2:TmG b):TmG (tm0 k [a,b]):=.plain ha rfl ht (by simp [h1,h2])
theorem TmG.lam {t:Ty} {a:Tm} (hg:TyG t) (h1:TmG a):TmG (tmT 2 t [a]):=.typd ar2 rfl rfl hg (by simp [h1])
theorem TmG.av8 {t:Ty} {a b c:Tm} (hg:TyG t) (h1:TmG a) (h2:TmG b) (h3:TmG c):TmG (tmT 6 t [a,b,c]):=.typd ar6 rfl rfl hg (by simp [h1,h2,h3])
theorem TmG.fold {t:Ty} {a b c:Tm} (hg:TyG t) (h1:TmG a) (h2:TmG b) (h3:TmG c):TmG (tmT 9 t [a,b,c]):=.typd ar9 rfl rfl hg (by simp [h1,h2,h3])
theorem at6:∀ n,TmG (C5 n)
 | 0=>.t0 ar4 rfl
 | n+1=>.t1 ar5 rfl (at6 n)
theorem ao1 {t:Tm} (h:TmG t):TmG (ad6 t):=.lam .nat h
theorem bI7 {a b c:Tm} (h1:TmG a) (h2:TmG b) (h3:TmG c):TmG (aY9 a b c):=.av8 .nat h1 h2 h3
theorem bA2:TmG (u5 0):=.var om_
theorem cT9:TmG (u5 1):=.var om_
theorem cC4:TmG aq5:=ao1 (bI7 (.t0 ar4 rfl) (ao1 (ao1 cT9)) bA2)
theorem cB6:TmG aK1:=ao1 (ao1 (bI7 cT9 (ao1 (ao1 (.t1 ar5 rfl bA2))) bA2))
theorem bI1:TmG an8:=ao1 (ao1 (bI7 cT9 (ao1 (ao1 (.t2 ar3 rfl cC4 bA2))) bA2))
theorem L2.G {n:Nat} {g:List Ty} {t:Ty} {x:Tm} (h:L2 n g t x) (hg:∀ y∈g,TyG y) (ht:TyG t):TmG x:=by
 have app:∀ {g l:List Ty},(∀ y∈g,TyG y)→(∀ y∈l,TyG y)→∀ y∈g++l,TyG y:=by
  intro g l h1 h2 y hy;rcases List.mem_append.1 hy with hy|hy
  ·exact h1 y hy
  ·exact h2 y hy
 induction h with
 | var=>exact .var om_
 | app hs _ _ h1 h2 =>
  have hsG:=hs.G om_;exact .t2 ar3 rfl (.lam hsG (h1 (app hg (by simp [hsG])) ht)) (h2 hg hsG)
 | fst hs _ _ h1 h2=>exact .t1 dl8 rfl (.t2 cT2 rfl (h1 hg ht) (h2 hg (hs.G om_)))
 | snd hs _ _ h1 h2=>exact .t1 dl1 rfl (.t2 cT2 rfl (h1 hg (hs.G om_)) (h2 hg ht))
 | av8 hk _ _ h1 h2=>exact .av8 ht (h2 hg ht) (.lam .nat (.lam ht (h1 (app hg (by simp [ht,TyG.nat])) ht))) (at6 _)
 | fold _ _ _ h1 h2 h3=>exact .fold ht (h2 hg ht) (.lam .nat (.lam .list (.lam ht (h1 (app hg (by simp [ht,TyG.nat,TyG.list])) ht)))) (h3 hg .list)
 | fapp hi h _ h1=>exact .t2 ar3 rfl (.var om_) (h1 hg (hg _ (List.mem_of_getElem? h)).ce2.1)
 | succ _ h1=>exact .t1 ar5 rfl (h1 hg ht)
 | plus _ _ h1 h2=>exact .t2 ar3 rfl (.t2 ar3 rfl cB6 (h1 hg ht)) (h2 hg ht)
 | sub _ _ h1 h2=>exact .t2 ar3 rfl (.t2 ar3 rfl bI1 (h1 hg ht)) (h2 hg ht)
 | num=>exact at6 _
 | cons _ _ h1 h2=>exact .t2 ar8 rfl (h1 hg .nat) (h2 hg ht)
 | nil=>exact .t0 ar7 rfl
 | pair _ _ h1 h2=>exact .t2 cT2 rfl (h1 hg ht.bQ2.1) (h2 hg ht.bQ2.2)
 | lam _ h1=>exact .lam ht.ce2.1 (h1 (app hg (by simp [ht.ce2.1])) ht.ce2.2)
 | unit=>exact .t0 di7 rfl
inductive FmG (u:Bool):Fm→Prop
 | eq {x y:Tm}:TmG x→TmG y→FmG u (M3 x y)
 | two {k:Int} {a b:Fm} (hk:k=2∨k=3):FmG u a→FmG u b→FmG u (E8 k a b)
 | q {k:Int} {s:Ty} {a:Fm} (hk:k=4∨k=5∨(u=true∧(k=6∨k=7))) (hs:TyG s):FmG u a→FmG u (fmQ k s a)
mutual
def m7:Tm→Nat
 | .mk _ _ _ l=>F8 l+1
def F8:List Tm→Nat
 | []=>0
 | t::l=>m7 t+F8 l
end
mutual
def z6:Fm→Nat
 | .mk _ _ l a=>F8 l+an7 a+1
def an7:List Fm→Nat
 | []=>0
 | t::l=>z6 t+an7 l
end
theorem ap9 {k:Int}:m7 (tm0 k [])=1:=by simp [tm0,m7,F8]
theorem ao7 {k:Int}:m7 (u5 k)=1:=by simp [u5,m7,F8]
theorem av6 {k:Int} {a:Tm}:m7 (tm0 k [a])=m7 a+1:=by simp [tm0,m7,F8]
theorem Q4 {k:Int} {a b:Tm}:m7 (tm0 k [a,b])=m7 a+m7 b+1:=by simp [tm0,m7,F8]
theorem P9 {k:Int} {t:Ty} {a:Tm}:m7 (tmT k t [a])=m7 a+1:=by simp [tmT,m7,F8]
theorem ai6 {k:Int} {t:Ty} {a b c:Tm}:m7 (tmT k t [a,b,c])=m7 a+(m7 b+m7 c)+1:=by simp [tmT,m7,F8]
theorem S4:∀ n,m7 (C5 n)=n+1
 | 0=>by rw [C5,ap9]
 | n+1=>by rw [C5,av6,S4 n]
theorem V6 {x y:Tm}:z6 (M3 x y)=m7 x+m7 y+1:=by simp [M3,z6,an7,F8]
theorem O0 {k:Int} {x y:Fm}:z6 (E8 k x y)=z6 x+z6 y+1:=by simp [E8,z6,an7,F8]
theorem ap8 {k:Int} {t:Ty} {x:Fm}:z6 (fmQ k t x)=z6 x+1:=by simp [fmQ,z6,an7,F8]
theorem bW0:m7 aK1=9:=by simp [aK1,ad6,aY9,P9,ai6,ao7,av6]
theorem aK7:m7 an8=16:=by simp [an8,aq5,ad6,aY9,P9,ai6,ao7,av6,Q4,ap9]
theorem Tm.ai0:∀ {l:List Tm} {n:Nat},(∀ x∈l,m7 x≤1000000→x.nodes=some (m7 x:Int))→n+F8 l≤1000000 →
  Tm.C0 (n:Int) l=some ((n+F8 l:Nat):Int)
 | [],n,_,_=>by rw [Tm.K7];simp [F8]
 | x::l,n,h,hs=>by
  rw [F8] at hs;have e:IntKind.i64.wrap ((n:Int)+(m7 x:Int))=((n+m7 x:Nat):Int):=w8 om_ om_ om_;rw [Tm.H7 (h x sp_ om_),e,Tm.ai0 (fun y hy=>h y (by simp [hy])) om_,F8,Nat.add_assoc]
theorem Fm.ai0:∀ {l:List Fm} {n:Nat},(∀ x∈l,z6 x≤1000000→x.nodes=some (z6 x:Int))→n+an7 l≤1000000 →
  Fm.C0 (n:Int) l=some ((n+an7 l:Nat):Int)
 | [],n,_,_=>by rw [Fm.K7];simp [an7]
 | x::l,n,h,hs=>by
  rw [an7] at hs;have e:IntKind.i64.wrap ((n:Int)+(z6 x:Int))=((n+z6 x:Nat):Int):=w8 om_ om_ om_;rw [Fm.H7 (h x sp_ om_),e,Fm.ai0 (fun y hy=>h y (by simp [hy])) om_,an7,Nat.add_assoc]
theorem I3:∀ {l:List Tm} {x:Tm},x∈l→m7 x≤F8 l
 | y::l,x,h=>by
  rw [F8];rcases List.mem_cons.1 h with rfl|h
  ·omega
  ·have:=I3 h;omega
theorem Tm.ao8 {k i:Int} {t:Ty} {l:List Tm} (h:O5 k i t l.length=true) (ih:∀ x∈l,m7 x≤1000000→x.nodes=some (m7 x:Int)) (hs:m7 (.mk k i t l)≤1000000) :
  (Tm.mk k i t l).nodes=some (m7 (.mk k i t l):Int):=by
 rw [m7] at hs ⊢;have:=Tm.ai0 (n:=1) ih om_;rw [Tm.aj3,h];simp only [if_true];rw [Nat.add_comm (F8 l) 1];exact this
theorem TmG.ae0 {t:Tm} (h:TmG t):m7 t≤1000000→t.nodes=some (m7 t:Int):=by
 induction h with
 | @plain k l a ha hl ht _ ih =>
  have:O5 k 0 (.mk 0 []) l.length=true:=by simp [O5,ha,hl,ht,aa0,Ty.kind,Ty.args]
  exact Tm.ao8 this ih
 | @var i hi =>
  have:O5 1 i (.mk 0 []) ([]:List Tm).length=true:=by simp [O5,arity,arities,hi,typed,aa0,Ty.kind,Ty.args]
  exact Tm.ao8 this sp_
 | @typd k t l a ha hl ht hg _ ih =>
  have:O5 k 0 t l.length=true:=by simp [O5,ha,hl,ht,hg.err]
  exact Tm.ao8 this ih
theorem Fm.ao8 {k:Int} {t:Ty} {l:List Tm} {a:List Fm} (h:formed k t l.length a.length=true) (hl:∀ x∈l,TmG x)
  (ih:∀ x∈a,z6 x≤1000000→x.nodes=some (z6 x:Int)) (hs:z6 (.mk k t l a)≤1000000):(Fm.mk k t l a).nodes=some (z6 (.mk k t l a):Int):=by
 rw [z6] at hs ⊢;have h1:=Tm.ai0 (n:=1) (l:=l) (fun x hx=>(hl x hx).ae0) om_;have h2:=Fm.ai0 (n:=1+F8 l) ih om_;rw [Fm.aj3,h];have h1':Tm.C0 1 l=some ((1+F8 l:Nat):Int):=h1;simp only [if_true,h1'];rw [h2];congr 2;omega
theorem FmG.ae0 {u:Bool} {f:Fm} (h:FmG u f):z6 f≤1000000→f.nodes=some (z6 f:Int):=by
 induction h with
 | @eq x y h1 h2=>exact Fm.ao8 rfl (by simp [h1,h2]) sp_
 | @two k a b hk _ _ h1 h2 =>
  have:formed k (.mk 0 []) ([]:List Tm).length [a,b].length=true:=by rcases hk with rfl|rfl<;>rfl
  exact Fm.ao8 this sp_ (fun x hx=>by simp at hx;rcases hx with rfl|rfl<;>assumption)
 | @q k s a hk hs _ h1 =>
  have:formed k s ([]:List Tm).length [a].length=true:=by
   rcases hk with rfl|rfl|⟨_,rfl|rfl⟩<;>simp [formed,au2,hs.err]
  exact Fm.ao8 this sp_ (by intro x hx;simp at hx;subst hx;exact h1)
theorem FmG.bp0 {u:Bool} {f:Fm} (h:FmG u f) (hs:z6 f≤1000000):P5 f=if z6 f≤4096 then 0 else 4:=by
 unfold P5;rw [h.ae0 hs,chk];by_cases h64:z6 f≤4096
 ·rw [if_neg om_,if_pos h64]
 ·rw [if_pos om_,if_neg h64]
def aq4 (M:Nat):Nat→Nat
 | 0=>3 * M
 | n+1=>40+3 * aq4 M n
theorem bQ0 (M:Nat):∀ n,3 * M≤aq4 M n
 | 0=>Nat.le_refl _
 | n+1=>by have:=bQ0 M n;rw [aq4];omega
theorem L2.sz {M:Nat} (hM:1≤M) {n:Nat} {g:List Ty} {t:Ty} {x:Tm} (h:L2 n g t x) (hg:∀ y∈g,D7 y≤M) (ht:D7 t≤M) :
  m7 x≤aq4 M n∧(n=0→m7 x≤3 * D7 t):=by
 have app:∀ {g l:List Ty},(∀ y∈g,D7 y≤M)→(∀ y∈l,D7 y≤M)→∀ y∈g++l,D7 y≤M:=by
  intro g l h1 h2 y hy;rcases List.mem_append.1 hy with hy|hy
  ·exact h1 y hy
  ·exact h2 y hy
 have nat1:D7 r5≤M:=by rw [L7];exact hM
 have list1:D7 C8≤M:=by rw [S2];exact hM
 have small:∀ {n:Nat} {t:Ty} {x:Tm},m7 x≤3→m7 x≤aq4 M n∧(n=0→m7 x≤3 * D7 t):=by
  intro n t x hx;have:=bQ0 M n;have:=bv8 t;exact ⟨om_,fun _=>by omega⟩
 induction h with
 | var=>exact small (by rw [ao7];omega)
 | @app n g t s b x hs _ _ h1 h2 =>
  have s1:D7 s≤M:=by rw [hs.sz0];exact hM
  have a1:=(h1 (app hg (by simpa using s1)) ht).1;have a2:=(h2 hg s1).1;exact ⟨by rw [Q4,P9,aq4];omega,fun h=>by omega⟩
 | @fst n g t s x y hs _ _ h1 h2 =>
  have s1:D7 s≤M:=by rw [hs.sz0];exact hM
  have a1:=(h1 hg ht).1;have a2:=(h2 hg s1).1;exact ⟨by rw [av6,Q4,aq4];omega,fun h=>by omega⟩
 | @snd n g t s x y hs _ _ h1 h2 =>
  have s1:D7 s≤M:=by rw [hs.sz0];exact hM
  have a1:=(h1 hg s1).1;have a2:=(h2 hg ht).1;exact ⟨by rw [av6,Q4,aq4];omega,fun h=>by omega⟩
 | av8 hk _ _ h1 h2 =>
  have a1:=(h1 (app hg (by simp [nat1,ht])) ht).1;have a2:=(h2 hg ht).1;exact ⟨by rw [ai6,P9,P9,S4,aq4];omega,fun h=>by omega⟩
 | fold _ _ _ h1 h2 h3 =>
  have a1:=(h1 (app hg (by simp [nat1,list1,ht])) ht).1;have a2:=(h2 hg ht).1;have a3:=(h3 hg list1).1;exact ⟨by rw [ai6,P9,P9,P9,aq4];omega,fun h=>by omega⟩
 | fapp hi h _ h1 =>
  have s1:=hg _ (List.mem_of_getElem? h);rw [M6] at s1;have a1:=(h1 hg om_).1;exact ⟨by rw [Q4,ao7,aq4];omega,fun h=>by omega⟩
 | succ _ h1 =>
  have a1:=(h1 hg ht).1;exact ⟨by rw [av6,aq4];omega,fun h=>by omega⟩
 | plus _ _ h1 h2 =>
  have a1:=(h1 hg ht).1;have a2:=(h2 hg ht).1;exact ⟨by rw [Q4,Q4,bW0,aq4];omega,fun h=>by omega⟩
 | sub _ _ h1 h2 =>
  have a1:=(h1 hg ht).1;have a2:=(h2 hg ht).1;exact ⟨by rw [Q4,Q4,aK7,aq4];omega,fun h=>by omega⟩
 | num hk=>exact small (by rw [S4];omega)
 | cons _ _ h1 h2 =>
  have a1:=(h1 hg nat1).1;have a2:=(h2 hg ht).1;exact ⟨by rw [Q4,aq4];omega,fun h=>by omega⟩
 | nil=>exact small (by rw [ap9];omega)
 | @pair n g a b x y _ _ h1 h2 =>
  rw [P0] at ht;have a1:=h1 hg om_;have a2:=h2 hg om_;rw [Q4,P0];cases n with
  | zero =>
   have b1:=a1.2 rfl;have b2:=a2.2 rfl;exact ⟨by rw [aq4];omega,fun _=>by omega⟩
  | succ n =>
   have b1:=a1.1;have b2:=a2.1;simp only [Nat.add_sub_cancel] at b1 b2;exact ⟨by rw [aq4];omega,fun h=>by omega⟩
 | @lam n g a b x _ h1 =>
  rw [M6] at ht;have a1:=h1 (app hg (by simp;omega)) om_;rw [P9,M6];cases n with
  | zero =>
   have b1:=a1.2 rfl;exact ⟨by rw [aq4];omega,fun _=>by omega⟩
  | succ n =>
   have b1:=a1.1;simp only [Nat.add_sub_cancel] at b1;exact ⟨by rw [aq4];omega,fun h=>by omega⟩
 | unit=>exact small (by rw [ap9];omega)
def x4 (a b:Int):Int:=IntKind.i64.wrap (a+b)
def ab8 (a b:Int):Int:=IntKind.i64.wrap (a - b)
mutual
def Ty.szW:Ty→Int
 | .mk _ l=>Ty.Z5 1 l
def Ty.Z5:Int→List Ty→Int
 | n,[]=>n
 | n,t::l=>Ty.Z5 (IntKind.i64.wrap (n+t.szW)) l
end
theorem Ty.aY7 (t:Ty):t.szW=Ty.Z5 1 t.args:=by cases t;rw [Ty.szW];rfl
theorem Ty.af7 {n:Int}:Ty.Z5 n []=n:=by rw [Ty.Z5]
theorem Ty.ab1 {n:Int} {t:Ty} {l:List Ty}:Ty.Z5 n (t::l)=Ty.Z5 (IntKind.i64.wrap (n+t.szW)) l:=by rw [Ty.Z5]
mutual
def Tm.szW:Tm→Int
 | .mk _ _ _ l=>Tm.Z5 1 l
def Tm.Z5:Int→List Tm→Int
 | n,[]=>n
 | n,t::l=>Tm.Z5 (IntKind.i64.wrap (n+t.szW)) l
end
theorem Tm.aY7 (t:Tm):t.szW=Tm.Z5 1 t.args:=by cases t;rw [Tm.szW];rfl
theorem Tm.af7 {n:Int}:Tm.Z5 n []=n:=by rw [Tm.Z5]
theorem Tm.ab1 {n:Int} {t:Tm} {l:List Tm}:Tm.Z5 n (t::l)=Tm.Z5 (IntKind.i64.wrap (n+t.szW)) l:=by rw [Tm.Z5]
mutual
def Fm.szW:Fm→Int
 | .mk _ _ l a=>Fm.Z5 (Tm.Z5 1 l) a
def Fm.Z5:Int→List Fm→Int
 | n,[]=>n
 | n,t::l=>Fm.Z5 (IntKind.i64.wrap (n+t.szW)) l
end
theorem Fm.aY7 (t:Fm):t.szW=Fm.Z5 (Tm.Z5 1 t.r8) t.args:=by cases t;rw [Fm.szW];rfl
theorem Fm.af7 {n:Int}:Fm.Z5 n []=n:=by rw [Fm.Z5]
theorem Fm.ab1 {n:Int} {t:Fm} {l:List Fm}:Fm.Z5 n (t::l)=Fm.Z5 (IntKind.i64.wrap (n+t.szW)) l:=by rw [Fm.Z5]
def Ty.G5 (t:Ty):Bool:=t.nodes.isSome
def Tm.G5 (t:Tm):Bool:=t.nodes.isSome
def Fm.G5 (t:Fm):Bool:=t.nodes.isSome
theorem Ty.U3:∀ (l:List Ty) (n:Int),(Ty.C0 n l).isSome=l.all Ty.G5
 | [],n=>by rw [Ty.K7];rfl
 | t::l,n=>by
  cases h:t.nodes with
  | none=>rw [Ty.N4 h];simp [Ty.G5,h]
  | some k=>rw [Ty.H7 h,Ty.U3 l];simp [Ty.G5,h]
theorem Tm.U3:∀ (l:List Tm) (n:Int),(Tm.C0 n l).isSome=l.all Tm.G5
 | [],n=>by rw [Tm.K7];rfl
 | t::l,n=>by
  cases h:t.nodes with
  | none=>rw [Tm.N4 h];simp [Tm.G5,h]
  | some k=>rw [Tm.H7 h,Tm.U3 l];simp [Tm.G5,h]
theorem Fm.U3:∀ (l:List Fm) (n:Int),(Fm.C0 n l).isSome=l.all Fm.G5
 | [],n=>by rw [Fm.K7];rfl
 | t::l,n=>by
  cases h:t.nodes with
  | none=>rw [Fm.N4 h];simp [Fm.G5,h]
  | some k=>rw [Fm.H7 h,Fm.U3 l];simp [Fm.G5,h]
theorem Ty.at3 (t:Ty):t.G5=match ap7 t.kind with|none=>false|some w=>((t.args.length:Int)==w)&&t.args.all Ty.G5:=by
 show t.nodes.isSome=_;rw [Ty.T0];cases ap7 t.kind with
 | none=>rfl
 | some w =>
  cases h:((t.args.length:Int)==w) with
  | true=>simp only [h,if_true,Ty.U3,Bool.true_and]
  | false=>simp only [h,Bool.false_eq_true,if_false,Bool.false_and];rfl
theorem Tm.at3 (t:Tm):t.G5=(O5 t.kind t.index t.type t.args.length&&t.args.all Tm.G5):=by
 show t.nodes.isSome=_;rw [Tm.T0];cases h:O5 t.kind t.index t.type t.args.length with
 | true=>simp only [if_true,Tm.U3,Bool.true_and]
 | false=>simp
theorem Fm.at3 (t:Fm):t.G5=(formed t.kind t.type t.r8.length t.args.length&&t.r8.all Tm.G5&&t.args.all Fm.G5):=by
 show t.nodes.isSome=_;rw [Fm.T0];cases h:formed t.kind t.type t.r8.length t.args.length with
 | true =>
  simp only [if_true,Bool.true_and];have h1:=Tm.U3 t.r8 1;cases hn:Tm.C0 1 t.r8 with
  | none=>rw [hn] at h1;rw [← h1];simp
  | some n=>rw [hn] at h1;rw [← h1];simp only [Fm.U3,Option.isSome_some,Bool.true_and]
 | false=>simp
mutual
def Tm.least (m:Int):Tm→Bool
 | .mk _ i _ l=>decide (i≤m)&&Tm.J1 m l
def Tm.J1 (m:Int):List Tm→Bool
 | []=>true
 | t::l=>t.least m&&Tm.J1 m l
end
theorem Tm.R2 (m:Int) (t:Tm):t.least m=(decide (t.index≤m)&&Tm.J1 m t.args):=by cases t;rw [Tm.least];rfl
theorem Tm.F7 {m:Int}:Tm.J1 m []=true:=by rw [Tm.J1]
theorem Tm.L6 {m:Int} {t:Tm} {l:List Tm}:Tm.J1 m (t::l)=(t.least m&&Tm.J1 m l):=by rw [Tm.J1]
mutual
def Fm.least (m:Int):Fm→Bool
 | .mk _ _ l a=>Tm.J1 m l&&Fm.J1 m a
def Fm.J1 (m:Int):List Fm→Bool
 | []=>true
 | t::l=>t.least m&&Fm.J1 m l
end
theorem Fm.R2 (m:Int) (t:Fm):t.least m=(Tm.J1 m t.r8&&Fm.J1 m t.args):=by cases t;rw [Fm.least];rfl
theorem Fm.F7 {m:Int}:Fm.J1 m []=true:=by rw [Fm.J1]
theorem Fm.L6 {m:Int} {t:Fm} {l:List Fm}:Fm.J1 m (t::l)=(t.least m&&Fm.J1 m l):=by rw [Fm.J1]
def r6 (k:Int):Int:=if k==2 then 1 else 0
def Z3 (k:Int):Bool:=k==4||k==5||k==6||k==7
def D9 (k:Int):Int:=if Z3 k then 1 else 0
mutual
def Tm.times:Tm→Int→Int
 | .mk k i _ l,at'=>Tm.Q9 (x4 at' (r6 k)) (if k==1&&i==at' then x4 0 1 else 0) l
def Tm.Q9 (at':Int):Int→List Tm→Int
 | n,[]=>n
 | n,t::l=>Tm.Q9 at' (x4 n (t.times at')) l
end
theorem Tm.bc5 (t:Tm) (at':Int):t.times at'=Tm.Q9 (x4 at' (r6 t.kind)) (if t.kind==1&&t.index==at' then x4 0 1 else 0) t.args:=by cases t;rw [Tm.times];rfl
theorem Tm.R1 {a n:Int}:Tm.Q9 a n []=n:=by rw [Tm.Q9]
theorem Tm.U4 {a n:Int} {t:Tm} {l:List Tm}:Tm.Q9 a n (t::l)=Tm.Q9 a (x4 n (t.times a)) l:=by rw [Tm.Q9]
mutual
def Fm.times:Fm→Int→Int
 | .mk k _ l a,at'=>Fm.Q9 (x4 at' (D9 k)) (Tm.Q9 at' 0 l) a
def Fm.Q9 (at':Int):Int→List Fm→Int
 | n,[]=>n
 | n,t::l=>Fm.Q9 at' (x4 n (t.times at')) l
end
theorem Fm.bc5 (t:Fm) (at':Int):t.times at'=Fm.Q9 (x4 at' (D9 t.kind)) (Tm.Q9 at' 0 t.r8) t.args:=by cases t;rw [Fm.times];rfl
theorem Fm.R1 {a n:Int}:Fm.Q9 a n []=n:=by rw [Fm.Q9]
theorem Fm.U4 {a n:Int} {t:Fm} {l:List Fm}:Fm.Q9 a n (t::l)=Fm.Q9 a (x4 n (t.times a)) l:=by rw [Fm.Q9]
mutual
def Tm.up (by':Int):Tm→Int→Tm
 | .mk k i t l,fr=>.mk k (if k==1&&decide (i≥fr) then x4 i by' else i) t (Tm.upL by' l (x4 fr (r6 k)))
def Tm.upL (by':Int):List Tm→Int→List Tm
 | [],_=>[]
 | t::l,fr=>t.up by' fr::Tm.upL by' l fr
end
theorem Tm.T4 {b:Int}:∀ (l:List Tm) (fr:Int),Tm.upL b l fr=l.map fun t=>t.up b fr
 | [],fr=>by simp [Tm.upL]
 | t::l,fr=>by simp [Tm.upL,Tm.T4 l fr]
theorem Tm.bO9 (b:Int) (t:Tm) (fr:Int):t.up b fr=.mk t.kind (if t.kind==1&&decide (t.index≥fr) then x4 t.index b else t.index) t.type (t.args.map fun x=>x.up b (x4 fr (r6 t.kind))):=by
 cases t;rw [Tm.up,Tm.T4];rfl
mutual
def F0 (s:Tm) (at':Int):Tm→Int→Tm
 | .mk k i t l,d=>if k==1 then (if i==x4 at' d then Tm.up (x4 at' d) s 0 else if decide (i>x4 at' d) then u5 (ab8 i 1) else .mk k i t l)
  else .mk k i t (aW8 s at' l (x4 d (r6 k)))
def aW8 (s:Tm) (at':Int):List Tm→Int→List Tm
 | [],_=>[]
 | t::l,d=>F0 s at' t d::aW8 s at' l d
end
theorem O9 {s:Tm} {a:Int}:∀ (l:List Tm) (d:Int),aW8 s a l d=l.map fun t=>F0 s a t d
 | [],d=>by simp [aW8]
 | t::l,d=>by simp [aW8,O9 l d]
theorem aY2 (s:Tm) (a:Int) (t:Tm) (d:Int):F0 s a t d=if t.kind==1 then
  (if t.index==x4 a d then Tm.up (x4 a d) s 0 else if decide (t.index>x4 a d) then u5 (ab8 t.index 1) else t)
  else .mk t.kind t.index t.type (t.args.map fun x=>F0 s a x (x4 d (r6 t.kind))):=by
 cases t;rw [F0,O9];rfl
mutual
def O1 (s:Tm) (at':Int):Fm→Int→Fm
 | .mk k t l a,d=>.mk k t (l.map fun x=>F0 s at' x d) (bc4 s at' a (x4 d (D9 k)))
def bc4 (s:Tm) (at':Int):List Fm→Int→List Fm
 | [],_=>[]
 | t::l,d=>O1 s at' t d::bc4 s at' l d
end
theorem aH1 {s:Tm} {a:Int}:∀ (l:List Fm) (d:Int),bc4 s a l d=l.map fun t=>O1 s a t d
 | [],d=>by simp [bc4]
 | t::l,d=>by simp [bc4,aH1 l d]
theorem aA1 (s:Tm) (a:Int) (t:Fm) (d:Int):O1 s a t d=.mk t.kind t.type (t.r8.map fun x=>F0 s a x d) (t.args.map fun x=>O1 s a x (x4 d (D9 t.kind))):=by
 cases t;rw [O1,aH1];rfl
mutual
theorem Ty.Y2:∀ (t:Ty) (n:Int),t.nodes=some n→t.szW=n
 | .mk k l,n,h=>by
  rw [Ty.aj3] at h;rw [Ty.szW];split at h
  ·cases h
  ·split at h
   ·exact Ty.W5 l 1 n h
   ·cases h
theorem Ty.W5:∀ (l:List Ty) (m n:Int),Ty.C0 m l=some n→Ty.Z5 m l=n
 | [],m,n,h=>by rw [Ty.K7] at h;rw [Ty.af7];exact Option.some.inj h
 | t::l,m,n,h=>by
  cases hx:t.nodes with
  | none=>rw [Ty.N4 hx] at h;cases h
  | some k =>
   rw [Ty.H7 hx] at h;rw [Ty.ab1,Ty.Y2 t k hx];exact Ty.W5 l _ n h
end
mutual
theorem Tm.Y2:∀ (t:Tm) (n:Int),t.nodes=some n→t.szW=n
 | .mk k i t l,n,h=>by
  rw [Tm.aj3] at h;rw [Tm.szW];split at h
  ·exact Tm.W5 l 1 n h
  ·cases h
theorem Tm.W5:∀ (l:List Tm) (m n:Int),Tm.C0 m l=some n→Tm.Z5 m l=n
 | [],m,n,h=>by rw [Tm.K7] at h;rw [Tm.af7];exact Option.some.inj h
 | t::l,m,n,h=>by
  cases hx:t.nodes with
  | none=>rw [Tm.N4 hx] at h;cases h
  | some k =>
   rw [Tm.H7 hx] at h;rw [Tm.ab1,Tm.Y2 t k hx];exact Tm.W5 l _ n h
end
mutual
theorem Fm.Y2:∀ (t:Fm) (n:Int),t.nodes=some n→t.szW=n
 | .mk k t l a,n,h=>by
  rw [Fm.aj3] at h;rw [Fm.szW];split at h
  ·cases hl:Tm.C0 1 l with
   | none=>rw [hl] at h;cases h
   | some m=>rw [hl] at h;rw [Tm.W5 l 1 m hl];exact Fm.W5 a m n h
  ·cases h
theorem Fm.W5:∀ (l:List Fm) (m n:Int),Fm.C0 m l=some n→Fm.Z5 m l=n
 | [],m,n,h=>by rw [Fm.K7] at h;rw [Fm.af7];exact Option.some.inj h
 | t::l,m,n,h=>by
  cases hx:t.nodes with
  | none=>rw [Fm.N4 hx] at h;cases h
  | some k =>
   rw [Fm.H7 hx] at h;rw [Fm.ab1,Fm.Y2 t k hx];exact Fm.W5 l _ n h
end
def ai7 (k:Int):Int :=
 if k==1||k==4||k==7||k==13 then 0 else if k==2||k==5||k==11||k==12 then 1 else if k==3||k==8||k==10 then 2 else if k==6||k==9 then 3 else -1
def Z2 (t:Tm):Int:=(chk 4096 t.nodes).2
theorem cD1 {k:Int} (h1:¬ k<1) (h2:¬ 14≤k):k=1∨k=2∨k=3∨k=4∨k=5∨k=6∨k=7∨k=8∨k=9∨k=10∨k=11∨k=12∨k=13:=by omega
theorem bF0 (k i:Int) (t:Ty) (n:Nat):O5 k i t (n:Int) =
  (!((n:Int) != ai7 k)&&!decide (i<0)&&!(k != 1&&i != 0)&&(if typed k then ac2 t==0 else aa0 t)):=by
 unfold O5 arity;by_cases hk:k<1∨14≤k
 ·rw [if_pos hk]
  have:ai7 k = -1:=by
   have hne:∀ m:Int,1≤m→m≤13→(k==m)=false:=fun m a b=>by simp;omega
   simp [ai7,hne]
  rw [this];have:((n:Int) != -1)=true:=by simp<;>omega
  rw [this];rfl
 ·rw [if_neg hk]
  obtain ⟨h1,h2⟩:=not_or.1 hk;have hi:(!decide (i<0))=decide (0≤i):=by
   by_cases h:i<0
   ·have:¬ 0≤i:=by omega
    simp [h,this]
   ·have:0≤i:=by omega
    simp [h,this]
  rcases cD1 h1 h2 with h|h|h|h|h|h|h|h|h|h|h|h|h<;>subst h
  all_goals
   simp only [arities,ai7,typed,hi];cases h0:(i==0)<;>simp [bne,h0]
def O3:Fm:=.mk 0 (.mk 0 []) [] []
def bz2 (a b:Int):Int:=IntKind.i64.wrap (a * b)
def bT7 (f:Fm) (a:Int) (s:Tm):Fm × Int :=
 if P5 f != 0 then (O3,P5 f)
 else if decide (a<0)||decide (a>4096) then (O3,1)
 else if Z2 s != 0 then (O3,Z2 s)
 else if !f.least 536870912||!s.least 536870912 then (O3,1)
 else if decide (x4 f.szW (bz2 (f.times a) (ab8 s.szW 1))>4096) then (O3,4)
 else (O1 s a f 0,0)
@[go_sem] def Y5 (p:Fm × Int):V:=.tup [.agg p.1.cells,.int .i64 p.2]
theorem C9 {a b:Int} (h0 : -1000000000000≤a) (h1:a≤1000000000000) (h2 : -1000000000000≤b) (h3:b≤1000000000000):x4 a b=a+b:=w8 rfl om_ om_
theorem ai8 {a b:Int} (h0 : -1000000000000≤a) (h1:a≤1000000000000) (h2 : -1000000000000≤b) (h3:b≤1000000000000):ab8 a b=a - b:=w8 rfl om_ om_
theorem Tm.F6 {m:Int}:∀ {l:List Tm},Tm.J1 m l=true↔∀ x∈l,x.least m=true
 | []=>by simp [Tm.F7]
 | x::l=>by simp [Tm.L6,Tm.F6 (l:=l)]
theorem Fm.F6 {m:Int}:∀ {l:List Fm},Fm.J1 m l=true↔∀ x∈l,x.least m=true
 | []=>by simp [Fm.F7]
 | x::l=>by simp [Fm.L6,Fm.F6 (l:=l)]
theorem ae6 {m k i:Int} {t:Ty} {l:List Tm} (hi:i≤m) (h:∀ x∈l,x.least m=true):(Tm.mk k i t l).least m=true:=by
 rw [Tm.least,Tm.F6.2 h];simp [hi]
theorem at2 {m k:Int} (hm:1≤m):(tm0 k []).least m=true:=ae6 om_ sp_
theorem aC7 {m k:Int} {a:Tm} (hm:1≤m) (h1:a.least m=true):(tm0 k [a]).least m=true:=ae6 om_ (by simp [h1])
theorem ab2 {m k:Int} {a b:Tm} (hm:1≤m) (h1:a.least m=true) (h2:b.least m=true):(tm0 k [a,b]).least m=true:=ae6 om_ (by simp [h1,h2])
theorem L3 {m k:Int} {t:Ty} {a:Tm} (hm:1≤m) (h1:a.least m=true):(tmT k t [a]).least m=true:=ae6 om_ (by simp [h1])
theorem aq1 {m k:Int} {t:Ty} {a b c:Tm} (hm:1≤m) (h1:a.least m=true) (h2:b.least m=true) (h3:c.least m=true):(tmT k t [a,b,c]).least m=true:=ae6 om_ (by simp [h1,h2,h3])
theorem ac7 {m i:Int} (h:i≤m):(u5 i).least m=true:=ae6 h sp_
theorem aM0 {m:Int} (hm:1≤m):∀ n,(C5 n).least m=true
 | 0=>at2 hm
 | n+1=>aC7 hm (aM0 hm n)
theorem bF4 {m:Int} (hm:1≤m):aK1.least m=true :=
 L3 hm (L3 hm (aq1 hm (ac7 hm) (L3 hm (L3 hm (aC7 hm (ac7 om_)))) (ac7 om_)))
theorem bH5 {m:Int} (hm:1≤m):aq5.least m=true :=
 L3 hm (aq1 hm (at2 hm) (L3 hm (L3 hm (ac7 hm))) (ac7 om_))
theorem bh4 {m:Int} (hm:1≤m):an8.least m=true :=
 L3 hm (L3 hm (aq1 hm (ac7 hm) (L3 hm (L3 hm (ab2 hm (bH5 hm) (ac7 om_)))) (ac7 om_)))
theorem L2.least {M m:Nat} (hm':1≤m) {n:Nat} {g:List Ty} {t:Ty} {x:Tm} (h:L2 n g t x) (hM:1≤M) (hg:∀ y∈g,D7 y≤M) (ht:D7 t≤M)
  (hb:g.length+(3+M) * n+D7 t≤m):x.least (m:Int)=true:=by
 have hm:(1:Int)≤(m:Int):=by omega
 have app:∀ {g l:List Ty},(∀ y∈g,D7 y≤M)→(∀ y∈l,D7 y≤M)→∀ y∈g++l,D7 y≤M:=by
  intro g l h1 h2 y hy;rcases List.mem_append.1 hy with hy|hy
  ·exact h1 y hy
  ·exact h2 y hy
 have nat1:D7 r5≤M:=by rw [L7];exact hM
 have list1:D7 C8≤M:=by rw [S2];exact hM
 have mul:∀ n:Nat,(3+M) * (n+1)=(3+M) * n+(3+M):=fun n=>Nat.mul_succ _ _
 induction h with
 | @var n g t i hi=>exact ac7 om_
 | @app n g t s b x hs _ _ h1 h2 =>
  have s1:=hs.sz0;have:=mul n;exact ab2 hm (L3 hm (h1 (app hg (by simp;omega)) ht (by simp only [List.length_append,List.length_cons,List.length_nil];omega))) (h2 hg om_ om_)
 | @fst n g t s x y hs _ _ h1 h2 =>
  have s1:=hs.sz0;have:=mul n;exact aC7 hm (ab2 hm (h1 hg ht om_) (h2 hg om_ om_))
 | @snd n g t s x y hs _ _ h1 h2 =>
  have s1:=hs.sz0;have:=mul n;exact aC7 hm (ab2 hm (h1 hg om_ om_) (h2 hg ht om_))
 | @av8 n g t b f k hk _ _ h1 h2 =>
  have:=mul n;exact aq1 hm (h2 hg ht om_) (L3 hm (L3 hm (h1 (app hg (by simp [nat1,ht])) ht (by simp only [List.length_append,List.length_cons,List.length_nil];omega)))) (aM0 hm _)
 | @fold n g t b f x _ _ _ h1 h2 h3 =>
  have:=mul n;have l1:=S2;exact aq1 hm (h2 hg ht om_) (L3 hm (L3 hm (L3 hm (h1 (app hg (by simp [nat1,list1,ht])) ht (by simp only [List.length_append,List.length_cons,List.length_nil];omega))))) (h3 hg list1 om_)
 | @fapp n g t s x i hi h _ h1 =>
  have s1:=hg _ (List.mem_of_getElem? h);rw [M6] at s1;have:=mul n;exact ab2 hm (ac7 om_) (h1 hg om_ om_)
 | @succ n g x _ h1=>have:=mul n;exact aC7 hm (h1 hg ht om_)
 | @plus n g x y _ _ h1 h2=>have:=mul n;exact ab2 hm (ab2 hm (bF4 hm) (h1 hg ht om_)) (h2 hg ht om_)
 | @sub n g x y _ _ h1 h2=>have:=mul n;exact ab2 hm (ab2 hm (bh4 hm) (h1 hg ht om_)) (h2 hg ht om_)
 | num=>exact aM0 hm _
 | @cons n g x y _ _ h1 h2 =>
  have:=mul n;have l1:=L7;exact ab2 hm (h1 hg nat1 om_) (h2 hg ht om_)
 | nil=>exact at2 hm
 | @pair n g a b x y _ _ h1 h2 =>
  rw [P0] at ht hb;have:(3+M) * (n - 1)≤(3+M) * n:=Nat.mul_le_mul_left _ om_;exact ab2 hm (h1 hg om_ om_) (h2 hg om_ om_)
 | @lam n g a b x _ h1 =>
  rw [M6] at ht hb;have:(3+M) * (n - 1)≤(3+M) * n:=Nat.mul_le_mul_left _ om_;have:=bv8 a;exact L3 hm (h1 (app hg (by simp;omega)) om_ (by simp only [List.length_append,List.length_cons,List.length_nil];omega))
 | unit=>exact at2 hm
mutual
def E2:Tm→Int→Nat
 | .mk k i _ l,x=>if k==1 then (if i==x then 1 else 0) else J8 l (x+r6 k)
def J8:List Tm→Int→Nat
 | [],_=>0
 | t::l,x=>E2 t x+J8 l x
end
theorem H9 (k:Int):0≤r6 k∧r6 k≤1:=by unfold r6;split<;>omega
theorem aF6 (k:Int):0≤D9 k∧D9 k≤1:=by unfold D9;split<;>omega
mutual
theorem az6:∀ (t:Tm) (x:Int),E2 t x≤m7 t
 | .mk k i t l,x=>by
  rw [E2,m7];have:=aN5 l (x+r6 k)
  repeat' split
  all_goals omega
theorem aN5:∀ (l:List Tm) (x:Int),J8 l x≤F8 l
 | [],x=>by simp [J8]
 | t::l,x=>by rw [J8,F8];have:=az6 t x;have:=aN5 l x;omega
end
theorem aG1 {a:Int}:∀ (l:List Tm) (n:Nat),(∀ y∈l,y.times a=(E2 y a:Int))→n+F8 l≤1000000→Tm.Q9 a (n:Int) l=((n+J8 l a:Nat):Int)
 | [],n,_,_=>by rw [Tm.R1];simp [J8]
 | t::l,n,h,hs=>by
  rw [F8] at hs;have h1:=az6 t a;have e:x4 (n:Int) (E2 t a:Int)=((n+E2 t a:Nat):Int):=w8 om_ om_ om_;rw [Tm.U4,h t sp_,e,aG1 l _ (fun y hy=>h y (by simp [hy])) om_,J8,Nat.add_assoc]
theorem TmG.aj9 {p:Tm→Prop} {t:Tm} (h:TmG t) (hv:∀ i,0≤i→p (u5 i))
  (hn:∀ k ty l,(k==1)=false→O5 k 0 ty l.length=true→(∀ x∈l,TmG x)→(∀ l',l'.length=l.length→(∀ x∈l',TmG x)→TmG (.mk k 0 ty l'))→p (.mk k 0 ty l)):p t:=by
 cases h with
 | @plain k l a ha hl ht h =>
  cases hk:(k==1) with
  | true =>
   have hk':k=1:=by simpa using hk
   subst hk';have:a=0:=by have e:arity 1=some 0:=rfl;rw [e] at ha;exact (Option.some.inj ha).symm
   subst this;have hl0:l=[]:=List.length_eq_zero_iff.1 om_;subst hl0;exact hv 0 om_
  | false =>
   have:O5 k 0 (.mk 0 []) l.length=true:=by simp [O5,ha,hl,ht,aa0,Ty.kind,Ty.args]
   exact hn k _ l hk this h (fun l' h1 h2=>.plain ha (by rw [h1];exact hl) ht h2)
 | @var i hi=>exact hv i hi
 | @typd k t l a ha hl ht hg h =>
  have hk:(k==1)=false:=by
   cases hk:(k==1) with
   | false=>rfl
   | true =>
    have hk':k=1:=by simpa using hk
    subst hk';cases ht
  have:O5 k 0 t l.length=true:=by simp [O5,ha,hl,ht,hg.err]
  exact hn k _ l hk this h (fun l' h1 h2=>.typd ha (by rw [h1];exact hl) ht hg h2)
theorem bf9 {g:Tm→Tm}:∀ (l:List Tm),(∀ x∈l,m7 (g x)=m7 x)→F8 (l.map g)=F8 l
 | [],_=>rfl
 | x::l,h=>by rw [List.map_cons,F8,F8,h x sp_,bf9 l (fun y hy=>h y (by simp [hy]))]
theorem aU9 {b:Int}:∀ (t:Tm) (fr:Int),m7 (t.up b fr)=m7 t:=by
 intro t
 induction t using Tm.ind with|h t ih=>?_
 intro fr;rw [Tm.bO9];cases t with|mk k i ty l =>
 rw [m7,m7];simp only [Tm.args] at ih ⊢;rw [bf9 l (fun x hx=>ih x hx _)]
theorem Q3 (t:Tm):1≤m7 t:=by cases t;rw [m7];omega
theorem TmG.as0:∀ (n:Nat) {t:Tm},TmG t→m7 t≤n→∀ x:Int,0≤x→x+n≤1000000→t.times x=(E2 t x:Int)
 | 0,t,h,hn,x,_,_=>by have:=Q3 t;omega
 | n+1,t,h,hn,x,hx,hb=>by
  revert hn
  refine h.aj9 (p:=fun t=>m7 t≤n+1→t.times x=(E2 t x:Int)) ?_ ?_
  ·intro i hi _
   rw [u5,Tm.times,E2,Tm.R1];cases hix:(i==x)<;>simp [x4,wrap_small]
  ·intro k ty l hk _ hl _ hn
   rw [m7] at hn;have hr:=H9 k;have e:x4 x (r6 k)=x+r6 k:=C9 om_ om_ om_ om_;rw [Tm.times,E2,hk,e];simp only [Bool.false_and,Bool.false_eq_true,if_false];have:=aG1 (a:=x+r6 k) l 0 (fun y hy=>TmG.as0 n (hl y hy) (by have:=I3 hy;omega) _ om_ om_) om_;simpa using this
theorem be2 {g:Tm→Tm} {o:Tm→Nat} {c:Nat}:∀ (l:List Tm),(∀ x∈l,m7 (g x)=m7 x+o x * c)→F8 (l.map g)=F8 l+(l.map o).sum * c
 | [],_=>by simp [F8]
 | x::l,h=>by
  rw [List.map_cons,F8,F8,h x sp_,be2 l (fun y hy=>h y (by simp [hy])),List.map_cons,List.sum_cons,Nat.add_mul];omega
theorem aV7 (x:Int):∀ l:List Tm,J8 l x=(l.map fun t=>E2 t x).sum
 | []=>rfl
 | t::l=>by rw [J8,List.map_cons,List.sum_cons,aV7 x l]
theorem TmG.aF9 {s:Tm}:∀ (n:Nat) {t:Tm},TmG t→m7 t≤n→∀ d:Int,0≤d→d+n≤1000000→m7 (F0 s 0 t d)=m7 t+E2 t d * (m7 s - 1)
 | 0,t,h,hn,x,_,_=>by have:=Q3 t;omega
 | n+1,t,h,hn,d,hd,hb=>by
  revert hn
  have e0:x4 0 d=d:=by rw [C9 om_ om_ om_ om_];omega
  refine h.aj9 (p:=fun t=>m7 t≤n+1→m7 (F0 s 0 t d)=m7 t+E2 t d * (m7 s - 1)) ?_ ?_
  ·intro i hi _
   rw [u5,F0,E2,e0];have:=Q3 s;cases hix:(i==d) with
   | true=>simp only [beq_self_eq_true,if_true,aU9,m7,F8];omega
   | false =>
    simp only [beq_self_eq_true,if_true,Bool.false_eq_true,if_false];split<;>simp [u5,m7,F8]
  ·intro k ty l hk _ hl _ hn
   rw [m7] at hn;have hr:=H9 k;have e:x4 d (r6 k)=d+r6 k:=C9 om_ om_ om_ om_;rw [F0,E2,hk,e,O9];simp only [Bool.false_eq_true,if_false,m7];rw [be2 l (o:=fun t=>E2 t (d+r6 k)) (c:=m7 s - 1) (fun y hy=>TmG.aF9 n (hl y hy) (by have:=I3 hy;omega) _ om_ om_),aV7];omega
theorem TmG.up {b:Int} (hb0:0≤b) (hb:b≤1000000):∀ (n:Nat) {t:Tm},TmG t→m7 t≤n→t.least 536870912=true→∀ fr:Int,TmG (t.up b fr)
 | 0,t,h,hn,_,_=>by have:=Q3 t;omega
 | n+1,t,h,hn,hl,fr=>by
  revert hn hl
  refine h.aj9 (p:=fun t=>m7 t≤n+1→t.least 536870912=true→TmG (t.up b fr)) ?_ ?_
  ·intro i hi _ hl
   rw [u5,Tm.R2] at hl;have hi2:i≤536870912:=by rw [Bool.and_eq_true] at hl;exact of_decide_eq_true hl.1
   rw [u5,Tm.up,Tm.upL];refine .var ?_;split
   ·rw [C9 om_ om_ om_ om_];omega
   ·exact hi
  ·intro k ty l hk _ hg hmk hn hl
   rw [m7] at hn;rw [Tm.least,Bool.and_eq_true] at hl;rw [Tm.up,Tm.T4,hk];simp only [Bool.false_and,Bool.false_eq_true,if_false];refine hmk _ sp_ ?_;intro x hx;obtain ⟨y,hy,rfl⟩:=List.mem_map.1 hx;exact TmG.up hb0 hb n (hg y hy) (by have:=I3 hy;omega) (Tm.F6.1 hl.2 y hy) _
theorem TmG.inn {s:Tm} (hs:TmG s) (hsl:s.least 536870912=true):∀ (n:Nat) {t:Tm},TmG t→m7 t≤n→t.least 536870912=true→∀ d:Int,0≤d→d+n≤1000000→TmG (F0 s 0 t d)
 | 0,t,h,hn,_,_,_,_=>by have:=Q3 t;omega
 | n + 1,t,h,hn,hl,d,hd,hb=>by
  revert hn hl
  have e0:x4 0 d=d:=by rw [C9 om_ om_ om_ om_];omega
  refine h.aj9 (p:=fun t=>m7 t≤n+1→t.least 536870912=true→TmG (F0 s 0 t d)) ?_ ?_
  ·intro i hi _ hl
   rw [u5,Tm.R2] at hl;have hi2:i≤536870912:=by rw [Bool.and_eq_true] at hl;exact of_decide_eq_true hl.1
   rw [u5,F0,e0];simp only [beq_self_eq_true,if_true];split
   ·exact TmG.up hd om_ _ hs (Nat.le_refl _) hsl _
   ·split
    ·rename_i h1
     have:i>d:=by simpa using h1
     refine .var ?_;rw [ai8 om_ om_ om_ om_];omega
    ·exact .var hi
  ·intro k ty l hk _ hg hmk hn hl
   rw [m7] at hn;have hr:=H9 k;have e:x4 d (r6 k)=d+r6 k:=C9 om_ om_ om_ om_;rw [Tm.least,Bool.and_eq_true] at hl;rw [F0,O9,hk,e];simp only [Bool.false_eq_true,if_false];refine hmk _ sp_ ?_;intro x hx;obtain ⟨y,hy,rfl⟩:=List.mem_map.1 hx;exact TmG.inn hs hsl n (hg y hy) (by have:=I3 hy;omega) (Tm.F6.1 hl.2 y hy) _ om_ om_
mutual
def L9:Fm→Int→Nat
 | .mk k _ l a,x=>J8 l x+ae5 a (x+D9 k)
def ae5:List Fm→Int→Nat
 | [],_=>0
 | t::l,x=>L9 t x+ae5 l x
end
mutual
theorem ao4:∀ (t:Fm) (x:Int),L9 t x≤z6 t
 | .mk k t l a,x=>by
  rw [L9,z6];have:=aN5 l x;have:=bf6 a (x+D9 k);omega
theorem bf6:∀ (l:List Fm) (x:Int),ae5 l x≤an7 l
 | [],x=>by simp [ae5]
 | t::l,x=>by rw [ae5,an7];have:=ao4 t x;have:=bf6 l x;omega
end
theorem ca1 {x y:Tm} (hx:TmG x) (hy:TmG y) {a:Int} (h0:0≤a) (hb:a+(m7 x+m7 y)≤1000000):(M3 x y).times a=(L9 (M3 x y) a:Int):=by
 have h:=aG1 (a:=a) [x,y] 0 (fun z hz=>by
  simp at hz;rcases hz with rfl|rfl
  ·exact hx.as0 _ (Nat.le_refl _) _ h0 om_
  ·exact hy.as0 _ (Nat.le_refl _) _ h0 om_) (by simp [F8];omega)
 rw [M3,Fm.times,L9,Fm.R1];simpa [ae5] using h
theorem ah0 {k:Int} (hk:k=2∨k=3):D9 k=0:=by rcases hk with rfl|rfl<;>rfl
theorem J7 {a:Int} (h0:0≤a) (hb:a≤1000000):x4 a 0=a:=by rw [C9 om_ om_ om_ om_];omega
theorem aZ1 {a:Int} (h0:0≤a) (hb:a≤1000000):x4 0 a=a:=by rw [C9 om_ om_ om_ om_];omega
theorem FmG.as0 {u:Bool} {f:Fm} (h:FmG u f):∀ a:Int,0≤a→a+z6 f≤500000→f.times a=(L9 f a:Int):=by
 induction h with
 | @eq x y hx hy=>intro a h0 hb;rw [V6] at hb;exact ca1 hx hy h0 om_
 | @two k p q hk _ _ h1 h2 =>
  intro a h0 hb;rw [O0] at hb;have e1:=h1 a h0 om_;have e2:=h2 a h0 om_;have l1:=ao4 p a;have l2:=ao4 q a;rw [E8,Fm.times,L9,ah0 hk,J7 h0 om_,Tm.R1,Fm.U4,Fm.U4,Fm.R1,e1,e2,aZ1 om_ om_,
   C9 om_ om_ om_ om_]
  simp [ae5,J8]
 | @q k s p hk hs _ h1 =>
  intro a h0 hb;rw [ap8] at hb;have hr:=aF6 k;have e:=C9 (a:=a) (b:=D9 k) om_ om_ om_ om_;have e1:=h1 (a+D9 k) om_ om_;have l1:=ao4 p (a+D9 k);rw [fmQ,Fm.times,L9,e,Tm.R1,Fm.U4,Fm.R1,e1,aZ1 om_ om_];simp [ae5,J8]
theorem ar0 {s:Tm} {a d:Int} {x y:Tm}:O1 s a (M3 x y) d=M3 (F0 s a x d) (F0 s a y d):=by
 rw [aA1];rfl
theorem aq9 {s:Tm} {a d k:Int} {x y:Fm}:O1 s a (E8 k x y) d=E8 k (O1 s a x (x4 d (D9 k))) (O1 s a y (x4 d (D9 k))):=by
 rw [aA1];rfl
theorem bm3 {s:Tm} {a d k:Int} {t:Ty} {x:Fm}:O1 s a (fmQ k t x) d=fmQ k t (O1 s a x (x4 d (D9 k))):=by
 rw [aA1];rfl
theorem FmG.aF9 {u:Bool} {s:Tm} {f:Fm} (h:FmG u f):∀ d:Int,0≤d→d+z6 f≤500000→z6 (O1 s 0 f d)=z6 f+L9 f d * (m7 s - 1):=by
 induction h with
 | @eq x y hx hy =>
  intro d h0 hb;rw [V6] at hb;rw [ar0,V6,V6,hx.aF9 _ (Nat.le_refl _) d h0 om_,hy.aF9 _ (Nat.le_refl _) d h0 om_];simp only [M3,L9,J8,ae5,Nat.add_zero,Nat.add_mul];omega
 | @two k p q hk _ _ h1 h2 =>
  intro d h0 hb;rw [O0] at hb;rw [aq9,ah0 hk,J7 h0 om_,O0,O0,h1 d h0 om_,h2 d h0 om_];simp only [E8,L9,J8,ae5,Nat.add_zero,Nat.zero_add,ah0 hk,Int.add_zero,Nat.add_mul];omega
 | @q k t p hk hs _ h1 =>
  intro d h0 hb;rw [ap8] at hb;have hr:=aF6 k;have e:=C9 (a:=d) (b:=D9 k) om_ om_ om_ om_;rw [bm3,e,ap8,ap8,h1 _ om_ om_];simp only [fmQ,L9,J8,ae5,Nat.add_zero,Nat.zero_add];omega
theorem TmG.bp0 {t:Tm} (h:TmG t) (hs:m7 t≤1000000):Z2 t=if m7 t≤4096 then 0 else 4:=by
 unfold Z2;rw [h.ae0 hs,chk];by_cases h64:m7 t≤4096
 ·rw [if_neg om_,if_pos h64]
 ·rw [if_pos om_,if_neg h64]
mutual
def Tm.same:Tm→Tm→Bool
 | .mk k i t l,.mk k' i' t' l'=>k==k'&&i==i'&&Ty.same t t'&&Tm.w6 l l'
def Tm.w6:List Tm→List Tm→Bool
 | [],[]=>true
 | a::l,b::l'=>Tm.same a b&&Tm.w6 l l'
 | _,_=>false
end
theorem Tm.ac5 (a b:Tm):Tm.same a b=(a.kind==b.kind&&a.index==b.index&&Ty.same a.type b.type&&Tm.w6 a.args b.args):=by
 cases a;cases b;simp [Tm.same,Tm.kind,Tm.index,Tm.type,Tm.args]
mutual
def Fm.same:Fm→Fm→Bool
 | .mk k t l a,.mk k' t' l' a'=>k==k'&&Ty.same t t'&&Tm.w6 l l'&&Fm.w6 a a'
def Fm.w6:List Fm→List Fm→Bool
 | [],[]=>true
 | a::l,b::l'=>Fm.same a b&&Fm.w6 l l'
 | _,_=>false
end
theorem Fm.ac5 (a b:Fm):Fm.same a b=(a.kind==b.kind&&Ty.same a.type b.type&&Tm.w6 a.r8 b.r8&&Fm.w6 a.args b.args):=by
 cases a;cases b;simp [Fm.same,Fm.kind,Fm.type,Fm.r8,Fm.args]
mutual
theorem Tm.O6:∀ a:Tm,Tm.same a a=true
 | .mk k i t l=>by simp [Tm.same,Ty.O6,Tm.X5 l]
theorem Tm.X5:∀ l:List Tm,Tm.w6 l l=true
 | []=>by simp [Tm.w6]
 | x::l=>by simp [Tm.w6,Tm.O6 x,Tm.X5 l]
end
mutual
theorem Fm.O6:∀ a:Fm,Fm.same a a=true
 | .mk k t l a=>by simp [Fm.same,Ty.O6,Tm.X5,Fm.X5 a]
theorem Fm.X5:∀ l:List Fm,Fm.w6 l l=true
 | []=>by simp [Fm.w6]
 | x::l=>by simp [Fm.w6,Fm.O6 x,Fm.X5 l]
end
mutual
theorem Tm.Y1:∀ {a b:Tm},Tm.same a b=true→a=b
 | .mk k i t l,.mk k' i' t' l',h=>by
  simp only [Tm.same,Bool.and_eq_true,beq_iff_eq] at h;rw [h.1.1.1,h.1.1.2,Ty.Y1 h.1.2,Tm.W4 h.2]
theorem Tm.W4:∀ {a b:List Tm},Tm.w6 a b=true→a=b
 | [],[],_=>rfl
 | x::l,y::l',h=>by
  simp only [Tm.w6,Bool.and_eq_true] at h;rw [Tm.Y1 h.1,Tm.W4 h.2]
 | [],_::_,h=>by simp [Tm.w6] at h
 | _::_,[],h=>by simp [Tm.w6] at h
end
mutual
theorem Fm.Y1:∀ {a b:Fm},Fm.same a b=true→a=b
 | .mk k t l a,.mk k' t' l' a',h=>by
  simp only [Fm.same,Bool.and_eq_true,beq_iff_eq] at h;rw [h.1.1.1,Ty.Y1 h.1.1.2,Tm.W4 h.1.2,Fm.W4 h.2]
theorem Fm.W4:∀ {a b:List Fm},Fm.w6 a b=true→a=b
 | [],[],_=>rfl
 | x::l,y::l',h=>by
  simp only [Fm.w6,Bool.and_eq_true] at h;rw [Fm.Y1 h.1,Fm.W4 h.2]
 | [],_::_,h=>by simp [Fm.w6] at h
 | _::_,[],h=>by simp [Fm.w6] at h
end
mutual
def Tm.Y7 {α:Type} (F:Int→Int→α→α):Tm→Int→α→α
 | .mk k i _ l,b,s=>Tm.ag5 F l (if k==2 then x4 b 1 else b) (if k==1 then F i b s else s)
def Tm.ag5 {α:Type} (F:Int→Int→α→α):List Tm→Int→α→α
 | [],_,s=>s
 | t::l,b,s=>Tm.ag5 F l b (Tm.Y7 F t b s)
end
theorem Tm.bs0 {α:Type} (F:Int→Int→α→α) (t:Tm) (b:Int) (s:α) :
  t.Y7 F b s=Tm.ag5 F t.args (if t.kind==2 then x4 b 1 else b) (if t.kind==1 then F t.index b s else s):=by cases t;rw [Tm.Y7];rfl
theorem Tm.aN4 {α:Type} {F:Int→Int→α→α} {b:Int} {s:α}:Tm.ag5 F [] b s=s:=by rw [Tm.ag5]
theorem Tm.bb2 {α:Type} {F:Int→Int→α→α} {b:Int} {s:α} {t:Tm} {l:List Tm}:Tm.ag5 F (t::l) b s=Tm.ag5 F l b (t.Y7 F b s):=by rw [Tm.ag5]
def V8 (a i b n:Int):Int:=if ab8 i b==a then x4 n 1 else n
def Tm.count (t:Tm) (a:Int):Int:=t.Y7 (V8 a) 0 0
def aR2 (i _b:Int) (s:Bool):Bool:=s&&decide (i≤536870912)
def Tm.cU2 (t:Tm):Bool:=t.Y7 aR2 0 true
def C6:Tm:=.mk 0 0 (.mk 0 []) []
theorem aH6:TmW C6:=.mk _ _ _ _ aw5 sp_ sp_
def fa (f:Fm) (i:Nat):Fm:=f.args.getD i O3
def ft (f:Fm) (i:Nat):Tm:=f.r8.getD i C6
def ta (t:Tm) (i:Nat):Tm:=t.args.getD i C6
theorem bu0 {f x:Fm} {i:Nat} (h:f.args[i]? = some x):fa f i=x:=by unfold fa;rw [List.getD_eq_getElem?_getD,h];rfl
theorem ct8 {t x:Tm} {i:Nat} (h:t.args[i]? = some x):ta t i=x:=by unfold ta;rw [List.getD_eq_getElem?_getD,h];rfl
def J3 (s t:Tm):Fm:=M3 (tm0 3 [tm0 3 [an8,tm0 5 [s]],t]) (tm0 4 [])
theorem av2 {s t:Tm} (hs:TmW s) (ht:TmW t):FmW (J3 s t):=aW9 (M1 (M1 aa8 (Y6 hs)) ht) Z9
def al7 (f:Fm):Bool :=
 !(f.kind != (if f.kind==4 then 4 else 5))&&!(f.type.kind != 1)&&!((fa f 0).kind != (if f.kind==4 then 3 else 2))&&!((fa (fa f 0) 0).kind != 1)
def aK8 (f:Fm):Tm:=ft (fa (fa f 0) 0) 0
def M9 (f:Fm):Tm:=ta (aK8 f) 1
def aa9 (f:Fm):Fm:=fa (fa f 0) 1
def aC0 (f:Fm):Bool:=!((aK8 f).kind != 3)&&!decide ((M9 f).count 0>0)&&Fm.same (fa (fa f 0) 0) (J3 (u5 0) (M9 f))
def R8 (f:Fm):Bool:=al7 f&&aC0 f
def aG3 (f:Fm):V:=if R8 f then .tup [.bool (f.kind==4),.agg (M9 f).cells,.agg (aa9 f).cells,.bool true]
 else .tup [.bool false,.agg C6.cells,.agg O3.cells,.bool false]
structure Fl where
 c:Bool
 f:Bool
 d:Bool
def Fl.z:Fl:=⟨false,false,false⟩
def Fl.n (x:Fl):Int:=(if x.c then 1 else 0)+(if x.f then 2 else 0)+(if x.d then 4 else 0)
theorem Fl.and (x y:Fl):bb8 .u8 x.n y.n=(Fl.mk (x.c&&y.c) (x.f&&y.f) (x.d&&y.d)).n:=by
 obtain ⟨a,b,c⟩:=x;obtain ⟨d,e,f⟩:=y
 revert a b c d e f;decide
theorem Fl.or (x y:Fl):cB0 .u8 x.n y.n=(Fl.mk (x.c||y.c) (x.f||y.f) (x.d||y.d)).n:=by
 obtain ⟨a,b,c⟩:=x;obtain ⟨d,e,f⟩:=y
 revert a b c d e f;decide
theorem Fl.dm3 (x:Fl):bb8 .u8 x.n 6=(Fl.mk false x.f x.d).n:=by have:=Fl.and x ⟨false,true,true⟩;simpa [Fl.n] using this
theorem Fl.dk2 (x:Fl):bb8 .u8 x.n 1=(Fl.mk x.c false false).n:=by have:=Fl.and x ⟨true,false,false⟩;simpa [Fl.n] using this
theorem Fl.dl2 (x:Fl):bb8 .u8 x.n 2=(Fl.mk false x.f false).n:=by have:=Fl.and x ⟨false,true,false⟩;simpa [Fl.n] using this
theorem Fl.dl4 (x:Fl):bb8 .u8 x.n 4=(Fl.mk false false x.d).n:=by have:=Fl.and x ⟨false,false,true⟩;simpa [Fl.n] using this
theorem Fl.or1 (x:Fl):cB0 .u8 x.n 1=(Fl.mk true x.f x.d).n:=by have:=Fl.or x ⟨true,false,false⟩;simpa [Fl.n] using this
def flag (k:Int) (b:Bool) (is:List (Fl × List Fl)):Fl :=
 if k==1 then ⟨false,true,true⟩
 else if k==2||k==3 then
  ⟨(is.getD 1 (.z,[])).1.c||(k==2&&(is.getD 0 (.z,[])).1.c),(is.getD 0 (.z,[])).1.f&&(is.getD 1 (.z,[])).1.f,(is.getD 0 (.z,[])).1.d&&(is.getD 1 (.z,[])).1.d⟩
 else ⟨(is.getD 0 (.z,[])).1.c||k==5,false,b&&((is.getD 0 (.z,[])).2.getD 1 .z).d⟩
mutual
def Fm.info:Fm→Fl × List Fl
 | .mk k t l a=>(flag k (R8 (.mk k t l a)) (Fm.aZ5 a),(Fm.aZ5 a).map (·.1))
def Fm.aZ5:List Fm→List (Fl × List Fl)
 | []=>[]
 | f::l=>f.info::Fm.aZ5 l
end
def Fm.fl (f:Fm):Fl:=f.info.1
theorem Fm.bL3 {x y:Tm}:(M3 x y).fl=⟨false,true,true⟩:=by simp [Fm.fl,M3,Fm.info,flag]
theorem Fm.dj5 {f:Fm} (h:f.kind=1):f.fl=⟨false,true,true⟩:=by cases f;simp only [Fm.kind] at h;subst h;simp [Fm.fl,Fm.info,flag]
theorem Fm.db4 {f a b:Fm} (h:f.kind=2∨f.kind=3) (ha:f.args=[a,b]) :
  f.fl=⟨b.fl.c||(f.kind==2&&a.fl.c),a.fl.f&&b.fl.f,a.fl.d&&b.fl.d⟩:=by
 obtain ⟨k,t,l,ar⟩:=f;simp only [Fm.kind,Fm.args] at h ha ⊢;subst ha;rcases h with rfl|rfl<;>simp [Fm.fl,Fm.info,Fm.aZ5,flag]
theorem Fm.de4 {f a:Fm} (h:4≤f.kind) (ha:f.args=[a]) :
  f.fl=⟨a.fl.c||f.kind==5,false,R8 f&&(((Fm.aZ5 a.args).map (fun p=>p.1)).getD 1 Fl.z).d⟩:=by
 obtain ⟨k,t,l,ar⟩:=f;simp only [Fm.kind,Fm.args] at h ha ⊢;subst ha;have h1:(k==1)=false:=by simp;omega
 have h2:(k==2)=false:=by simp;omega
 have h3:(k==3)=false:=by simp;omega
 cases a;simp [Fm.fl,Fm.info,Fm.aZ5,flag,h1,h2,h3,Fm.args]
theorem Fm.cM0 {f a:Fm} (h:4≤f.kind) (ha:f.args=[a]) (hb:R8 f=false):f.fl=⟨a.fl.c||f.kind==5,false,false⟩:=by rw [Fm.de4 h ha,hb];simp
theorem Fm.cf7 {f a x y:Fm} (h:4≤f.kind) (ha:f.args=[a]) (hb:R8 f=true) (hy:a.args=[x,y]):f.fl=⟨a.fl.c||f.kind==5,false,y.fl.d⟩:=by
 rw [Fm.de4 h ha,hb,hy];simp [Fm.aZ5,Fm.fl]
theorem Fm.bJ2 {k:Int} {a b:Fm} (h:k=2∨k=3):(E8 k a b).fl=⟨b.fl.c||(k==2&&a.fl.c),a.fl.f&&b.fl.f,a.fl.d&&b.fl.d⟩:=Fm.db4 (f:=E8 k a b) h rfl
def Fm.has (f:Fm) (k:Int):Bool × Int:=if P5 f != 0 then (false,P5 f) else ((if k==1 then f.fl.c else if k==2 then f.fl.f else f.fl.d),0)
@[go_sem] def az1 (p:Bool × Int):V:=.tup [.bool p.1,.int .i64 p.2]
theorem aT1 {a b:Int}:∀ (l:List Tm) (n:Nat),(∀ y∈l,∀ m:Nat,m+m7 y≤1000000→y.Y7 (V8 a) b (m:Int)=((m+E2 y (a+b):Nat):Int))→n+F8 l≤1000000 →
  Tm.ag5 (V8 a) l b (n:Int)=((n+J8 l (a+b):Nat):Int)
 | [],n,_,_=>by rw [Tm.aN4,J8];rfl
 | t::l,n,h,hb=>by
  rw [F8] at hb;have:=az6 t (a+b);rw [Tm.bb2,h t sp_ n om_,aT1 l _ (fun y hy=>h y (by simp [hy])) om_,J8,Nat.add_assoc]
theorem aB6 {k b:Int} (h0:0≤b) (h1:b≤1000000):(if k==2 then x4 b 1 else b)=b+r6 k:=by
 unfold r6;cases k==2 with
 | true=>simp only [if_true];exact C9 om_ om_ om_ om_
 | false=>simp
mutual
theorem O8 {m m':Int} (h:m≤m'):∀ t:Tm,t.least m=true→t.least m'=true
 | .mk k i ty l,e=>by
  rw [Tm.least,Bool.and_eq_true] at e ⊢;exact ⟨by have:=of_decide_eq_true e.1;simp;omega,aS3 h l e.2⟩
theorem aS3 {m m':Int} (h:m≤m'):∀ l:List Tm,Tm.J1 m l=true→Tm.J1 m' l=true
 | [],_=>by rw [Tm.J1]
 | t::l,e=>by
  rw [Tm.J1,Bool.and_eq_true] at e ⊢;exact ⟨O8 h t e.1,aS3 h l e.2⟩
end
theorem TmG.bz7:∀ (k:Nat) {t:Tm},TmG t→m7 t≤k→t.least 1000000000=true→∀ a b:Int,0≤a→0≤b→a+b+k≤1000000 →
  ∀ m:Nat,m+m7 t≤1000000→t.Y7 (V8 a) b (m:Int)=((m+E2 t (a+b):Nat):Int)
 | 0,t,h,hn,_,_,_,_,_,_,_,_=>by have:=Q3 t;omega
 | k + 1,t,h,hn,hl,a,b,ha,hb,hab,m,hm=>by
  revert hn hl hm
  refine h.aj9 (p:=fun t=>m7 t≤k+1→t.least 1000000000=true→m+m7 t≤1000000→t.Y7 (V8 a) b (m:Int)=((m+E2 t (a+b):Nat):Int)) ?_ ?_
  ·intro i hi _ hl _
   rw [u5,Tm.R2] at hl;have hi2:i≤1000000000:=by rw [Bool.and_eq_true] at hl;exact of_decide_eq_true hl.1
   rw [u5,Tm.Y7,Tm.aN4,E2];unfold V8;rw [ai8 om_ om_ om_ om_];have e:(i - b==a)=(i==a+b):=by
    by_cases h:i=a+b
    ·have h1:(i==a+b)=true:=by simpa using h
     rw [h1];simp;omega
    ·have h1:(i==a+b)=false:=by simpa using h
     rw [h1];simp;omega
   rw [e];cases (i==a+b) with
   | true=>simp only [beq_self_eq_true,if_true];rw [C9 om_ om_ om_ om_];rfl
   | false=>rfl
  ·intro kk ty l hk _ hg _ hn hl hm
   rw [m7] at hn hm;rw [Tm.least,Bool.and_eq_true] at hl;have hr:=H9 kk;rw [Tm.Y7,E2,hk,aB6 hb om_];simp only [Bool.false_eq_true,if_false];have:=aT1 (a:=a) (b:=b+r6 kk) l m (fun y hy m' hm'=>by
    have hsy:=I3 hy;exact TmG.bz7 k (hg y hy) om_ (Tm.F6.1 hl.2 y hy) a _ ha om_ om_ m' hm') om_
   rw [this,Int.add_assoc]
theorem TmG.am2 {t:Tm} (h:TmG t) (hs:m7 t≤100000) (hl:t.least 1000000000=true) {a:Int} (h0:0≤a) (h1:a≤100000):t.count a=(E2 t a:Int):=by
 unfold Tm.count;have:=TmG.bz7 (m7 t) h (Nat.le_refl _) hl a 0 h0 om_ om_ 0 om_;simpa using this
theorem aA0 {x:Int}:∀ {l:List Tm},(∀ y∈l,E2 y x=0)→J8 l x=0
 | [],_=>rfl
 | y::l,h=>by rw [J8,h y sp_,aA0 (fun z hz=>h z (by simp [hz]))]
theorem TmG.bH4:∀ (k:Nat) {t:Tm},TmG t→m7 t≤k→t.least 536870912=true→∀ b:Int,0≤b→b+k≤1000000→E2 (t.up 1 b) b=0
 | 0,t,h,hn,_,_,_,_=>by have:=Q3 t;omega
 | k+1,t,h,hn,hl,b,hb,hab=>by
  revert hn hl
  refine h.aj9 (p:=fun t=>m7 t≤k+1→t.least 536870912=true→E2 (t.up 1 b) b=0) ?_ ?_
  ·intro i hi _ hl
   rw [u5,Tm.R2] at hl;have hi2:i≤536870912:=by rw [Bool.and_eq_true] at hl;exact of_decide_eq_true hl.1
   rw [u5,Tm.up,Tm.upL,E2];simp only [beq_self_eq_true,Bool.true_and,if_true];by_cases h:i≥b
   ·rw [decide_eq_true h,C9 om_ om_ om_ om_]
    have:(i+1==b)=false:=by simp;omega
    simp [this]
   ·rw [decide_eq_false h]
    have:(i==b)=false:=by simp;omega
    simp [this]
  ·intro kk ty l hk _ hg _ hn hl
   rw [m7] at hn;rw [Tm.least,Bool.and_eq_true] at hl;have hr:=H9 kk;have e:x4 b (r6 kk)=b+r6 kk:=C9 om_ om_ om_ om_;rw [Tm.up,Tm.T4,E2,hk,e];simp only [Bool.false_and,Bool.false_eq_true,if_false];refine aA0 ?_;intro x hx;obtain ⟨y,hy,rfl⟩:=List.mem_map.1 hx;exact TmG.bH4 k (hg y hy) (by have:=I3 hy;omega) (Tm.F6.1 hl.2 y hy) _ om_ om_
def J0 (all:Bool) (x:Tm) (f:Fm):Fm:=fmQ (if all then 4 else 5) r5 (E8 (if all then 3 else 2) (J3 (u5 0) x) f)
theorem aY5 {all:Bool} {x:Tm} {f:Fm} (hx:x.count 0=0):R8 (J0 all x f)=true:=by
 have h1:al7 (J0 all x f)=true:=by cases all<;>rfl
 have h2:M9 (J0 all x f)=x:=rfl;have h3:(aK8 (J0 all x f)).kind=3:=rfl;have h4:fa (fa (J0 all x f) 0) 0=J3 (u5 0) x:=rfl;unfold R8 aC0;rw [h1,h2,h3,h4,Fm.O6,hx];rfl
theorem bO0 {all:Bool} {x:Tm} {f:Fm} (hx:x.count 0=0):(J0 all x f).fl.d=f.fl.d:=by
 have hk:4≤(J0 all x f).kind:=by cases all<;>simp [J0,fmQ,Fm.kind]
 rw [Fm.cf7 hk rfl (aY5 hx) rfl]
theorem bO2 {u:Bool} {s t:Tm} (hs:TmG s) (ht:TmG t):FmG u (J3 s t):=.eq (.t2 ar3 rfl (.t2 ar3 rfl bI1 (.t1 ar5 rfl hs)) ht) (.t0 ar4 rfl)
theorem bt6 {s t:Tm}:z6 (J3 s t)=m7 s+m7 t+21:=by unfold J3;rw [V6,Q4,Q4,av6,ap9,aK7];omega
theorem aU8 {all:Bool} {x:Tm} {f:Fm}:z6 (J0 all x f)=m7 x+z6 f+24:=by unfold J0;rw [ap8,O0,bt6,ao7];omega
theorem bn0 {u all:Bool} {x:Tm} {f:Fm} (hx:TmG x) (hf:FmG u f):FmG u (J0 all x f) :=
 .q (by cases all<;>simp) .nat (.two (by cases all<;>simp) (bO2 bA2 hx) hf)
theorem cp3 {all:Bool} {x:Tm} {f:Fm} (hx:TmW x) (hf:FmW f):FmW (J0 all x f):=cs6 K4 (aJ8 (av2 (D4 _) hx) hf)
inductive ax0:Nat→List Ty→Fm→Prop
 | eq {n:Nat} {g:List Ty} {x y:Tm}:L2 1 g r5 x→L2 1 g r5 y→ax0 n g (M3 x y)
 | two {n:Nat} {g:List Ty} {k:Int} {a b:Fm} (hk:k=2∨k=3):ax0 n g a→ax0 n g b→ax0 (n+1) g (E8 k a b)
 | bnd {n:Nat} {g:List Ty} {all:Bool} {x:Tm} {a:Fm}:L2 1 g r5 x→ax0 n (g++[r5]) a→ax0 (n+1) g (J0 all (x.up 1 0) a)
theorem L2.small {g:List Ty} {x:Tm} (h:L2 1 g r5 x) (hg:∀ y∈g,V9 1 y) (hb:g.length≤10000):TmG x∧m7 x≤67∧x.least 536870912=true:=by
 have b1:aq4 3 1=67:=rfl;have g3:∀ y∈g,D7 y≤3:=fun y hy=>(hg y hy).sz1;have l1:=L7;refine ⟨h.G (fun y hy=>(hg y hy).G om_) .nat,?_,?_⟩
 ·have:=(L2.sz (M:=3) om_ h g3 om_).1;omega
 ·have:=h.least (M:=3) (m:=536870912) om_ om_ g3 om_ om_;simpa using this
theorem bH2 {g:List Ty} {s:Ty} (hg:∀ y∈g,V9 1 y) (hs:V9 1 s):∀ y∈g++[s],V9 1 y:=by
 intro y hy;rcases List.mem_append.1 hy with hy|hy
 ·exact hg y hy
 ·simp at hy;subst hy;exact hs
theorem L2.up1 {g:List Ty} {x:Tm} (h:L2 1 g r5 x) (hg:∀ y∈g,V9 1 y) (hb:g.length≤10000) :
  TmG (x.up 1 0)∧m7 (x.up 1 0)≤67∧(x.up 1 0).count 0=0:=by
 obtain ⟨h1,h2,h3⟩:=h.small hg hb;have hG:=TmG.up (b:=1) om_ om_ 67 h1 h2 h3 0;refine ⟨hG,by rw [aU9];exact h2,?_⟩;have hl:(x.up 1 0).least 536870912=true:=by
  have:=h.least (M:=3) (m:=536870911) om_ om_ (fun y hy=>(hg y hy).sz1) (by rw [L7];omega) (by rw [L7];omega);have key:∀ (n:Nat) {t:Tm},m7 t≤n→t.least 536870911=true→∀ fr:Int,TmG t→(t.up 1 fr).least 536870912=true:=by
   intro n
   induction n with
   | zero=>intro t hn _ _ _;have:=Q3 t;omega
   | succ n ih =>
    intro t hn hl fr hG;cases t with|mk k i ty l =>
    rw [m7] at hn;rw [Tm.least,Bool.and_eq_true] at hl;have hi:=of_decide_eq_true hl.1;rw [Tm.up,Tm.T4];have h0:0≤i:=by cases hG<;>omega
    refine ae6 ?_ ?_
    ·split
     ·rw [C9 om_ om_ om_ om_];omega
     ·omega
    ·intro z hz
     obtain ⟨y,hy,rfl⟩:=List.mem_map.1 hz;refine ih (by have:=I3 hy;omega) (Tm.F6.1 hl.2 y hy) _ ?_;cases hG with
     | plain _ _ _ h=>exact h y hy
     | var=>simp at hy
     | typd _ _ _ _ h=>exact h y hy
  exact key _ (Nat.le_refl _) (by simpa using this) 0 h1
 rw [hG.am2 (by rw [aU9];omega) (O8 om_ _ hl) om_ om_,TmG.bH4 67 h1 h2 h3 0 om_ om_];rfl
theorem ax0.all {n:Nat} {g:List Ty} {f:Fm} (h:ax0 n g f) (hg:∀ y∈g,V9 1 y) (hb:g.length+n≤10000) :
  FmG true f∧z6 f+1≤136 * 2 ^ n∧f.fl.d=true:=by
 induction h with
 | @eq n g x y h1 h2 =>
  obtain ⟨a1,a2,_⟩:=h1.small hg om_;obtain ⟨b1,b2,_⟩:=h2.small hg om_;have:=Nat.one_le_two_pow (n:=n);exact ⟨.eq a1 b1,by rw [V6];omega,by rw [Fm.bL3]⟩
 | @two n g k a b hk _ _ h1 h2 =>
  obtain ⟨a1,a2,a3⟩:=h1 hg om_;obtain ⟨b1,b2,b3⟩:=h2 hg om_;exact ⟨.two hk a1 b1,by rw [O0,Nat.pow_succ];omega,by rw [Fm.bJ2 hk,a3,b3];rfl⟩
 | @bnd n g all x a hx _ h1 =>
  obtain ⟨c1,c2,c3⟩:=hx.up1 hg om_;obtain ⟨a1,a2,a3⟩:=h1 (bH2 hg .nat) (by simp;omega);have:=Nat.one_le_two_pow (n:=n);exact ⟨bn0 c1 a1,by rw [aU8,Nat.pow_succ];omega,by rw [bO0 c3,a3]⟩
theorem Fm.aB9 {f:Fm} (h:f.G5=true):formed f.kind f.type f.r8.length f.args.length=true∧(∀ x∈f.r8,x.G5=true)∧∀ x∈f.args,x.G5=true:=by
 rw [Fm.at3] at h;simp only [Bool.and_eq_true,List.all_eq_true] at h;exact ⟨h.1.1,h.1.2,h.2⟩
theorem Fm.cd8 {f:Fm} (h:f.G5=true):f.kind=1∨f.kind=2∨f.kind=3∨f.kind=4∨f.kind=5∨f.kind=6∨f.kind=7:=by
 have h:=(Fm.aB9 h).1;unfold formed au2 at h;by_cases h1:f.kind=1
 ·exact .inl h1
 by_cases h2:f.kind=2
 ·exact .inr (.inl h2)
 by_cases h3:f.kind=3
 ·exact .inr (.inr (.inl h3))
 by_cases h4:f.kind=4
 ·exact .inr (.inr (.inr (.inl h4)))
 by_cases h5:f.kind=5
 ·exact .inr (.inr (.inr (.inr (.inl h5))))
 by_cases h6:f.kind=6
 ·exact .inr (.inr (.inr (.inr (.inr (.inl h6)))))
 by_cases h7:f.kind=7
 ·exact .inr (.inr (.inr (.inr (.inr (.inr h7)))))
 simp [h1,h2,h3,h4,h5,h6,h7] at h
theorem Fm.an5 {f:Fm} (h:f.G5=true) (hk:f.kind=2∨f.kind=3):∃ a b,f.args=[a,b]∧a.G5=true∧b.G5=true:=by
 obtain ⟨h1,_,h3⟩:=Fm.aB9 h;have hl:f.args.length=2:=by
  unfold formed au2 at h1;rcases hk with hk|hk<;>rw [hk] at h1<;>simp at h1<;>omega
 obtain ⟨a,b,e⟩:=ck4 hl;rw [e] at h3;exact ⟨a,b,e,h3 a sp_,h3 b sp_⟩
theorem Fm.aA4 {f:Fm} (h:f.G5=true) (hk:f.kind=4∨f.kind=5∨f.kind=6∨f.kind=7):∃ a,f.args=[a]∧a.G5=true:=by
 obtain ⟨h1,_,h3⟩:=Fm.aB9 h;have hl:f.args.length=1:=by
  unfold formed au2 at h1;rcases hk with hk|hk|hk|hk<;>rw [hk] at h1<;>simp at h1<;>omega
 obtain ⟨a,e⟩:=de8 hl;rw [e] at h3;exact ⟨a,e,h3 a sp_⟩
theorem Fm.aJ5 {f:Fm} (h:f.G5=true) (hk:f.kind=1):∃ u v,f.r8=[u,v]∧u.G5=true∧v.G5=true:=by
 obtain ⟨h1,h3,_⟩:=Fm.aB9 h;have hl:f.r8.length=2:=by
  unfold formed au2 at h1;rw [hk] at h1;simp at h1;omega
 obtain ⟨a,b,e⟩:=ck4 hl;rw [e] at h3;exact ⟨a,b,e,h3 a sp_,h3 b sp_⟩
theorem Tm.aI7 {t:Tm} (h:t.G5=true) (hk:t.kind=3):∃ p q,t.args=[p,q]∧p.G5=true∧q.G5=true:=by
 rw [Tm.at3] at h;simp only [Bool.and_eq_true,List.all_eq_true] at h;have hl:t.args.length=2:=by
  have h1:=h.1;unfold O5 at h1;rw [hk,ar3] at h1;simp at h1;omega
 obtain ⟨a,b,e⟩:=ck4 hl;have h3:=h.2;rw [e] at h3;exact ⟨a,b,e,h3 a sp_,h3 b sp_⟩
theorem bS2 {f:Fm} (hk:f.kind=6∨f.kind=7):R8 f=false:=by
 unfold R8 al7;rcases hk with hk|hk<;>rw [hk]<;>rfl
theorem bk7 {f:Fm} (h:(f.type.kind != 1)=true):R8 f=false:=by
 unfold R8 al7;rw [h];simp
theorem ck8 {f a:Fm} (hk:f.kind=4) (ha:f.args=[a]) (h:(a.kind != 3)=true):R8 f=false:=by
 unfold R8 al7 fa;rw [ha,hk];simp [h]
theorem ct9 {f a:Fm} (hk:f.kind=5) (ha:f.args=[a]) (h:(a.kind != 2)=true):R8 f=false:=by
 unfold R8 al7 fa;rw [ha,hk];simp [h]
theorem bS9 {f a x y:Fm} (ha:f.args=[a]) (hx:a.args=[x,y]) (h:(x.kind != 1)=true):R8 f=false:=by
 unfold R8 al7 fa;rw [ha];have e:([a].getD 0 O3)=a:=rfl;rw [e,hx];have e:([x,y].getD 0 O3)=x:=rfl;rw [e,h];simp
theorem bS5 {f a x y:Fm} {u v:Tm} (ha:f.args=[a]) (hx:a.args=[x,y]) (hu:x.r8=[u,v]):aK8 f=u∧M9 f=ta u 1∧aa9 f=y∧fa (fa f 0) 0=x:=by
 unfold M9 aa9 aK8 fa ft;rw [ha];have e:([a].getD 0 O3)=a:=rfl;rw [e,hx];have e:([x,y].getD 0 O3)=x:=rfl;rw [e,hu];exact ⟨rfl,rfl,rfl,rfl⟩
theorem bM6 {f a x y:Fm} {u v:Tm} (ha:f.args=[a]) (hx:a.args=[x,y]) (hu:x.r8=[u,v]) (h:(u.kind != 3)=true):R8 f=false:=by
 obtain ⟨h1,h2,h3,h4⟩:=bS5 ha hx hu;unfold R8 aC0;rw [h1,h];simp
theorem bT9 {f a x y:Fm} {u v p q:Tm} (ha:f.args=[a]) (hx:a.args=[x,y]) (hu:x.r8=[u,v]) (hq:u.args=[p,q]) (h:decide (q.count 0>0)=true):R8 f=false:=by
 obtain ⟨h1,h2,h3,h4⟩:=bS5 ha hx hu;have e:ta u 1=q:=ct8 (by rw [hq];rfl);unfold R8 aC0;rw [h2,e,h];simp
theorem bR6 {f a x y:Fm} {u v p q:Tm} (ha:f.args=[a]) (hx:a.args=[x,y]) (hu:x.r8=[u,v]) (hq:u.args=[p,q]) (h:Fm.same x (J3 (u5 0) q)=false):R8 f=false:=by
 obtain ⟨h1,h2,h3,h4⟩:=bS5 ha hx hu;have e:ta u 1=q:=ct8 (by rw [hq];rfl);unfold R8 aC0;rw [h2,e,h4,h];simp
theorem aV0 {f a x y:Fm} {u v p q:Tm} (hk:(f.kind=4∧(a.kind != 3)=false)∨(f.kind=5∧(a.kind != 2)=false)) (ht:(f.type.kind != 1)=false) (ha:f.args=[a]) (hx:a.args=[x,y])
  (hx1:(x.kind != 1)=false) (hu:x.r8=[u,v]) (hu1:(u.kind != 3)=false) (hq:u.args=[p,q]) (hc:decide (q.count 0>0)=false) (h:Fm.same x (J3 (u5 0) q)=true) :
  R8 f=true∧M9 f=q∧aa9 f=y:=by
 obtain ⟨h1,h2,h3,h4⟩:=bS5 ha hx hu;have e:ta u 1=q:=ct8 (by rw [hq];rfl);have e0:fa f 0=a:=bu0 (by rw [ha];rfl);refine ⟨?_,by rw [h2,e],h3⟩;unfold R8 aC0 al7;rw [h1,h2,e,h4,h,hc,hu1,hx1,ht,e0];rcases hk with ⟨hk,hk2⟩|⟨hk,hk2⟩<;>rw [hk]<;>simp [hk2]
mutual
def Fm.univ:Fm→List Ty × Fm
 | .mk k t l a=>if k==4 then (match Fm.bi3 a with|x::_=>(t::x.1,x.2) | []=>([],.mk k t l a)) else ([],.mk k t l a)
def Fm.bi3:List Fm→List (List Ty × Fm)
 | []=>[]
 | f::l=>f.univ::Fm.bi3 l
end
theorem Fm.aW7 {f a:Fm} (hk:(f.kind==4)=true) (ha:f.args=[a]):f.univ=(f.type::a.univ.1,a.univ.2):=by
 obtain ⟨k,t,l,ar⟩:=f;simp only [Fm.kind,Fm.args] at hk ha;subst ha;rw [Fm.univ,Fm.bi3,Fm.bi3,hk];rfl
theorem Fm.aX5 {f:Fm} (hk:(f.kind==4)=false):f.univ=([],f):=by
 obtain ⟨k,t,l,ar⟩:=f;simp only [Fm.kind] at hk;rw [Fm.univ,hk];rfl
def Fm.task (f:Fm):(List Ty × Ty) × (Fm × Bool) :=
 if P5 f != 0 then (([],I6),(O3,false))
 else if f.univ.2.kind != 5||!(fa f.univ.2 0).fl.d then (([],I6),(O3,false)) else ((f.univ.1,f.univ.2.type),(fa f.univ.2 0,true))
@[go_sem] def cM4 (p:(List Ty × Ty) × (Fm × Bool)):V:=.tup [.sl .any (p.1.1.map Ty.cells),.agg p.1.2.cells,.agg p.2.1.cells,.bool p.2.2]
theorem Fm.al2 {f:Fm} (h:(P5 f != 0)=false):f.G5=true:=by
 have h0:P5 f=0:=by simpa using h
 have:=Fm.co4 h0;unfold Fm.G5;cases hn:f.nodes with
 | none=>exact absurd hn this
 | some n=>rfl
theorem bf1:∀ {l:List Fm} {x:Fm},x∈l→z6 x≤an7 l
 | y::l,x,h=>by
  rw [an7];rcases List.mem_cons.1 h with rfl|h
  ·omega
  ·have:=bf1 h;omega
theorem ac3 {f x:Fm} (h:x∈f.args):z6 x<z6 f:=by
 obtain ⟨k,t,l,a⟩:=f;rw [z6];have:=bf1 (show x∈a from h);omega
theorem bq8 {f a:Fm} (ha:f.args=[a]) (ga:a.G5=true) (h:R8 f=true):∃ x y,a.args=[x,y]∧aa9 f=y∧y.G5=true:=by
 unfold R8 al7 at h;simp only [Bool.and_eq_true,Bool.not_eq_true'] at h;have e0:fa f 0=a:=bu0 (by rw [ha];rfl);have h3:=h.1.1.2;rw [e0] at h3;have hk:a.kind=2∨a.kind=3:=by
  split at h3<;>simp at h3
  ·exact .inr h3
  ·exact .inl h3
 obtain ⟨x,y,e,gx,gy⟩:=Fm.an5 ga hk;exact ⟨x,y,e,by unfold aa9;rw [e0];exact bu0 (by rw [e];rfl),gy⟩
theorem ct4:(Fl.mk false true true).n=6:=rfl
attribute [go_sem] Fl.and Fl.or Fl.dm3 Fl.dk2 Fl.dl2 Fl.dl4 Fl.or1 Bool.false_or Bool.or_false Bool.and_false Bool.false_and
theorem by2:∀ f:Fm,f.univ.1.length≤z6 f:=by
 intro f
 induction f using Fm.ind with|h f ih=>?_
 obtain ⟨k,t,l,a⟩:=f;rw [Fm.univ,z6];cases k==4 with
 | false=>simp
 | true =>
  match a,ih with
  | [],_=>simp [Fm.bi3]
  | x::a,ih =>
   have:=ih x (by simp [Fm.args]);rw [an7];simp only [Fm.bi3,if_true,List.length_cons];omega
theorem aM4:∀ f:Fm,FmW f→f.G5=true→FmW f.univ.2∧f.univ.2.G5=true∧∀ t∈f.univ.1,TyW t:=by
 intro f
 induction f using Fm.ind with|h f ih=>?_
 intro hf hg;cases hk:(f.kind==4) with
 | false=>rw [Fm.aX5 hk];exact ⟨hf,hg,sp_⟩
 | true =>
  obtain ⟨a,ha,ga⟩:=Fm.aA4 hg (.inl (by simpa using hk));have hm:a∈f.args:=by rw [ha];simp
  obtain ⟨h1,h2,h3⟩:=ih a hm (hf.arg hm) ga;rw [Fm.aW7 hk ha];refine ⟨h1,h2,?_⟩;intro t ht;rcases List.mem_cons.1 ht with rfl|ht
  ·exact hf.ty
  ·exact h3 t ht
def af4 (t:Tm) (fr b:Int):Tm × Int :=
 if Z2 t != 0 then (C6,Z2 t)
 else if decide (fr<0)||decide (fr>4096)||decide (b<0)||decide (b>4096)||!t.least 536870912 then (C6,1)
 else (t.up b fr,0)
@[go_sem] def bC9 (p:Tm × Int):V:=.tup [.agg p.1.cells,.int .i64 p.2]
def aw7 (s t:Tm):Fm × Int :=
 if Z2 s != 0 then (O3,Z2 s) else if Z2 t != 0 then (O3,Z2 t)
 else if decide ((ft (J3 s t) 0).szW>4096)||decide ((J3 s t).szW>4096) then (O3,4) else (J3 s t,0)
def cI2 (all:Bool) (t:Tm) (f:Fm):Fm × Int :=
 if (af4 t 0 1).2 != 0 then (O3,(af4 t 0 1).2) else if P5 f != 0 then (O3,P5 f)
 else if (aw7 (u5 0) (af4 t 0 1).1).2 != 0 then (O3,(aw7 (u5 0) (af4 t 0 1).1).2)
 else if decide ((J0 all (af4 t 0 1).1 f).szW>4096) then (O3,4) else (J0 all (af4 t 0 1).1 f,0)
theorem TmG.szW {t:Tm} (h:TmG t) (hs:m7 t≤1000000):t.szW=(m7 t:Int):=Tm.Y2 _ _ (h.ae0 hs)
theorem FmG.szW {u:Bool} {f:Fm} (h:FmG u f) (hs:z6 f≤1000000):f.szW=(z6 f:Int):=Fm.Y2 _ _ (h.ae0 hs)
theorem TmG.aj7 {t:Tm} (h:TmG t) (hs:m7 t≤4096):Z2 t=0:=by rw [h.bp0 om_,if_pos hs]
theorem FmG.aj7 {u:Bool} {f:Fm} (h:FmG u f) (hs:z6 f≤4096):P5 f=0:=by rw [h.bp0 om_,if_pos hs]
theorem TmG.da0 {t:Tm} (h:TmG t) (hs:m7 t≤4096) (hl:t.least 536870912=true):af4 t 0 1=(t.up 1 0,0):=by
 unfold af4;rw [h.aj7 hs,hl];rfl
theorem TmG.less {s t:Tm} (h1:TmG s) (h2:TmG t) (z1:m7 s≤1000) (z2:m7 t≤1000):aw7 s t=(J3 s t,0):=by
 unfold aw7;rw [h1.aj7 om_,h2.aj7 om_];have hl:TmG (ft (J3 s t) 0):=.t2 ar3 rfl (.t2 ar3 rfl bI1 (.t1 ar5 rfl h1)) h2;have zl:m7 (ft (J3 s t) 0)=m7 s+m7 t+19:=by
  show m7 (tm0 3 [tm0 3 [an8,tm0 5 [s]],t])=_;rw [Q4,Q4,av6,aK7];omega
 have hF:FmG true (J3 s t):=bO2 h1 h2;have zF:=bt6 (s:=s) (t:=t);rw [hl.szW om_,hF.szW om_,zl,zF];have d1:decide (((m7 s+m7 t+19:Nat):Int)>4096)=false:=by simp;omega
 have d2:decide (((m7 s+m7 t+21:Nat):Int)>4096)=false:=by simp;omega
 rw [d1,d2];rfl
theorem bK6 {all:Bool} {t:Tm} {f:Fm} (h:TmG t) (hs:m7 t≤1000) (hl:t.least 536870912=true) (hf:FmG true f) (zf:z6 f≤3000) :
  cI2 all t f=(J0 all (t.up 1 0) f,0):=by
 have hu:=TmG.up (b:=1) om_ om_ _ h (Nat.le_refl _) hl 0;have zu:=aU9 (b:=1) t 0;unfold cI2;rw [h.da0 om_ hl];simp only;rw [hf.aj7 om_,bA2.less hu (by rw [ao7];omega) om_,(bn0 (all:=all) hu hf).szW (by rw [aU8];omega),aU8];have d1:decide (((m7 (t.up 1 0)+z6 f+24:Nat):Int)>4096)=false:=by simp;omega
 rw [d1];rfl
def P7 (l:List Ty) (f:Fm):Fm:=l.foldr (fun t f=>fmQ 4 t f) f
theorem cb1 {l:List Ty} {f:Fm} {j:Nat} {x:Ty} (h:l[j]? = some x):fmQ 4 x (P7 (l.drop (j+1)) f)=P7 (l.drop j) f:=by
 rw [A2 h];rfl
theorem cR9 {l:List Ty} {f:Fm} (hl:∀ t∈l,TyW t) (hf:FmW f):FmW (P7 l f):=by
 induction l with
 | nil=>exact hf
 | cons t l ih=>exact cs6 (hl t sp_) (ih (fun x hx=>hl x (by simp [hx])))
theorem cg6 {u:Bool} {l:List Ty} {f:Fm} (hl:∀ t∈l,TyG t) (hf:FmG u f):FmG u (P7 l f):=by
 induction l with
 | nil=>exact hf
 | cons t l ih=>exact .q (.inl rfl) (hl t sp_) (ih (fun x hx=>hl x (by simp [hx])))
theorem bS1 {l:List Ty} {f:Fm}:z6 (P7 l f)=z6 f+l.length:=by
 induction l with
 | nil=>rfl
 | cons t l ih=>show z6 (fmQ 4 t (P7 l f))=_;rw [ap8,ih,List.length_cons];omega
theorem bW9 {l:List Ty} {f:Fm} (hf:(f.kind==4)=false):(P7 l f).univ=(l,f):=by
 induction l with
 | nil=>exact Fm.aX5 hf
 | cons t l ih =>
  show (fmQ 4 t (P7 l f)).univ=_;rw [Fm.aW7 (f:=fmQ 4 t (P7 l f)) (a:=P7 l f) rfl rfl,ih];rfl
inductive Res where
 | mk (num:Nat) (list:List Nat) (pair:List Res) (body:Tm) (env:List Res)
def Res.num:Res→Nat | .mk n _ _ _ _=>n
def Res.list:Res→List Nat | .mk _ l _ _ _=>l
def ah7 (l:List Nat):List (List V):=ints (l.map fun (n:Nat)=>(n:Int))
def Res.pair:Res→List Res | .mk _ _ p _ _=>p
def Res.body:Res→Tm | .mk _ _ _ b _=>b
def Res.env:Res→List Res | .mk _ _ _ _ e=>e
theorem Res.ind {p:Res→Prop} (h:∀ t,(∀ x∈t.pair,p x)→(∀ x∈t.env,p x)→p t):∀ t,p t:=by
 intro t;refine Res.rec (motive_1:=p) (motive_2:=fun l=>∀ x∈l,p x) (fun n l pr b e i1 i2=>h _ i1 i2) sp_ (fun a l ha hl x hx=>?_) t;rcases List.mem_cons.1 hx with rfl|hx
 ·exact ha
 ·exact hl x hx
mutual
def Res.cells:Res→List V
 | .mk n l p b e=>[.int .i64 n,.sl .any (ah7 l),.sl .any (Res.rows p),.int .i64 b.kind,.int .i64 b.index,.int .i64 b.type.kind,.sl .any (b.type.args.map Ty.cells),.sl .any (b.args.map Tm.cells),.sl .any (Res.rows e)]
def Res.rows:List Res→List (List V)
 | []=>[]
 | r::l=>r.cells::Res.rows l
end
theorem Res.Y8:∀ l,Res.rows l=l.map Res.cells
 | []=>by simp [Res.rows]
 | t::l=>by simp [Res.rows,Res.Y8 l]
theorem Res.m8 (t:Res):t.cells=[.int .i64 t.num,.sl .any (ah7 t.list),.sl .any (t.pair.map Res.cells),.int .i64 t.body.kind,.int .i64 t.body.index,.int .i64 t.body.type.kind,
  .sl .any (t.body.type.args.map Ty.cells),.sl .any (t.body.args.map Tm.cells),.sl .any (t.env.map Res.cells)]:=by
 cases t;simp [Res.cells,Res.Y8,Res.num,Res.list,Res.pair,Res.body,Res.env]
section
variable (t:Res)
theorem Res.D3:t.cells.length=9:=by rw [Res.m8];rfl
theorem Res.al0:t.cells[0]? = some (.int .i64 t.num):=by rw [Res.m8];rfl
theorem Res.al5:t.cells[1]? = some (.sl .any (ah7 t.list)):=by rw [Res.m8];rfl
theorem Res.av5:t.cells[2]? = some (.sl .any (t.pair.map Res.cells)):=by rw [Res.m8];rfl
theorem Res.cG8:t.cells[8]? = some (.sl .any (t.env.map Res.cells)):=by rw [Res.m8];rfl
theorem Res.W6:List.take 9 t.cells=t.cells:=List.take_of_length_le (by rw [Res.D3];exact Nat.le_refl _)
theorem Res.bH7:List.take 5 (List.drop 3 t.cells)=t.body.cells:=by rw [Res.m8,Tm.m8];rfl
theorem Res.Q8:t.cells.all ab6=true:=by rw [Res.m8];rfl
end
theorem bF8 {cs:List V} {t:Res} (h:cs.length=9):I2 cs 0 t.cells=t.cells:=R7 (by rw [h,Res.D3])
theorem bh6:∀ t:Res,C7 t.cells=t.cells:=by
 intro t
 induction t using Res.ind with
 | h t i1 i2 =>
  rw [Res.m8];have e1:B2 (t.pair.map Res.cells)=t.pair.map Res.cells:=by
   rw [H6,List.map_map];exact List.map_congr_left fun x hx=>i1 x hx
  have e2:B2 (t.env.map Res.cells)=t.env.map Res.cells:=by
   rw [H6,List.map_map];exact List.map_congr_left fun x hx=>i2 x hx
  simp only [C7,H2,ah7,N5,H8,aD3,e1,e2]
theorem bC7 (l:List Res):B2 (l.map Res.cells)=l.map Res.cells:=by
 rw [H6,List.map_map];exact List.map_congr_left fun x _=>bh6 x
section
variable {S:Id→Prop}
theorem bR8:∀ t:Res,InL S t.cells:=by
 intro t
 induction t using Res.ind with
 | h t i1 i2 =>
  rw [Res.m8];have e1:Z6 S (t.pair.map Res.cells):=by
   rw [S3];intro l hl;obtain ⟨x,hx,rfl⟩:=List.mem_map.1 hl;exact i1 x hx
  have e2:Z6 S (t.env.map Res.cells):=by
   rw [S3];intro l hl;obtain ⟨x,hx,rfl⟩:=List.mem_map.1 hl;exact i2 x hx
  simp only [InL,InV,aq0,true_and,and_true,ah7,am4,aC5,bp4,e1,e2]
theorem cg8 (l:List Res):Z6 S (l.map Res.cells):=by
 rw [S3];intro x hx;obtain ⟨y,_,rfl⟩:=List.mem_map.1 hx;exact bR8 y
end
theorem br9 (l:List Res):(l.map Res.cells).all (fun e=>e.length==9)=true:=by simp [Res.D3]
theorem bs7 (l:List Res):(l.map Res.cells).flatten.all ab6=true:=by
 rw [List.all_eq_true];intro v hv;obtain ⟨c,hc,hv⟩:=List.mem_flatten.1 hv;obtain ⟨x,_,rfl⟩:=List.mem_map.1 hc;exact List.all_eq_true.1 (Res.Q8 x) v hv
theorem Res.p9 (n:Nat) (l:List Nat) (p:List Res) (b:Tm) (e:List Res):(Res.mk n l p b e).cells=[.int .i64 n,.sl .any (ah7 l),.sl .any (p.map Res.cells),.int .i64 b.kind,.int .i64 b.index,.int .i64 b.type.kind,
  .sl .any (b.type.args.map Ty.cells),.sl .any (b.args.map Tm.cells),.sl .any (e.map Res.cells)]:=Res.m8 _
theorem bk9 {α β:Type} {f:α→β} {l:List α}:List.take l.length (l.map f)=l.map f:=List.take_of_length_le sp_
theorem bb7 (a b:List (List V)):B2 (a++b)=B2 a++B2 b:=by simp [H6]
theorem bm6 (a:List V) (b:List (List V)):B2 (a::b)=C7 a::B2 b:=by simp [H6]
theorem bw1:B2 []=[]:=by simp [H6]
def mc (u most:Nat) (o:Bool):List V:=[.int .i64 u,.int .i64 most,.bool o]
@[go_sem] theorem dn0 {S:Id→Prop} (u most:Nat) (o:Bool):InL S (mc u most o)=True:=by simp [mc,InL,InV]
theorem cO1 {u most:Nat} {o:Bool}:(mc u most o).length=3:=rfl
theorem dj7 {u most:Nat} {o:Bool}:(mc u most o)[0]? = some (.int .i64 u):=rfl
theorem dk4 {u most:Nat} {o:Bool}:(mc u most o)[1]? = some (.int .i64 most):=rfl
theorem dg9 {u most:Nat} {o:Bool}:(mc u most o)[2]? = some (.bool o):=rfl
theorem cY9 {u u' most:Nat} {o:Bool}:I2 (mc u most o) 0 [.int .i64 u']=mc u' most o:=rfl
theorem da9 {u most:Nat} {o o':Bool}:I2 (mc u most o) 2 [.bool o']=mc u most o':=rfl
attribute [go_sem] bR8 cg8 cO1 dj7 dk4 dg9 cY9 da9
attribute [go_sem] Res.D3 Res.al0 Res.al5 Res.av5 Res.cG8 Res.W6 Res.bH7 Res.Q8 bF8 bh6 bC7 br9 bs7
def am7 (n:Nat):Res:=.mk n [] [] C6 []
def an1:Res:=am7 0
def ag4 (l:List Nat):Res:=.mk 0 l [] C6 []
def ay7 (l:List Res):Res:=.mk 0 [] l C6 []
def aT8 (b:Tm) (e:List Res):Res:=.mk 0 [] [] b e
abbrev Out:=Option (Res × Nat × Bool)
abbrev Evl:=Nat→Tm→List Res→Out
def I7 (E:Evl) (u:Nat) (f a:Res):Out:=E u f.body (f.env++[a])
def Q1 (E:Evl) (e:List Res):Nat→List Tm→Option (List Res × Nat × Bool)
 | u,[]=>some ([],u,false)
 | u,t::l =>
  match E u t e with
  | none=>none
  | some (_,u',true)=>some ([],u',true)
  | some (r,u',false) =>
   match Q1 E e u' l with
   | none=>none
   | some (l',u'',o)=>some (r::l',u'',o)
def ad7 (E:Evl) (s:Res):Nat→Nat→Nat→Res→Out
 | 0,_,u,r=>some (r,u,false)
 | n+1,k,u,r =>
  match I7 E u s (am7 k) with
  | none=>none
  | some (_,u',true)=>some (r,u',true)
  | some (f,u',false) =>
   match I7 E u' f r with
   | none=>none
   | some (r',u'',true)=>some (r',u'',true)
   | some (r',u'',false)=>ad7 E s n (k+1) u'' r'
def V4 (E:Evl) (s:Res) (l:List Nat):Nat→Nat→Res→Out
 | 0,u,r=>some (r,u,false)
 | i+1,u,r =>
  match I7 E u s (am7 (l.getD i 0)) with
  | none=>none
  | some (_,u',true)=>some (r,u',true)
  | some (f,u',false) =>
   match I7 E u' f (ag4 (l.drop (i+1))) with
   | none=>none
   | some (_,u'',true)=>some (r,u'',true)
   | some (f',u'',false) =>
    match I7 E u'' f' r with
    | none=>none
    | some (r',u3,true)=>some (r',u3,true)
    | some (r',u3,false)=>V4 E s l i u3 r'
def O7 (E:Evl) (k:Int) (u:Nat) (l:List Res):Out :=
 if k==3 then (match l with | [f,a]=>I7 E u f a|_=>none)
 else if k==5 then (match l with | [a]=>some (am7 (a.num+1),u,false)|_=>none)
 else if k==6 then (match l with | [z,s,n]=>ad7 E s n.num 0 u z|_=>none)
 else if k==8 then (match l with | [a,b]=>some (ag4 (a.num::b.list),u,false)|_=>none)
 else if k==9 then (match l with | [z,s,n]=>V4 E s n.list n.list.length u z|_=>none)
 else if k==10 then some (ay7 l,u,false)
 else if k==11 then (match l with | [a]=>(match a.pair with | [x,_]=>some (x,u,false)|_=>none)|_=>none)
 else if k==12 then (match l with | [a]=>(match a.pair with | [_,y]=>some (y,u,false)|_=>none)|_=>none)
 else some (an1,u,false)
def ab7 (most:Nat) (E:Evl):Evl:=fun u t e =>
 if u=most then some (an1,u,true)
 else if t.kind==1 then
  (if 0≤(e.length:Int) - 1 - t.index then (e[((e.length:Int) - 1 - t.index).toNat]?).map fun r=>(r,u+1,false) else none)
 else if t.kind==2 then (match t.args with | [b]=>some (aT8 b e,u+1,false)|_=>none)
 else match Q1 E e (u+1) t.args with
  | none=>none
  | some (_,u',true)=>some (an1,u',true)
  | some (l,u',false)=>O7 E t.kind u' l
def ev (most:Nat):Nat→Evl
 | 0=>fun _ _ _=>none
 | f+1=>ab7 most (ev most f)
theorem aC4 (most f:Nat):ev most (f+1)=ab7 most (ev most f):=rfl
/- scope.Lift. -/
mutual
def Tm.sl (b:Int):Tm→Int→Tm
 | .mk k i t l,fr=>if b==0 then .mk k i t l else if k==1 then .mk k (if decide (i≥fr) then x4 i b else i) t l
  else .mk k i t (Tm.slL b l (if k==2 then x4 fr 1 else fr))
def Tm.slL (b:Int):List Tm→Int→List Tm
 | [],_=>[]
 | t::l,fr=>t.sl b fr::Tm.slL b l fr
end
/- scope.put. -/
/- scope.uses. -/
def evB (k:Int) (b:Int):Int:=if decide (k≥4)&&decide (k≤7) then x4 b 1 else b
/- matrix.Free. -/
mutual
def fdp:Fm→Nat
 | .mk _ _ _ a=>bm5 a+1
def bm5:List Fm→Nat
 | []=>0
 | f::l=>max (fdp f) (bm5 l)
end
end GoAbs
set_option maxRecDepth 8000
namespace GoAbs
open Go
theorem bm1 {k d:Int} (h0:0≤d) (h1:d≤1000000):evB k d=d+D9 k:=by
 have e:Z3 k=(decide (k≥4)&&decide (k≤7)):=by
  unfold Z3;by_cases h4:k=4
  ·subst h4;rfl
  by_cases h5:k=5
  ·subst h5;rfl
  by_cases h6:k=6
  ·subst h6;rfl
  by_cases h7:k=7
  ·subst h7;rfl
  have a4:(k==4)=false:=by simpa using h4
  have a5:(k==5)=false:=by simpa using h5
  have a6:(k==6)=false:=by simpa using h6
  have a7:(k==7)=false:=by simpa using h7
  rw [a4,a5,a6,a7];by_cases h:k≥4
  ·have:¬ k≤7:=by omega
   simp [h,this]
  ·simp [h]
 unfold evB D9;rw [← e];split
 ·exact C9 om_ om_ om_ om_
 ·omega
theorem aC8 (f:Fm):1≤fdp f:=by cases f;rw [fdp];omega
theorem aJ0 {k:Int} {a b:Fm}:fdp (E8 k a b)=max (fdp a) (fdp b)+1:=by simp [E8,fdp,bm5]
theorem cy6 {x y:Tm}:fdp (M3 x y)=1:=by simp [M3,fdp,bm5]
theorem bb4 {k:Int} {a b:Fm} {M:Int} (h1:a.least M=true) (h2:b.least M=true):(E8 k a b).least M=true:=by
 rw [E8,Fm.least];simp [Tm.F7,Fm.L6,Fm.F7,h1,h2]
inductive S7 (Q:Ty→Prop):Int→Ty→List Ty→Ty→Prop
 | app {ty a b:Ty}:S7 Q 3 ty [G1 a b,a] b
 | zero {ty:Ty}:S7 Q 4 ty [] r5
 | succ {ty:Ty}:S7 Q 5 ty [r5] r5
 | av8 {t:Ty}:S7 Q 6 t [t,G1 r5 (G1 t t),r5] t
 | nil {ty:Ty}:S7 Q 7 ty [] C8
 | cons {ty:Ty}:S7 Q 8 ty [r5,C8] C8
 | fold {t:Ty}:S7 Q 9 t [t,G1 r5 (G1 C8 (G1 t t)),C8] t
 | pair {ty a b:Ty}:Q (E9 a b)→S7 Q 10 ty [a,b] (E9 a b)
 | fst {ty a b:Ty}:S7 Q 11 ty [E9 a b] a
 | snd {ty a b:Ty}:S7 Q 12 ty [E9 a b] b
 | unit {ty:Ty}:S7 Q 13 ty [] S5
inductive w7 (Q:Ty→Prop):List Ty→Tm→Ty→Prop
 | var {g:List Ty} {i:Nat} {t:Ty} (hi:i<g.length) (h:g[g.length - 1 - i]? = some t):w7 Q g (u5 i) t
 | lam {g:List Ty} {a b:Ty} {t:Tm}:Q (G1 a b)→w7 Q (g++[a]) t b→w7 Q g (tmT 2 a [t]) (G1 a b)
 | n0 {g:List Ty} {k:Int} {ty s:Ty}:S7 Q k ty [] s→w7 Q g (tmT k ty []) s
 | n1 {g:List Ty} {k:Int} {ty s a:Ty} {x:Tm}:S7 Q k ty [a] s→w7 Q g x a→w7 Q g (tmT k ty [x]) s
 | n2 {g:List Ty} {k:Int} {ty s a b:Ty} {x y:Tm}:S7 Q k ty [a,b] s→w7 Q g x a→w7 Q g y b→w7 Q g (tmT k ty [x,y]) s
 | n3 {g:List Ty} {k:Int} {ty s a b c:Ty} {x y z:Tm}:S7 Q k ty [a,b,c] s→w7 Q g x a→w7 Q g y b→w7 Q g z c→w7 Q g (tmT k ty [x,y,z]) s
theorem TyG.cj6 {a b:Ty} (ha:TyF a) (hb:TyF b) (h:D7 a+D7 b≤63):TyG (E9 a b):=⟨.pair ha hb,by rw [P0];omega⟩
theorem TyG.bo5 {a b:Ty} (ha:TyF a) (hb:TyF b) (h:D7 a+D7 b≤63):TyG (G1 a b):=⟨.func ha hb,by rw [M6];omega⟩
theorem dc8 {g:List Ty} {a:Ty}:(g++[a])[(g++[a]).length - 1 - 0]? = some a:=by simp
theorem w7.v0 {Q:Ty→Prop} {g:List Ty} {a:Ty}:w7 Q (g++[a]) (u5 0) a:=.var (i:=0) sp_ dc8
theorem w7.v1 {Q:Ty→Prop} {g:List Ty} {a b:Ty}:w7 Q (g++[a]++[b]) (u5 1) a:=.var (i:=1) sp_ (by
 have e:(g++[a]++[b]).length - 1 - 1=g.length:=by simp
 rw [e,List.getElem?_append_left sp_,List.getElem?_append_right sp_];simp)
theorem w7.aY0 {g:List Ty} {b:Ty} {t:Tm} (hb:TyG (G1 r5 b)) (h:w7 TyG (g++[r5]) t b):w7 TyG g (ad6 t) (G1 r5 b):=.lam hb h
theorem tNN:TyG (G1 r5 r5):=.bo5 .nat .nat (by rw [L7];omega)
theorem cp4:TyG (G1 r5 (G1 r5 r5)):=.bo5 .nat tNN.1 (by rw [M6,L7];omega)
theorem w7.num {Q:Ty→Prop} {g:List Ty}:∀ n,w7 Q g (C5 n) r5
 | 0=>.n0 (ty:=.mk 0 []) .zero
 | n+1=>.n1 (ty:=.mk 0 []) .succ (w7.num n)
theorem w7.plus {g:List Ty}:w7 TyG g aK1 (G1 r5 (G1 r5 r5)) :=
 .aY0 cp4 (.aY0 tNN (.n3 .av8 .v1 (.aY0 cp4 (.aY0 tNN (.n1 (ty:=.mk 0 []) .succ .v0))) .v0))
theorem w7.pred {g:List Ty}:w7 TyG g aq5 (G1 r5 r5) :=
 .aY0 tNN (.n3 .av8 (.n0 (ty:=.mk 0 []) .zero) (.aY0 cp4 (.aY0 tNN .v1)) .v0)
theorem w7.sub {g:List Ty}:w7 TyG g an8 (G1 r5 (G1 r5 r5)) :=
 .aY0 cp4 (.aY0 tNN (.n3 .av8 .v1 (.aY0 cp4 (.aY0 tNN (.n2 (ty:=.mk 0 []) .app .pred .v0))) .v0))
theorem L2.ty {n:Nat} {g:List Ty} {t:Ty} {x:Tm} (h:L2 n g t x):(∀ y∈g,TyF y∧D7 y≤20)→TyF t∧D7 t≤20→w7 TyG g x t:=by
 have app:∀ {g l:List Ty},(∀ y∈g,TyF y∧D7 y≤20)→(∀ y∈l,TyF y∧D7 y≤20)→∀ y∈g++l,TyF y∧D7 y≤20:=by
  intro g l h1 h2 y hy;rcases List.mem_append.1 hy with hy|hy
  ·exact h1 y hy
  ·exact h2 y hy
 have nn:TyF r5∧D7 r5≤20:=⟨.nat,by rw [L7];omega⟩;have ll:TyF C8∧D7 C8≤20:=⟨.list,by rw [S2];omega⟩;have l1:=L7;have l2:=S2
 induction h with
 | var hi h=>exact fun _ _=>.var hi h
 | @app n g t s b x hs _ _ h1 h2 =>
  intro hg ht;have hs':TyF s∧D7 s≤20:=⟨hs.F,by have:=hs.sz0;omega⟩;exact .n2 (ty:=.mk 0 []) .app (.lam (.bo5 hs'.1 ht.1 om_) (h1 (app hg (by simp [hs'])) ht)) (h2 hg hs')
 | @fst n g t s x y hs _ _ h1 h2 =>
  intro hg ht;have hs':TyF s∧D7 s≤20:=⟨hs.F,by have:=hs.sz0;omega⟩;exact .n1 (ty:=.mk 0 []) .fst (.n2 (ty:=.mk 0 []) (.pair (.cj6 ht.1 hs'.1 om_)) (h1 hg ht) (h2 hg hs'))
 | @snd n g t s x y hs _ _ h1 h2 =>
  intro hg ht;have hs':TyF s∧D7 s≤20:=⟨hs.F,by have:=hs.sz0;omega⟩;exact .n1 (ty:=.mk 0 []) .snd (.n2 (ty:=.mk 0 []) (.pair (.cj6 hs'.1 ht.1 om_)) (h1 hg hs') (h2 hg ht))
 | @av8 n g t b f k hk _ _ h1 h2 =>
  intro hg ht;have e:g++[r5,t]=g++[r5]++[t]:=by simp
  have hf:=h1 (app hg (by simp [nn,ht])) ht;rw [e] at hf;have tt:TyG (G1 t t):=.bo5 ht.1 ht.1 om_;exact .n3 .av8 (h2 hg ht) (.lam (.bo5 .nat tt.1 (by rw [M6];omega)) (.lam tt hf)) (.num k)
 | @fold n g t b f x _ _ _ h1 h2 h3 =>
  intro hg ht;have e:g++[r5,C8,t]=g++[r5]++[C8]++[t]:=by simp
  have hf:=h1 (app hg (by simp [nn,ll,ht])) ht;rw [e] at hf;have tt:TyG (G1 t t):=.bo5 ht.1 ht.1 om_;have lt:TyG (G1 C8 (G1 t t)):=.bo5 .list tt.1 (by rw [M6];omega);exact .n3 .fold (h2 hg ht) (.lam (.bo5 .nat lt.1 (by rw [M6,M6];omega)) (.lam lt (.lam tt hf))) (h3 hg ll)
 | @fapp n g t s x i hi h _ h1 =>
  intro hg ht;have hs:=hg _ (List.mem_of_getElem? h);have hs':TyF s∧D7 s≤20:=by
   obtain ⟨h1,h2⟩:=hs;rw [M6] at h2;cases h1 with
   | func ha hb=>exact ⟨ha,om_⟩
  exact .n2 (ty:=.mk 0 []) .app (.var hi h) (h1 hg hs')
 | succ _ h1=>exact fun hg _=>.n1 (ty:=.mk 0 []) .succ (h1 hg nn)
 | plus _ _ h1 h2=>exact fun hg _=>.n2 (ty:=.mk 0 []) .app (.n2 (ty:=.mk 0 []) .app .plus (h1 hg nn)) (h2 hg nn)
 | sub _ _ h1 h2=>exact fun hg _=>.n2 (ty:=.mk 0 []) .app (.n2 (ty:=.mk 0 []) .app .sub (h1 hg nn)) (h2 hg nn)
 | num=>exact fun _ _=>.num _
 | cons _ _ h1 h2=>exact fun hg _=>.n2 (ty:=.mk 0 []) .cons (h1 hg nn) (h2 hg ll)
 | nil=>exact fun _ _=>.n0 (ty:=.mk 0 []) .nil
 | @pair n g a b x y _ _ h1 h2 =>
  intro hg ht;obtain ⟨ht,hz⟩:=ht;rw [P0] at hz;cases ht with
  | pair ha hb=>exact .n2 (ty:=.mk 0 []) (.pair (.cj6 ha hb om_)) (h1 hg ⟨ha,om_⟩) (h2 hg ⟨hb,om_⟩)
 | @lam n g a b x _ h1 =>
  intro hg ht;obtain ⟨ht,hz⟩:=ht;rw [M6] at hz;cases ht with
  | func ha hb=>exact .lam (.bo5 ha hb om_) (h1 (app hg (by simp [ha];omega)) ⟨hb,om_⟩)
 | unit=>exact fun _ _=>.n0 (ty:=.mk 0 []) .unit
theorem w7.W {g:List Ty} {t:Tm} {s:Ty} (h:w7 TyG g t s):(∀ y∈g,TyW y)→TmW t→TyW s∧TyW t.type:=by
 induction h with
 | var hi h=>exact fun hg _=>⟨hg _ (List.mem_of_getElem? h),aw5⟩
 | lam ht _ _=>exact fun _ hw=>⟨ht.1.W,hw.ty⟩
 | n0 hN=>intro hg hw;refine ⟨?_,hw.ty⟩;cases hN<;>first|exact K4|exact Z0|exact aU6
 | n1 hN _ h1 =>
  intro hg hw;have w1:=(h1 hg (hw.arg (by simp [tmT,Tm.args]))).1;refine ⟨?_,hw.ty⟩;cases hN with
  | succ=>exact K4
  | fst=>exact w1.arg (by simp [E9,Ty.args])
  | snd=>exact w1.arg (by simp [E9,Ty.args])
 | n2 hN _ _ h1 h2 =>
  intro hg hw;have w1:=(h1 hg (hw.arg (by simp [tmT,Tm.args]))).1;have w2:=(h2 hg (hw.arg (by simp [tmT,Tm.args]))).1;refine ⟨?_,hw.ty⟩;cases hN with
  | app=>exact w1.arg (by simp [G1,Ty.args])
  | cons=>exact Z0
  | pair hp=>exact hp.1.W
 | n3 hN _ _ _ h1 h2 h3 =>
  intro hg hw;have w1:=(h1 hg (hw.arg (by simp [tmT,Tm.args]))).1;refine ⟨?_,hw.ty⟩;cases hN with
  | av8=>exact w1
  | fold=>exact w1
theorem bS4 {i:Int} (hl:(u5 i).least 1000000000=true):i≤1000000000:=by
 rw [u5,Tm.least,Bool.and_eq_true] at hl;exact of_decide_eq_true hl.1
mutual
def Tm.rb (G:Int→Int→Tm):Tm→Int→Tm
 | .mk k i t l,b=>if k==1 then G i b else .mk k i t (Tm.rbL G l (if k==2 then x4 b 1 else b))
def Tm.rbL (G:Int→Int→Tm):List Tm→Int→List Tm
 | [],_=>[]
 | t::l,b=>t.rb G b::Tm.rbL G l b
end
theorem Tm.au4 {G:Int→Int→Tm}:∀ (l:List Tm) (b:Int),Tm.rbL G l b=l.map fun t=>t.rb G b
 | [],b=>by simp [Tm.rbL]
 | t::l,b=>by simp [Tm.rbL,Tm.au4 l b]
theorem Tm.cJ4 (G:Int→Int→Tm) (t:Tm) (b:Int):t.rb G b=if t.kind==1 then G t.index b else .mk t.kind t.index t.type (t.args.map fun x=>x.rb G (if t.kind==2 then x4 b 1 else b)):=by
 cases t;rw [Tm.rb,Tm.au4];rfl
def aP7 (fr b i below:Int):Tm:=u5 (if decide (ab8 i below≥fr) then x4 i b else i)
def bs1 (t:Tm) (fr b:Int):Tm:=t.rb (aP7 fr b) 0
def aE6 (a:Int) (s:Tm) (i below:Int):Tm :=
 if ab8 i below==a then bs1 s 0 (x4 a below) else if decide (ab8 i below>a) then u5 (ab8 i 1) else u5 i
def Q5 (t:Tm) (a:Int) (s:Tm):Tm:=t.rb (aE6 a s) 0
theorem TmG.cM3 {b:Int} (hb0:0≤b) (hb:b≤1000000) {fr:Int} (hf0:0≤fr) (hf:fr≤100000):∀ (n:Nat) {t:Tm},TmG t→m7 t≤n→t.least 1000000000=true→∀ d:Int,0≤d→d+n≤100000 →
  t.rb (aP7 fr b) d=t.up b (fr+d)
 | 0,t,h,hn,_,_,_,_=>by have:=Q3 t;omega
 | n+1,t,h,hn,hl,d,h0,hd=>by
  revert hn hl
  refine h.aj9 (p:=fun t=>m7 t≤n+1→t.least 1000000000=true→t.rb (aP7 fr b) d=t.up b (fr+d)) ?_ ?_
  ·intro i hi _ hl
   have hi2:=bS4 hl;rw [u5,Tm.rb,Tm.up,Tm.upL];simp only [beq_self_eq_true,if_true,Bool.true_and,aP7];rw [ai8 om_ om_ om_ om_];have e:decide (i - d≥fr)=decide (i≥fr+d):=by
    by_cases h:i≥fr+d
    ·rw [decide_eq_true h,decide_eq_true om_]
    ·rw [decide_eq_false h,decide_eq_false om_]
   rw [e];rfl
  ·intro k ty l hk _ hg _ hn hl
   rw [m7] at hn;rw [Tm.least,Bool.and_eq_true] at hl;have hr:=H9 k;have e:x4 (fr+d) (r6 k)=fr+(d+r6 k):=by rw [C9 om_ om_ om_ om_];omega
   rw [Tm.rb,Tm.au4,Tm.up,Tm.T4,hk,e,aB6 h0 om_];simp only [Bool.false_and,Bool.false_eq_true,if_false];congr 1;refine List.map_congr_left fun y hy=>?_;exact TmG.cM3 hb0 hb hf0 hf n (hg y hy) (by have:=I3 hy;omega) (Tm.F6.1 hl.2 y hy) _ om_ om_
theorem ck3 {t:Tm} {fr b:Int} (h:TmG t) (hs:m7 t≤5000) (hl:t.least 536870912=true) (hb0:0≤b) (hb:b≤1000000) (hf0:0≤fr) (hf:fr≤100000):bs1 t fr b=t.up b fr:=by
 have:=TmG.cM3 hb0 hb hf0 hf _ h (Nat.le_refl _) (O8 om_ _ hl) 0 om_ om_;rw [Int.add_zero] at this;exact this
mutual
theorem bi4 {M:Int} (hM:M≤536870912):∀ (t:Tm) (b:Int) (s:Bool),t.least M=true→t.Y7 aR2 b s=s
 | .mk k i ty l,b,s,h=>by
  rw [Tm.least,Bool.and_eq_true] at h;have hi:=of_decide_eq_true h.1;rw [Tm.Y7,ba8 hM l _ _ h.2];split
  ·unfold aR2;rw [decide_eq_true om_];simp
  ·rfl
theorem ba8 {M:Int} (hM:M≤536870912):∀ (l:List Tm) (b:Int) (s:Bool),Tm.J1 M l=true→Tm.ag5 aR2 l b s=s
 | [],b,s,_=>by rw [Tm.ag5]
 | t::l,b,s,h=>by
  rw [Tm.J1,Bool.and_eq_true] at h;rw [Tm.ag5,bi4 hM t b s h.1,ba8 hM l b s h.2]
end
theorem bN1 {t:Tm} (h:t.least 536870912=true):t.cU2=true:=bi4 om_ t 0 true h
inductive ak3 (Q:Ty→Prop):List Ty→Fm→Prop
 | eq {g:List Ty} {x y:Tm}:w7 Q g x r5→w7 Q g y r5→ak3 Q g (M3 x y)
 | two {g:List Ty} {k:Int} {a b:Fm} (hk:k=2∨k=3):ak3 Q g a→ak3 Q g b→ak3 Q g (E8 k a b)
 | q {g:List Ty} {k:Int} {s:Ty} {a:Fm} (hk:k=4∨k=5∨k=6∨k=7):ak3 Q (g++[s]) a→ak3 Q g (fmQ k s a)
theorem w7.up1 {s:Ty} {g':List Ty} {t:Tm} {ty:Ty} (h:w7 TyG g' t ty):∀ g l:List Ty,g'=g++l→l.length+m7 t≤100000→g.length≤100000→w7 TyG (g++[s]++l) (t.up 1 (l.length:Int)) ty:=by
 induction h with
 | @var g' i t hi h =>
  intro g l e hb hg;subst e;rw [u5,Tm.up,Tm.upL];simp only [beq_self_eq_true,Bool.true_and];simp only [List.length_append] at hi h;by_cases hc:(i:Int)≥(l.length:Int)
  ·rw [decide_eq_true hc]
   simp only [if_true];have e:x4 (i:Int) 1=((i+1:Nat):Int):=by rw [C9 om_ om_ om_ om_];simp
   rw [e];refine w7.var (i:=i+1) (by simp only [List.length_append,List.length_cons,List.length_nil];omega) ?_;have e1:(g++[s]++l).length - 1 - (i+1)=g.length+l.length - 1 - i:=by simp only [List.length_append,List.length_cons,List.length_nil];omega
   rw [e1,List.append_assoc,List.getElem?_append_left om_,← h,List.getElem?_append_left om_]
  ·rw [decide_eq_false hc]
   simp only [Bool.false_eq_true,if_false];refine w7.var (i:=i) (by simp only [List.length_append,List.length_cons,List.length_nil];omega) ?_;have e1:(g++[s]++l).length - 1 - i=(g++[s]).length+(l.length - 1 - i):=by simp only [List.length_append,List.length_cons,List.length_nil];omega
   have e2:g.length+l.length - 1 - i=g.length+(l.length - 1 - i):=by omega
   rw [e1,List.getElem?_append_right om_,Nat.add_sub_cancel_left,← h,e2,List.getElem?_append_right om_,Nat.add_sub_cancel_left]
 | @lam g' a b t hG _ ih =>
  intro g l e hb hg;subst e;rw [P9] at hb;rw [tmT,Tm.up,Tm.T4];have e1:x4 (l.length:Int) (r6 2)=((l++[a]).length:Int):=by
   have:r6 2=1:=rfl;rw [this,C9 om_ om_ om_ om_];simp
  rw [e1];have:=ih g (l++[a]) sp_ (by simp;omega) hg;refine w7.lam hG ?_;rw [List.append_assoc];exact this
 | @n0 g' k ty s' hN =>
  intro g l e hb hg;have hk:(k==1)=false:=by cases hN<;>rfl
  rw [tmT,Tm.up,Tm.T4,hk];exact .n0 hN
 | @n1 g' k ty s' a x hN _ ih =>
  intro g l e hb hg;have hk:(k==1)=false:=by cases hN<;>rfl
  have hk2:r6 k=0:=by cases hN<;>rfl
  rw [P9] at hb;rw [tmT,Tm.up,Tm.T4,hk,hk2,J7 om_ om_];exact .n1 hN (ih g l e om_ hg)
 | @n2 g' k ty s' a b x y hN _ _ ih1 ih2 =>
  intro g l e hb hg;have hk:(k==1)=false:=by cases hN<;>rfl
  have hk2:r6 k=0:=by cases hN<;>rfl
  have z:m7 (tmT k ty [x,y])=m7 x+m7 y+1:=by simp [tmT,m7,F8]
  rw [tmT,Tm.up,Tm.T4,hk,hk2,J7 om_ om_];exact .n2 hN (ih1 g l e om_ hg) (ih2 g l e om_ hg)
 | @n3 g' k ty s' a b c x y z hN _ _ _ ih1 ih2 ih3 =>
  intro g l e hb hg;have hk:(k==1)=false:=by cases hN<;>rfl
  have hk2:r6 k=0:=by cases hN<;>rfl
  rw [ai6] at hb;rw [tmT,Tm.up,Tm.T4,hk,hk2,J7 om_ om_];exact .n3 hN (ih1 g l e om_ hg) (ih2 g l e om_ hg) (ih3 g l e om_ hg)
theorem w7.up0 {s:Ty} {g:List Ty} {t:Tm} {ty:Ty} (h:w7 TyG g t ty) (hb:m7 t≤10000) (hg:g.length≤10000):w7 TyG (g++[s]) (t.up 1 0) ty:=by
 have:=h.up1 (s:=s) g [] sp_ (by simp;omega) om_;simpa using this
theorem cA2 {g:List Ty} {x:Tm} (h:w7 TyG (g++[r5]) x r5):ak3 TyG (g++[r5]) (J3 (u5 0) x) :=
 .eq (.n2 (ty:=.mk 0 []) .app (.n2 (ty:=.mk 0 []) .app .sub (.n1 (ty:=.mk 0 []) .succ .v0)) h) (.n0 (ty:=.mk 0 []) .zero)
theorem cE1 {g:List Ty} {all:Bool} {x:Tm} {f:Fm} (hx:w7 TyG (g++[r5]) x r5) (hf:ak3 TyG (g++[r5]) f):ak3 TyG g (J0 all x f) :=
 .q (by cases all<;>simp) (.two (by cases all<;>simp) (cA2 hx) hf)
theorem cS4 {g:List Ty} (hg:∀ y∈g,V9 1 y):∀ y∈g,TyF y∧D7 y≤20:=fun y hy=>⟨(hg y hy).F,by have:=(hg y hy).sz1;omega⟩
theorem cl0:TyF r5∧D7 r5≤20:=⟨.nat,by rw [L7];omega⟩
theorem w7.upl {Q:Ty→Prop} {m g':List Ty} {t:Tm} {ty:Ty} (h:w7 Q g' t ty):∀ g l:List Ty,g'=g++l→l.length+m7 t≤100000→g.length≤100000→m.length≤100000→w7 Q (g++m++l) (t.up (m.length:Int) (l.length:Int)) ty:=by
 induction h with
 | @var g' i t hi h =>
  intro g l e hb hg hm;subst e;rw [u5,Tm.up,Tm.upL];simp only [beq_self_eq_true,Bool.true_and];simp only [List.length_append] at hi h;by_cases hc:(i:Int)≥(l.length:Int)
  ·rw [decide_eq_true hc]
   simp only [if_true];have e:x4 (i:Int) (m.length:Int)=((i+m.length:Nat):Int):=by rw [C9 om_ om_ om_ om_];simp
   rw [e];refine w7.var (i:=i+m.length) (by simp only [List.length_append];omega) ?_;have e1:(g++m++l).length - 1 - (i+m.length)=g.length+l.length - 1 - i:=by simp only [List.length_append];omega
   rw [e1,List.append_assoc,List.getElem?_append_left om_,← h,List.getElem?_append_left om_]
  ·rw [decide_eq_false hc]
   simp only [Bool.false_eq_true,if_false];refine w7.var (i:=i) (by simp only [List.length_append];omega) ?_;have e1:(g++m++l).length - 1 - i=(g++m).length+(l.length - 1 - i):=by simp only [List.length_append];omega
   have e2:g.length+l.length - 1 - i=g.length+(l.length - 1 - i):=by omega
   rw [e1,List.getElem?_append_right om_,Nat.add_sub_cancel_left,← h,e2,List.getElem?_append_right om_,Nat.add_sub_cancel_left]
 | @lam g' a b t hG _ ih =>
  intro g l e hb hg hm;subst e;rw [P9] at hb;rw [tmT,Tm.up,Tm.T4];have e1:x4 (l.length:Int) (r6 2)=((l++[a]).length:Int):=by
   have:r6 2=1:=rfl;rw [this,C9 om_ om_ om_ om_];simp
  rw [e1];have:=ih g (l++[a]) sp_ (by simp;omega) hg hm;refine w7.lam hG ?_;rw [List.append_assoc];exact this
 | @n0 g' k ty s' hN =>
  intro g l e hb hg hm;have hk:(k==1)=false:=by cases hN<;>rfl
  rw [tmT,Tm.up,Tm.T4,hk];exact .n0 hN
 | @n1 g' k ty s' a x hN _ ih =>
  intro g l e hb hg hm;have hk:(k==1)=false:=by cases hN<;>rfl
  have hk2:r6 k=0:=by cases hN<;>rfl
  rw [P9] at hb;rw [tmT,Tm.up,Tm.T4,hk,hk2,J7 om_ om_];exact .n1 hN (ih g l e om_ hg hm)
 | @n2 g' k ty s' a b x y hN _ _ ih1 ih2 =>
  intro g l e hb hg hm;have hk:(k==1)=false:=by cases hN<;>rfl
  have hk2:r6 k=0:=by cases hN<;>rfl
  have z:m7 (tmT k ty [x,y])=m7 x+m7 y+1:=by simp [tmT,m7,F8]
  rw [tmT,Tm.up,Tm.T4,hk,hk2,J7 om_ om_];exact .n2 hN (ih1 g l e om_ hg hm) (ih2 g l e om_ hg hm)
 | @n3 g' k ty s' a b c x y z hN _ _ _ ih1 ih2 ih3 =>
  intro g l e hb hg hm;have hk:(k==1)=false:=by cases hN<;>rfl
  have hk2:r6 k=0:=by cases hN<;>rfl
  rw [ai6] at hb;rw [tmT,Tm.up,Tm.T4,hk,hk2,J7 om_ om_];exact .n3 hN (ih1 g l e om_ hg hm) (ih2 g l e om_ hg hm) (ih3 g l e om_ hg hm)
theorem w7.inn {Q:Ty→Prop} {a:Ty} {x:Tm} {g':List Ty} {t:Tm} {ty:Ty} (h:w7 Q g' t ty):∀ g l:List Ty,g'=g++[a]++l→w7 Q g x a→l.length+m7 t≤50000→g.length+m7 x≤50000→w7 Q (g++l) (F0 x 0 t (l.length:Int)) ty:=by
 induction h with
 | @var g' i t hi h =>
  intro g l e hx hb hg;subst e;have e0:x4 0 (l.length:Int)=(l.length:Int):=aZ1 om_ om_;rw [u5,F0,e0];simp only [beq_self_eq_true,if_true];simp only [List.length_append,List.length_cons,List.length_nil] at hi h;rcases Nat.lt_trichotomy i l.length with hc|hc|hc
  ·have c1:((i:Int)==(l.length:Int))=false:=by simp;omega
   have c2:decide ((i:Int)>(l.length:Int))=false:=by simp;omega
   rw [c1,c2];simp only [Bool.false_eq_true,if_false];refine w7.var (i:=i) (by simp only [List.length_append];omega) ?_;have e1:(g++l).length - 1 - i=g.length+(l.length - 1 - i):=by simp only [List.length_append];omega
   have e2:g.length+(0+1)+l.length - 1 - i=(g++[a]).length+(l.length - 1 - i):=by simp only [List.length_append,List.length_cons,List.length_nil];omega
   rw [e1,List.getElem?_append_right om_,Nat.add_sub_cancel_left,← h,e2,List.getElem?_append_right om_,Nat.add_sub_cancel_left]
  ·subst hc
   simp only [beq_self_eq_true,if_true];have e2:g.length+(0+1)+l.length - 1 - l.length=g.length:=by omega
   rw [e2,List.append_assoc,List.getElem?_append_right om_,Nat.sub_self] at h;simp only [List.cons_append,List.getElem?_cons_zero,Option.some.injEq] at h;subst h;have:=hx.upl (m:=l) g [] sp_ (by simp;omega) om_ om_;simpa using this
  ·have c1:((i:Int)==(l.length:Int))=false:=by simp;omega
   have c2:decide ((i:Int)>(l.length:Int))=true:=by simp;omega
   have e3:ab8 (i:Int) 1=((i - 1:Nat):Int):=by rw [ai8 om_ om_ om_ om_];omega
   rw [c1,c2,e3];simp only [Bool.false_eq_true,if_false,if_true];refine w7.var (i:=i - 1) (by simp only [List.length_append];omega) ?_;have e1:(g++l).length - 1 - (i - 1)=g.length+l.length - i:=by simp only [List.length_append];omega
   have e2:g.length+(0+1)+l.length - 1 - i=g.length+l.length - i:=by omega
   rw [e1,List.getElem?_append_left om_,← h,e2,List.append_assoc,List.getElem?_append_left om_]
 | @lam g' b c t hG _ ih =>
  intro g l e hx hb hg;subst e;rw [P9] at hb;rw [tmT,F0,O9];have e1:x4 (l.length:Int) (r6 2)=((l++[b]).length:Int):=by
   have:r6 2=1:=rfl;rw [this,C9 om_ om_ om_ om_];simp
  rw [e1];have:=ih g (l++[b]) sp_ hx (by simp;omega) hg;refine w7.lam hG ?_;rw [List.append_assoc];exact this
 | @n0 g' k ty s' hN =>
  intro g l e hx hb hg;have hk:(k==1)=false:=by cases hN<;>rfl
  rw [tmT,F0,O9,hk];exact .n0 hN
 | @n1 g' k ty s' b y hN _ ih =>
  intro g l e hx hb hg;have hk:(k==1)=false:=by cases hN<;>rfl
  have hk2:r6 k=0:=by cases hN<;>rfl
  rw [P9] at hb;rw [tmT,F0,O9,hk,hk2,J7 om_ om_];exact .n1 hN (ih g l e hx om_ hg)
 | @n2 g' k ty s' b c y z hN _ _ ih1 ih2 =>
  intro g l e hx hb hg;have hk:(k==1)=false:=by cases hN<;>rfl
  have hk2:r6 k=0:=by cases hN<;>rfl
  have zz:m7 (tmT k ty [y,z])=m7 y+m7 z+1:=by simp [tmT,m7,F8]
  rw [tmT,F0,O9,hk,hk2,J7 om_ om_];exact .n2 hN (ih1 g l e hx om_ hg) (ih2 g l e hx om_ hg)
 | @n3 g' k ty s' b c d y z w hN _ _ _ ih1 ih2 ih3 =>
  intro g l e hx hb hg;have hk:(k==1)=false:=by cases hN<;>rfl
  have hk2:r6 k=0:=by cases hN<;>rfl
  rw [ai6] at hb;rw [tmT,F0,O9,hk,hk2,J7 om_ om_];exact .n3 hN (ih1 g l e hx om_ hg) (ih2 g l e hx om_ hg) (ih3 g l e hx om_ hg)
theorem cG4 {k:Int} {t:Ty} {a b:Tm}:m7 (tmT k t [a,b])=m7 a+m7 b+1:=by simp [tmT,m7,F8]
mutual
def cl9:Tm→Int→Bool
 | .mk k i _ l,n=>if k==1 then decide (i<n)&&l.isEmpty else bS6 l (n+r6 k)
def bS6:List Tm→Int→Bool
 | [],_=>true
 | t::l,n=>cl9 t n&&bS6 l n
end
theorem be7:∀ {l:List Tm} {n:Int},bS6 l n=true→∀ x∈l,cl9 x n=true
 | t::l,n,h,x,hx=>by
  rw [bS6,Bool.and_eq_true] at h;rcases List.mem_cons.1 hx with rfl|hx
  ·exact h.1
  ·exact be7 h.2 x hx
theorem map_id {g:Tm→Tm}:∀ {l:List Tm},(∀ x∈l,g x=x)→l.map g=l
 | [],_=>rfl
 | t::l,h=>by rw [List.map_cons,h t sp_,map_id (fun x hx=>h x (by simp [hx]))]
theorem cv6 {s:Tm}:∀ (n:Nat) (t:Tm),m7 t≤n→∀ m d:Int,cl9 t m=true→m≤d→0≤d→d+n≤1000000→F0 s 0 t d=t
 | 0,t,hn,_,_,_,_,_,_=>by have:=Q3 t;omega
 | n+1,.mk k i ty l,hn,m,d,hc,hm,h0,hb=>by
  rw [m7] at hn;have hr:=H9 k;have e:x4 d (r6 k)=d+r6 k:=C9 om_ om_ om_ om_;have e0:x4 0 d=d:=by rw [C9 om_ om_ om_ om_];omega
  rw [cl9] at hc;rw [F0,O9,e,e0];cases hk:(k==1) with
  | true =>
   rw [hk] at hc;simp only [if_true,Bool.and_eq_true,decide_eq_true_eq,List.isEmpty_iff] at hc;obtain ⟨hc,rfl⟩:=hc;have e2:(i==d)=false:=by simp;omega
   have e3:decide (i>d)=false:=by simp;omega
   rw [e2,e3];simp only [Bool.false_eq_true,if_false,if_true]
  | false =>
   rw [hk] at hc;simp only [Bool.false_eq_true,if_false] at hc;simp only [Bool.false_eq_true,if_false];rw [map_id (fun x hx=>cv6 n x (by have:=I3 hx;omega) (m+r6 k) _ (be7 hc x hx) om_ om_ om_)]
theorem bS7 {g:Tm→Tm} {x y:Int}:∀ {l:List Tm},(∀ t∈l,E2 (g t) x=E2 t y)→J8 (l.map g) x=J8 l y
 | [],_=>rfl
 | t::l,h=>by rw [List.map_cons,J8,J8,h t sp_,bS7 (fun z hz=>h z (by simp [hz]))]
theorem cK4 {i:Int} (hl:(u5 i).least 1000000000=true):i≤1000000000:=by
 rw [u5,Tm.least,Bool.and_eq_true] at hl;exact of_decide_eq_true hl.1
theorem TmG.aW2 {b:Int} (hb0:0≤b) (hb1:b≤1000000):∀ (k:Nat) {t:Tm},TmG t→m7 t≤k→t.least 1000000000=true→∀ fr x:Int,0≤fr→fr≤x→x<fr+b→fr+k≤1000000→E2 (t.up b fr) x=0
 | 0,t,h,hn,_,_,_,_,_,_,_=>by have:=Q3 t;omega
 | k+1,t,h,hn,hl,fr,x,h0,hx,hxf,hb=>by
  revert hn hl
  refine h.aj9 (p:=fun t=>m7 t≤k+1→t.least 1000000000=true→E2 (t.up b fr) x=0) ?_ ?_
  ·intro i hi _ hl
   have hi2:=cK4 hl;rw [u5,Tm.up,Tm.upL,E2];simp only [beq_self_eq_true,Bool.true_and,if_true];by_cases h:i≥fr
   ·rw [decide_eq_true h,C9 om_ om_ om_ om_]
    have e1:(i+b==x)=false:=by simp;omega
    simp [e1]
   ·rw [decide_eq_false h]
    have e1:(i==x)=false:=by simp;omega
    simp [e1]
  ·intro kk ty l hk _ hg _ hn hl
   rw [m7] at hn;rw [Tm.least,Bool.and_eq_true] at hl;have hr:=H9 kk;have e:x4 fr (r6 kk)=fr+r6 kk:=C9 om_ om_ om_ om_;rw [Tm.up,Tm.T4,E2,hk,e];simp only [Bool.false_and,Bool.false_eq_true,if_false];refine aA0 ?_;intro z hz;obtain ⟨y,hy,rfl⟩:=List.mem_map.1 hz;exact TmG.aW2 hb0 hb1 k (hg y hy) (by have:=I3 hy;omega) (Tm.F6.1 hl.2 y hy) _ _ om_ om_ om_ om_
theorem TmG.bq0 {s:Tm} (hs:TmG s) (hss:m7 s≤10000) (hsl:s.least 1000000000=true):∀ (k:Nat) {t:Tm},TmG t→m7 t≤k→t.least 1000000000=true→∀ d x:Int,0≤x→x<d→d+k≤500000→E2 (F0 s 0 t d) x=E2 t x
 | 0,t,h,hn,_,_,_,_,_,_=>by have:=Q3 t;omega
 | k + 1,t,h,hn,hl,d,x,hx,hxf,hb=>by
  revert hn hl
  have e0:x4 0 d=d:=by rw [C9 om_ om_ om_ om_];omega
  refine h.aj9 (p:=fun t=>m7 t≤k+1→t.least 1000000000=true→E2 (F0 s 0 t d) x=E2 t x) ?_ ?_
  ·intro i hi _ hl
   have hi2:=cK4 hl;rw [u5,F0,E2,e0];simp only [beq_self_eq_true,if_true];by_cases h1:i=d
   ·have e1:(i==d)=true:=by simpa using h1
    have e2:(i==x)=false:=by simp;omega
    rw [e1,e2];simp only [if_true,Bool.false_eq_true,if_false];exact TmG.aW2 om_ om_ _ hs (Nat.le_refl _) hsl 0 x om_ hx om_ om_
   ·have e1:(i==d)=false:=by simpa using h1
    rw [e1];simp only [Bool.false_eq_true,if_false];by_cases h2:i>d
    ·have e2:(i==x)=false:=by simp;omega
     have e3:(i - 1==x)=false:=by simp;omega
     rw [decide_eq_true h2,e2,ai8 om_ om_ om_ om_];simp [u5,E2,e3]
    ·rw [decide_eq_false h2]
     simp [E2]
  ·intro kk ty l hk _ hg _ hn hl
   rw [m7] at hn;rw [Tm.least,Bool.and_eq_true] at hl;have hr:=H9 kk;have e:x4 d (r6 kk)=d+r6 kk:=C9 om_ om_ om_ om_;rw [F0,O9,E2,hk,e];simp only [Bool.false_eq_true,if_false,E2,hk];exact bS7 fun y hy=>TmG.bq0 hs hss hsl k (hg y hy) (by have:=I3 hy;omega) (Tm.F6.1 hl.2 y hy) _ _ om_ om_ om_
theorem TmG.arg {t x:Tm} (h:TmG t) (hx:x∈t.args):TmG x:=by
 cases h with
 | plain _ _ _ h=>exact h x hx
 | var=>simp [u5,Tm.args] at hx
 | typd _ _ _ _ h=>exact h x hx
theorem ad2 {M:Int} {f x:Fm} (h:f.least M=true) (hx:x∈f.args):x.least M=true:=by
 rw [Fm.R2,Bool.and_eq_true] at h;exact Fm.F6.1 h.2 x hx
theorem aS7 {M:Int} {f:Fm} {x:Tm} (h:f.least M=true) (hx:x∈f.r8):x.least M=true:=by
 rw [Fm.R2,Bool.and_eq_true] at h;exact Tm.F6.1 h.1 x hx
theorem cA0:cl9 (tm0 3 [an8,tm0 5 [u5 0]]) 1=true:=by decide
theorem cB5:m7 (tm0 3 [an8,tm0 5 [u5 0]])=19:=by rw [Q4,aK7,av6,ao7]
theorem bU3 {s:Tm} {k d:Int} {l:List Tm} (hk:(k==1)=false):F0 s 0 (tm0 k l) d=tm0 k (l.map fun x=>F0 s 0 x (x4 d (r6 k))):=by
 rw [tm0,F0,O9,hk];rfl
theorem ch1 {x y:Tm} {a:Int}:L9 (M3 x y) a=E2 x a+E2 y a:=by simp [M3,L9,J8,ae5]
theorem bW5 {k:Int} {x y:Fm} {a:Int} (hk:k=2∨k=3):L9 (E8 k x y) a=L9 x a+L9 y a:=by
 rcases hk with rfl|rfl<;>simp [E8,L9,J8,ae5,D9,Z3]
theorem cH9 {k:Int} {t:Ty} {x:Fm} {a:Int} (hk:k=4∨k=5∨k=6∨k=7):L9 (fmQ k t x) a=L9 x (a+1):=by
 rcases hk with rfl|rfl|rfl|rfl<;>simp [fmQ,L9,J8,ae5,D9,Z3]
theorem cd6 {M:Int} {x y:Tm} (h1:x.least M=true) (h2:y.least M=true):(M3 x y).least M=true:=by
 rw [Fm.R2];simp only [M3,Fm.r8,Fm.args,Tm.L6,Tm.F7,Fm.F7,h1,h2,Bool.and_self]
theorem cc9 {M k:Int} {x y:Fm} (h1:x.least M=true) (h2:y.least M=true):(E8 k x y).least M=true:=by
 rw [Fm.R2];simp only [E8,Fm.r8,Fm.args,Fm.L6,Tm.F7,Fm.F7,h1,h2,Bool.and_self]
theorem bU0 {M k:Int} {t:Ty} {x:Fm} (h1:x.least M=true):(fmQ k t x).least M=true:=by
 rw [Fm.R2];simp only [fmQ,Fm.r8,Fm.args,Fm.L6,Tm.F7,Fm.F7,h1,Bool.and_self]
end GoAbs
