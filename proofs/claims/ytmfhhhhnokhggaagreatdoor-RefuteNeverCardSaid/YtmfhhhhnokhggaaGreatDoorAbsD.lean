/-
 The abstract layer: plain laws.
-/
import Derived.Test.YtmfhhhhnokhggaaGreatDoorAbsC
set_option linter.unusedSimpArgs false
set_option linter.unusedVariables false
set_option linter.unusedSectionVars false
namespace GoAbs
open Go
inductive Res where
 | mk (num:Nat) (list:List Nat) (pair:List Res) (body:Tm) (env:List Res)
def Res.num:Res->Nat | .mk n _ _ _ _=>n
def Res.list:Res->List Nat | .mk _ l _ _ _=>l
def df9 (l:List Nat):List (List V):=ints (l.map fun (n:Nat)=>(n:Int))
def Res.pair:Res->List Res | .mk _ _ p _ _=>p
def Res.body:Res->Tm | .mk _ _ _ b _=>b
def Res.env:Res->List Res | .mk _ _ _ _ e=>e
theorem Res.ind {p:Res->Prop} (h:∀ t,(∀ x∈t.pair,p x)->(∀ x∈t.env,p x)->p t):∀ t,p t:=by
 intro t;refine Res.rec (motive_1:=p) (motive_2:=fun l=>∀ x∈l,p x) (fun n l pr b e i1 i2=>h _ i1 i2) b_ (fun a l ha hl x hx=>?_) t
 grind
mutual
def Res.cells:Res->List V
 | .mk n l p b e=>[.int .i64 n,.sl .any (df9 l),.sl .any (Res.rows p),.int .i64 b.kind,.int .i64 b.index,.int .i64 b.type.kind,.sl .any (b.type.args.map Ty.cells),.sl .any (b.args.map Tm.cells),.sl .any (Res.rows e)]
def Res.rows:List Res->List (List V)
 | []=>[]
 | r::l=>r.cells::Res.rows l
end
theorem Res.X9:∀ l,Res.rows l=l.map Res.cells
 | []=>by simp [Res.rows]
 | t::l=>by simp [Res.rows,Res.X9 l]
theorem Res.l4 (t:Res):t.cells=[.int .i64 t.num,.sl .any (df9 t.list),.sl .any (t.pair.map Res.cells),.int .i64 t.body.kind,.int .i64 t.body.index,.int .i64 t.body.type.kind,
  .sl .any (t.body.type.args.map Ty.cells),.sl .any (t.body.args.map Tm.cells),.sl .any (t.env.map Res.cells)]:=by
 cases t;simp [Res.cells,Res.X9,Res.num,Res.list,Res.pair,Res.body,Res.env]
section
variable (t:Res)
theorem Res.w9:t.cells.length=9:=by rw [Res.l4];rfl
theorem Res.al8:t.cells[0]? = some (.int .i64 t.num):=by rw [Res.l4];rfl
theorem Res.al9:t.cells[1]? = some (.sl .any (df9 t.list)):=by rw [Res.l4];rfl
theorem Res.av9:t.cells[2]? = some (.sl .any (t.pair.map Res.cells)):=by rw [Res.l4];rfl
theorem Res.dt1:t.cells[8]? = some (.sl .any (t.env.map Res.cells)):=by rw [Res.l4];rfl
theorem Res.Q5:List.take 9 t.cells=t.cells:=ak6 (by grind [Res.w9])
theorem Res.cn4:List.take 5 (List.drop 3 t.cells)=t.body.cells:=by rw [Res.l4,Tm.l4];rfl
theorem Res.N4:t.cells.all am9=true:=by rw [Res.l4];rfl
end
theorem cu8 {cs:List V} {t:Res} (h:cs.length=9):G8 cs 0 t.cells=t.cells:=P4 (by rw [h,Res.w9])
theorem bM4:∀ t:Res,B1 t.cells=t.cells:=by
 intro t
 induction t using Res.ind with
 | h t i1 i2 =>
  rw [Res.l4];have e1:A7 (t.pair.map Res.cells)=t.pair.map Res.cells:=by
   rw [J0,aR3];exact aG2 fun x hx=>i1 x hx
  have e2:A7 (t.env.map Res.cells)=t.env.map Res.cells:=by
   rw [J0,aR3];exact aG2 fun x hx=>i2 x hx
  simp only [B1,J5,df9,aa6,F4,ax5,e1,e2]
theorem cv9 (l:List Res):A7 (l.map Res.cells)=l.map Res.cells:=by
 rw [J0,aR3];exact aG2 fun x _=>bM4 x
section
variable {S:Id->Prop}
theorem cx8:∀ t:Res,InL S t.cells:=by
 intro t
 induction t using Res.ind with
 | h t i1 i2 =>
  rw [Res.l4];have e1:S8 S (t.pair.map Res.cells):=by
   rw [R5];intro l hl;obtain ⟨x,hx,rfl⟩:=G5.1 hl;exact i1 x hx
  have e2:S8 S (t.env.map Res.cells):=by
   rw [R5];intro l hl;obtain ⟨x,hx,rfl⟩:=G5.1 hl;exact i2 x hx
  simp only [InL,InV,ae0,ag2,ag3,df9,aD5,ai5,aH0,e1,e2]
theorem cS3 (l:List Res):S8 S (l.map Res.cells):=by
 rw [R5];intro x hx;obtain ⟨y,_,rfl⟩:=G5.1 hx;exact cx8 y
end
theorem bX2 (l:List Res):(l.map Res.cells).all (fun e=>e.length==9)=true:=by simp [Res.w9]
theorem bX4 (l:List Res):(l.map Res.cells).flatten.all am9=true:=by
 rw [ad2];intro v hv;obtain ⟨c,hc,hv⟩:=bj4.1 hv;obtain ⟨x,_,rfl⟩:=G5.1 hc;exact ad2.1 (Res.N4 x) v hv
theorem cw0 (a b:List (List V)):A7 (a++b)=A7 a++A7 b:=by simp [J0]
def mc (u most:Nat) (o:Bool):List V:=[.int .i64 u,.int .i64 most,.bool o]
variable {u most:Nat} {o:Bool}
@[go_sem] theorem ej6 {S:Id->Prop} (u most:Nat) (o:Bool):InL S (mc u most o)=True:=by simp [mc,InL,InV]
theorem dN7:(mc u most o).length=3:=rfl
theorem eh8:(mc u most o)[0]? = some (.int .i64 u):=rfl
theorem eh9:(mc u most o)[1]? = some (.int .i64 most):=rfl
theorem ei0:(mc u most o)[2]? = some (.bool o):=rfl
theorem dZ8 {u':Nat}:G8 (mc u most o) 0 [.int .i64 u']=mc u' most o:=rfl
theorem dZ9 {o':Bool}:G8 (mc u most o) 2 [.bool o']=mc u most o':=rfl
attribute [go_sem] cx8 cS3 dN7 eh8 eh9 ei0 dZ8 dZ9
attribute [go_sem] Res.w9 Res.al8 Res.al9 Res.av9 Res.dt1 Res.Q5 Res.cn4 Res.N4 cu8 bM4 cv9 bX2 bX4
theorem Ty.ai3 (k:Int) (l:List Ty):(Ty.mk k l).nodes=match au8 k with|none=>none|some w=>if (l.length:Int)==w then Ty.A2 1 l else none:=by rfl
theorem Tm.ai3 (k i:Int) (t:Ty) (l:List Tm):(Tm.mk k i t l).nodes=if L5 k i t l.length then Tm.A2 1 l else none:=by rw [Tm.nodes]
theorem Fm.ai3 (k:Int) (t:Ty) (l:List Tm) (a:List Fm) :
  (Fm.mk k t l a).nodes=if formed k t l.length a.length then (match Tm.A2 1 l with|none=>none|some n=>Fm.A2 n a) else none:=by rfl
variable {k i:Int} {t:Ty} {l:List Tm}
theorem Tm.az5 (h:L5 k i t l.length=true) (hn:Tm.A2 1 l≠none):(Tm.mk k i t l).nodes≠none:=by
 grind [Tm.ai3]
theorem Fm.az5 {a:List Fm} {n:Int} (h:formed k t l.length a.length=true) (hl:Tm.A2 1 l=some n) (hn:Fm.A2 n a≠none) :
  (Fm.mk k t l a).nodes≠none:=by
 grind [Fm.ai3]
mutual
def E5:Ty->Nat
 | .mk _ l=>ci4 l+1
def ci4:List Ty->Nat
 | []=>0
 | t::l=>E5 t+ci4 l
end
theorem V4:E5 c8=1:=by rfl
theorem ax4:E5 r5=1:=by rfl
theorem aF5:E5 O7=1:=by rfl
variable {a b:Ty}
theorem S4:E5 (B6 a b)=E5 a+E5 b+1:=by rfl
theorem M5:E5 (x9 a b)=E5 a+E5 b+1:=by rfl
theorem dk8 (t:Ty):1<=E5 t:=by cases t;simp [E5]
theorem bK2 {x y:Nat} (hk:k=3\/k=4) (ha:a.nodes=some (x:Int)) (hb:b.nodes=some (y:Int)) (h:x+y+1<=1000000) :
  (Ty.mk k [a,b]).nodes=some ((x+y+1:Nat):Int):=by
 have hw:au8 k=some 2:=by rcases hk with rfl|rfl<;>rfl
 rw [Ty.ai3,hw];have hl:(([a,b]:List Ty).length:Int)=2:=rfl;simp only [hl,ad1,p7];have e1:IntKind.i64.wrap (1+(x:Int))=((x+1:Nat):Int):=x7 a_ a_ a_;have e2:IntKind.i64.wrap (((x+1:Nat):Int)+(y:Int))=((x+y+1:Nat):Int):=x7 a_ a_ a_;rw [Ty.H2 ha,Ty.H2 hb,Ty.N1,e1,e2]
theorem TyF.nodes (h:TyF t):E5 t<=1000000->t.nodes=some (E5 t:Int):=by
 induction h with
 | nat=>intro _;rfl
 | list=>intro _;rfl
 | unit=>intro _;rfl
 | pair _ _ h1 h2=>intro hs;rw [S4] at hs ⊢;exact bK2 (.inl rfl) (h1 a_) (h2 a_) a_
 | func _ _ h1 h2=>intro hs;rw [M5] at hs ⊢;exact bK2 (.inr rfl) (h1 a_) (h2 a_) a_
def TyG (t:Ty):Prop:=TyF t/\E5 t<=64
theorem TyF.err (h:TyF t) (hs:E5 t<=1000000):ae5 t=if E5 t<=64 then 0 else 4:=by
 unfold ae5;rw [h.nodes hs,chk]
 grind
theorem TyG.err (h:TyG t):ae5 t=0:=by rw [h.1.err (by have:=h.2;omega),B8 h.2]
theorem TyG.nat:TyG c8:=⟨.nat,by rw [V4];omega⟩
theorem TyG.list:TyG r5:=⟨.list,by rw [ax4];omega⟩
theorem TyG.unit:TyG O7:=⟨.unit,by rw [aF5];omega⟩
theorem TyG.bz1 (h:TyG (B6 a b)):TyG a/\TyG b:=by
 obtain ⟨h1,h2⟩:=h;rw [S4] at h2;cases h1 with|pair ha hb=>exact ⟨⟨ha,a_⟩,⟨hb,a_⟩⟩
theorem TyG.cb9 (h:TyG (x9 a b)):TyG a/\TyG b:=by
 obtain ⟨h1,h2⟩:=h;rw [M5] at h2;cases h1 with|func ha hb=>exact ⟨⟨ha,a_⟩,⟨hb,a_⟩⟩
theorem N0.sz0 (h:N0 0 t):E5 t=1:=by
 cases h<;>grind [V4,ax4,aF5]
theorem N0.sz1 (h:N0 1 t):E5 t<=3:=by
 cases h with
 | nat=>rw [V4];omega
 | list=>rw [ax4];omega
 | unit=>rw [aF5];omega
 | pair h1 h2=>rw [S4,h1.sz0,h2.sz0];omega
 | func h1 h2=>rw [M5,h1.sz0,h2.sz0];omega
theorem N0.G {n:Nat} (hn:n<=1) (h:N0 n t):TyG t:=⟨h.F,by have:=(h.up hn).sz1;omega⟩
theorem Tm.ah0:∀ {l:List Tm} {n:Int},(∀ x∈l,x.nodes≠none)->Tm.A2 n l≠none
 | [],n,_=>by rw [Tm.N1];simp
 | x::l,n,h=>by
  cases hx:x.nodes with
  | none=>grind
  | some k=>rw [Tm.H2 hx];exact Tm.ah0 (fun y hy=>h y (by simp [hy]))
theorem Fm.ah0:∀ {l:List Fm} {n:Int},(∀ x∈l,x.nodes≠none)->Fm.A2 n l≠none
 | [],n,_=>by rw [Fm.N1];simp
 | x::l,n,h=>by
  cases hx:x.nodes with
  | none=>grind
  | some k=>rw [Fm.H2 hx];exact Fm.ah0 (fun y hy=>h y (by simp [hy]))
inductive TmG:Tm->Prop
 | plain {k:Int} {l:List Tm} {a:Int} (ha:arity k=some a) (hl:(l.length:Int)=a) (ht:typed k=false) (h:∀ x∈l,TmG x):TmG (tm0 k l)
 | var {i:Int} (hi:0<=i):TmG (a9 i)
 | typd {k:Int} {t:Ty} {l:List Tm} {a:Int} (ha:arity k=some a) (hl:(l.length:Int)=a) (ht:typed k=true) (hg:TyG t) (h:∀ x∈l,TmG x):TmG (tmT k t l)
theorem TmG.nodes {t:Tm} (h:TmG t):t.nodes≠none:=by
 induction h with
 | @plain k l a ha hl ht _ ih =>
  have:L5 k 0 (.mk 0 []) l.length=true:=by simp [L5,ha,hl,ht,Z1,Ty.kind,Ty.args]
  exact Tm.az5 this (Tm.ah0 ih)
 | @var i hi =>
  have:L5 1 i (.mk 0 []) ([]:List Tm).length=true:=by simp [L5,arity,arities,hi,typed,Z1,Ty.kind,Ty.args]
  exact Tm.az5 this (Tm.ah0 b_)
 | @typd k t l a ha hl ht hg _ ih =>
  have:L5 k 0 t l.length=true:=by simp [L5,ha,hl,ht,hg.err]
  exact Tm.az5 this (Tm.ah0 ih)
theorem ar4:arity 4=some 0:=rfl
theorem ar5:arity 5=some 1:=rfl
theorem ar3:arity 3=some 2:=rfl
theorem ar2:arity 2=some 1:=rfl
theorem ar6:arity 6=some 3:=rfl
theorem ar7:arity 7=some 0:=rfl
theorem ar8:arity 8=some 2:=rfl
theorem ar9:arity 9=some 3:=rfl
theorem dH4:arity 10=some 2:=rfl
theorem ed5:arity 11=some 1:=rfl
theorem ed6:arity 12=some 1:=rfl
theorem ed7:arity 13=some 0:=rfl
theorem TmG.t0 (ha:arity k=some 0) (ht:typed k=false):TmG (tm0 k []):=.plain ha rfl ht b_
variable {a:Tm}
theorem TmG.t1 (ha:arity k=some 1) (ht:typed k=false) (h1:TmG a):TmG (tm0 k [a]):=.plain ha rfl ht (by simp [h1])
variable {b:Tm}
theorem TmG.t2 (ha:arity k=some 2) (ht:typed k=false) (h1:TmG a) (h2:TmG b):TmG (tm0 k [a,b]):=.plain ha rfl ht (by simp [h1,h2])
theorem TmG.lam {t:Ty} {a:Tm} (hg:TyG t) (h1:TmG a):TmG (tmT 2 t [a]):=.typd ar2 rfl rfl hg (by simp [h1])
theorem TmG.V8 {t:Ty} {a b c:Tm} (hg:TyG t) (h1:TmG a) (h2:TmG b) (h3:TmG c):TmG (tmT 6 t [a,b,c]):=.typd ar6 rfl rfl hg (by simp [h1,h2,h3])
theorem TmG.fold {t:Ty} {a b c:Tm} (hg:TyG t) (h1:TmG a) (h2:TmG b) (h3:TmG c):TmG (tmT 9 t [a,b,c]):=.typd ar9 rfl rfl hg (by simp [h1,h2,h3])
theorem am8:∀ n,TmG (G3 n)
 | 0=>.t0 ar4 rfl
 | n+1=>.t1 ar5 rfl (am8 n)
theorem az1 {t:Tm} (h:TmG t):TmG (am5 t):=.lam .nat h
variable {c:Tm}
theorem ct1 (h1:TmG a) (h2:TmG b) (h3:TmG c):TmG (bT7 a b c):=.V8 .nat h1 h2 h3
theorem cv7:TmG (a9 0):=.var a_
theorem dQ5:TmG (a9 1):=.var a_
theorem dx9:TmG aF0:=az1 (ct1 (.t0 ar4 rfl) (az1 (az1 dQ5)) cv7)
theorem bT4:TmG aL3:=az1 (az1 (ct1 dQ5 (az1 (az1 (.t1 ar5 rfl cv7))) cv7))
theorem dj7:TmG aM5:=az1 (az1 (ct1 dQ5 (az1 (az1 (.t2 ar3 rfl dx9 cv7))) cv7))
variable {g:List Ty}
theorem J3.G {n:Nat} {x:Tm} (h:J3 n g t x) (hg:∀ y∈g,TyG y) (ht:TyG t):TmG x:=by
 have app:∀ {g l:List Ty},(∀ y∈g,TyG y)->(∀ y∈l,TyG y)->∀ y∈g++l,TyG y:=by
  intro g l h1 h2 y hy;rcases Q8.1 hy with hy|hy
  ·exact h1 y hy
  ·exact h2 y hy
 induction h with
 | var=>exact .var a_
 | app hs _ _ h1 h2 =>
  have hsG:=hs.G a_;exact .t2 ar3 rfl (.lam hsG (h1 (app hg (by simp [hsG])) ht)) (h2 hg hsG)
 | fst hs _ _ h1 h2=>exact .t1 ed5 rfl (.t2 dH4 rfl (h1 hg ht) (h2 hg (hs.G a_)))
 | snd hs _ _ h1 h2=>exact .t1 ed6 rfl (.t2 dH4 rfl (h1 hg (hs.G a_)) (h2 hg ht))
 | V8 hk _ _ h1 h2=>exact .V8 ht (h2 hg ht) (.lam .nat (.lam ht (h1 (app hg (by simp [ht,TyG.nat])) ht))) (am8 _)
 | fold _ _ _ h1 h2 h3=>exact .fold ht (h2 hg ht) (.lam .nat (.lam .list (.lam ht (h1 (app hg (by simp [ht,TyG.nat,TyG.list])) ht)))) (h3 hg .list)
 | fapp hi h _ h1=>exact .t2 ar3 rfl (.var a_) (h1 hg (hg _ (Q7 h)).cb9.1)
 | succ _ h1=>exact .t1 ar5 rfl (h1 hg ht)
 | plus _ _ h1 h2=>exact .t2 ar3 rfl (.t2 ar3 rfl bT4 (h1 hg ht)) (h2 hg ht)
 | sub _ _ h1 h2=>exact .t2 ar3 rfl (.t2 ar3 rfl dj7 (h1 hg ht)) (h2 hg ht)
 | num=>exact am8 _
 | cons _ _ h1 h2=>exact .t2 ar8 rfl (h1 hg .nat) (h2 hg ht)
 | nil=>exact .t0 ar7 rfl
 | pair _ _ h1 h2=>exact .t2 dH4 rfl (h1 hg ht.bz1.1) (h2 hg ht.bz1.2)
 | lam _ h1=>exact .lam ht.cb9.1 (h1 (app hg (by simp [ht.cb9.1])) ht.cb9.2)
 | unit=>exact .t0 ed7 rfl
inductive FmG (u:Bool):Fm->Prop
 | eq {x y:Tm}:TmG x->TmG y->FmG u (u6 x y)
 | two {k:Int} {a b:Fm} (hk:k=2\/k=3):FmG u a->FmG u b->FmG u (o8 k a b)
 | q {k:Int} {s:Ty} {a:Fm} (hk:k=4\/k=5\/(u=true/\(k=6\/k=7))) (hs:TyG s):FmG u a->FmG u (fmQ k s a)
variable {u:Bool} {f:Fm}
theorem aM1.G {n:Nat} (h:aM1 u n g f) (hg:∀ y∈g,TyG y):FmG u f:=by
 induction h with
 | eq h1 h2=>exact .eq (h1.G hg .nat) (h2.G hg .nat)
 | two hk _ _ h1 h2=>exact .two hk (h1 hg) (h2 hg)
 | q hk hs _ h1 =>
  have hG:=hs.G (by split<;>omega);refine .q hk hG (h1 ?_)
  grind
theorem FmG.nodes (h:FmG u f):f.nodes≠none:=by
 induction h with
 | @eq x y h1 h2 =>
  have hn:=Tm.ah0 (n:=1) (l:=[x,y]) (by simp [h1.nodes,h2.nodes]);cases hx:Tm.A2 1 [x,y] with
  | none=>exact absurd hx hn
  | some k=>exact Fm.az5 rfl hx (by rw [Fm.N1];simp)
 | @two k a b hk _ _ h1 h2 =>
  have:formed k (.mk 0 []) ([]:List Tm).length [a,b].length=true:=by rcases hk with rfl|rfl<;>rfl
  exact Fm.az5 this (Tm.N1 1) (Fm.ah0 (by simp [h1,h2]))
 | @q k s a hk hs _ h1 =>
  have:formed k s ([]:List Tm).length [a].length=true:=by
   rcases hk with rfl|rfl|⟨_,rfl|rfl⟩<;>simp [formed,ap7,hs.err]
  exact Fm.az5 this (Tm.N1 1) (Fm.ah0 (by simp [h1]))
theorem FmG.err (h:FmG u f):Q0 f=0\/Q0 f=4:=by
 unfold Q0;cases hn:f.nodes with
 | none=>exact absurd hn h.nodes
 | some n=>grind [chk]
mutual
def a8:Tm->Nat
 | .mk _ _ _ l=>F7 l+1
def F7:List Tm->Nat
 | []=>0
 | t::l=>a8 t+F7 l
end
mutual
def s6:Fm->Nat
 | .mk _ _ l a=>F7 l+av1 a+1
def av1:List Fm->Nat
 | []=>0
 | t::l=>s6 t+av1 l
end
theorem bi8:a8 (tm0 k [])=1:=by simp [tm0,a8,F7]
theorem aK5:a8 (a9 k)=1:=by rfl
theorem bi9:a8 (tm0 k [a])=a8 a+1:=by simp [tm0,a8,F7]
theorem ad8:a8 (tm0 k [a,b])=a8 a+a8 b+1:=by simp [tm0,a8,F7]
theorem H7:a8 (tmT k t [a])=a8 a+1:=by simp [tmT,a8,F7]
theorem P0:a8 (tmT k t [a,b,c])=a8 a+(a8 b+a8 c)+1:=by simp [tmT,a8,F7]
theorem Y2:∀ n,a8 (G3 n)=n+1
 | 0=>by rw [G3,bi8]
 | n+1=>by rw [G3,bi9,Y2 n]
variable {y:Tm}
theorem D7 {x:Tm}:s6 (u6 x y)=a8 x+a8 y+1:=by rfl
theorem y8 {x y:Fm}:s6 (o8 k x y)=s6 x+s6 y+1:=by simp [o8,s6,av1,F7]
theorem G6 {x:Fm}:s6 (fmQ k t x)=s6 x+1:=by simp [fmQ,s6,av1,F7]
theorem cQ6:a8 aL3=9:=by rfl
theorem bA9:a8 aM5=16:=by rfl
theorem Tm.aq1:∀ {l:List Tm} {n:Nat},(∀ x∈l,a8 x<=1000000000->x.nodes=some (a8 x:Int))->n+F7 l<=1000000000 ->
  Tm.A2 (n:Int) l=some ((n+F7 l:Nat):Int)
 | [],n,_,_=>by rfl
 | x::l,n,h,hs=>by
  rw [F7] at hs;have e:IntKind.i64.wrap ((n:Int)+(a8 x:Int))=((n+a8 x:Nat):Int):=x7 a_ a_ a_;rw [Tm.H2 (h x b_ a_),e,Tm.aq1 (fun y hy=>h y (by simp [hy])) a_,F7,aL8]
theorem Fm.aq1:∀ {l:List Fm} {n:Nat},(∀ x∈l,s6 x<=1000000000->x.nodes=some (s6 x:Int))->n+av1 l<=1000000000 ->
  Fm.A2 (n:Int) l=some ((n+av1 l:Nat):Int)
 | [],n,_,_=>by rfl
 | x::l,n,h,hs=>by
  rw [av1] at hs;have e:IntKind.i64.wrap ((n:Int)+(s6 x:Int))=((n+s6 x:Nat):Int):=x7 a_ a_ a_;rw [Fm.H2 (h x b_ a_),e,Fm.aq1 (fun y hy=>h y (by simp [hy])) a_,av1,aL8]
theorem I9:∀ {l:List Tm} {x:Tm},x∈l->a8 x<=F7 l
 | y::l,x,h=>by
  rw [F7];rcases D9.1 h with rfl|h
  ·omega
  ·have:=I9 h;omega
theorem Tm.ay8 (h:L5 k i t l.length=true) (ih:∀ x∈l,a8 x<=1000000000->x.nodes=some (a8 x:Int)) (hs:a8 (.mk k i t l)<=1000000000) :
  (Tm.mk k i t l).nodes=some (a8 (.mk k i t l):Int):=by
 rw [a8] at hs ⊢;have:=Tm.aq1 (n:=1) ih a_
 grind [Tm.ai3]
theorem TmG.ah1 {t:Tm} (h:TmG t):a8 t<=1000000000->t.nodes=some (a8 t:Int):=by
 induction h with
 | @plain k l a ha hl ht _ ih =>
  have:L5 k 0 (.mk 0 []) l.length=true:=by simp [L5,ha,hl,ht,Z1,Ty.kind,Ty.args]
  exact Tm.ay8 this ih
 | @var i hi =>
  have:L5 1 i (.mk 0 []) ([]:List Tm).length=true:=by simp [L5,arity,arities,hi,typed,Z1,Ty.kind,Ty.args]
  exact Tm.ay8 this b_
 | @typd k t l a ha hl ht hg _ ih =>
  have:L5 k 0 t l.length=true:=by simp [L5,ha,hl,ht,hg.err]
  exact Tm.ay8 this ih
theorem Fm.ay8 {a:List Fm} (h:formed k t l.length a.length=true) (hl:∀ x∈l,TmG x)
  (ih:∀ x∈a,s6 x<=1000000000->x.nodes=some (s6 x:Int)) (hs:s6 (.mk k t l a)<=1000000000):(Fm.mk k t l a).nodes=some (s6 (.mk k t l a):Int):=by
 rw [s6] at hs ⊢;have h1:=Tm.aq1 (n:=1) (l:=l) (fun x hx=>(hl x hx).ah1) a_;have h2:=Fm.aq1 (n:=1+F7 l) ih a_
 grind [Fm.ai3]
theorem FmG.ah1 (h:FmG u f):s6 f<=1000000000->f.nodes=some (s6 f:Int):=by
 induction h with
 | @eq x y h1 h2=>exact Fm.ay8 rfl (by simp [h1,h2]) b_
 | @two k a b hk _ _ h1 h2 =>
  have:formed k (.mk 0 []) ([]:List Tm).length [a,b].length=true:=by rcases hk with rfl|rfl<;>rfl
  exact Fm.ay8 this b_ (fun x hx=>by grind)
 | @q k s a hk hs _ h1 =>
  have:formed k s ([]:List Tm).length [a].length=true:=by
   rcases hk with rfl|rfl|⟨_,rfl|rfl⟩<;>simp [formed,ap7,hs.err]
  exact Fm.ay8 this b_ (by grind)
theorem FmG.aS6 (h:FmG u f) (hs:s6 f<=1000000000):Q0 f=if s6 f<=4096 then 0 else 4:=by
 unfold Q0;rw [h.ah1 hs,chk]
 grind
def aD8 (M:Nat):Nat->Nat
 | 0=>3 * M
 | n+1=>40+3 * aD8 M n
theorem cy5 (M:Nat):∀ n,3 * M<=aD8 M n
 | 0=>w7 _
 | n+1=>by have:=cy5 M n;rw [aD8];omega
theorem J3.sz {M:Nat} (hM:1<=M) {n:Nat} {x:Tm} (h:J3 n g t x) (hg:∀ y∈g,E5 y<=M) (ht:E5 t<=M) :
  a8 x<=aD8 M n/\(n=0->a8 x<=3 * E5 t):=by
 have app:∀ {g l:List Ty},(∀ y∈g,E5 y<=M)->(∀ y∈l,E5 y<=M)->∀ y∈g++l,E5 y<=M:=by
  intro g l h1 h2 y hy;rcases Q8.1 hy with hy|hy
  ·exact h1 y hy
  ·exact h2 y hy
 have dO1:E5 c8<=M:=by exact hM
 have list1:E5 r5<=M:=by exact hM
 have small:∀ {n:Nat} {t:Ty} {x:Tm},a8 x<=3->a8 x<=aD8 M n/\(n=0->a8 x<=3 * E5 t):=by
  intro n t x hx;have:=cy5 M n;have:=dk8 t;exact ⟨a_,fun _=>by omega⟩
 induction h with
 | var=>exact small (by rw [aK5];omega)
 | @app n g t s b x hs _ _ h1 h2 =>
  have s1:E5 s<=M:=by rw [hs.sz0];exact hM
  grind [ad8,H7,aD8]
 | @fst n g t s x y hs _ _ h1 h2 =>
  have s1:E5 s<=M:=by rw [hs.sz0];exact hM
  grind [bi9,ad8,aD8]
 | @snd n g t s x y hs _ _ h1 h2 =>
  have s1:E5 s<=M:=by rw [hs.sz0];exact hM
  grind [bi9,ad8,aD8]
 | V8 hk _ _ h1 h2 =>
  grind [P0,H7,Y2,aD8]
 | fold _ _ _ h1 h2 h3 =>
  grind [P0,H7,aD8]
 | fapp hi h _ h1 =>
  grind [M5,ad8,aK5,aD8]
 | succ _ h1 =>
  grind [bi9,aD8]
 | plus _ _ h1 h2 =>
  grind [ad8,cQ6,aD8]
 | sub _ _ h1 h2 =>
  grind [ad8,bA9,aD8]
 | num hk=>exact small (by rw [Y2];omega)
 | cons _ _ h1 h2 =>
  grind [ad8,aD8]
 | nil=>exact small (by rw [bi8];omega)
 | @pair n g a b x y _ _ h1 h2 =>
  rw [S4] at ht;rw [ad8,S4];cases n<;>grind [aD8]
 | @lam n g a b x _ h1 =>
  rw [M5] at ht;rw [H7,M5];cases n<;>grind [aD8]
 | unit=>exact small (by rw [bi8];omega)
def o9 (a b:Int):Int:=IntKind.i64.wrap (a+b)
def K5 (a b:Int):Int:=IntKind.i64.wrap (a - b)
mutual
def Ty.szW:Ty->Int
 | .mk _ l=>Ty.Q6 1 l
def Ty.Q6:Int->List Ty->Int
 | n,[]=>n
 | n,t::l=>Ty.Q6 (IntKind.i64.wrap (n+t.szW)) l
end
theorem Ty.aY7 (t:Ty):t.szW=Ty.Q6 1 t.args:=by cases t;rfl
theorem Ty.aa1 {n:Int}:Ty.Q6 n []=n:=by rw [Ty.Q6]
theorem Ty.U7 {n:Int} {l:List Ty}:Ty.Q6 n (t::l)=Ty.Q6 (IntKind.i64.wrap (n+t.szW)) l:=by rw [Ty.Q6]
mutual
def Tm.szW:Tm->Int
 | .mk _ _ _ l=>Tm.Q6 1 l
def Tm.Q6:Int->List Tm->Int
 | n,[]=>n
 | n,t::l=>Tm.Q6 (IntKind.i64.wrap (n+t.szW)) l
end
theorem Tm.aY7 (t:Tm):t.szW=Tm.Q6 1 t.args:=by cases t;rfl
theorem Tm.aa1 {n:Int}:Tm.Q6 n []=n:=by rw [Tm.Q6]
theorem Tm.U7 {n:Int} {t:Tm}:Tm.Q6 n (t::l)=Tm.Q6 (IntKind.i64.wrap (n+t.szW)) l:=by rw [Tm.Q6]
mutual
def Fm.szW:Fm->Int
 | .mk _ _ l a=>Fm.Q6 (Tm.Q6 1 l) a
def Fm.Q6:Int->List Fm->Int
 | n,[]=>n
 | n,t::l=>Fm.Q6 (IntKind.i64.wrap (n+t.szW)) l
end
theorem Fm.aY7 (t:Fm):t.szW=Fm.Q6 (Tm.Q6 1 t.a7) t.args:=by cases t;rfl
theorem Fm.aa1 {n:Int}:Fm.Q6 n []=n:=by rw [Fm.Q6]
theorem Fm.U7 {n:Int} {t:Fm} {l:List Fm}:Fm.Q6 n (t::l)=Fm.Q6 (IntKind.i64.wrap (n+t.szW)) l:=by rw [Fm.Q6]
def Ty.J4 (t:Ty):Bool:=t.nodes.isSome
def Tm.J4 (t:Tm):Bool:=t.nodes.isSome
def Fm.J4 (t:Fm):Bool:=t.nodes.isSome
theorem Ty.X2:∀ (l:List Ty) (n:Int),(Ty.A2 n l).isSome=l.all Ty.J4
 | [],n=>by rfl
 | t::l,n=>by
  cases h:t.nodes with
  | none=>grind [Ty.P3,Ty.J4]
  | some k=>rw [Ty.H2 h,Ty.X2 l];simp [Ty.J4,h]
theorem Tm.X2:∀ (l:List Tm) (n:Int),(Tm.A2 n l).isSome=l.all Tm.J4
 | [],n=>by rfl
 | t::l,n=>by
  cases h:t.nodes with
  | none=>grind [Tm.P3,Tm.J4]
  | some k=>rw [Tm.H2 h,Tm.X2 l];simp [Tm.J4,h]
theorem Fm.X2:∀ (l:List Fm) (n:Int),(Fm.A2 n l).isSome=l.all Fm.J4
 | [],n=>by rfl
 | t::l,n=>by
  cases h:t.nodes with
  | none=>grind [Fm.P3,Fm.J4]
  | some k=>rw [Fm.H2 h,Fm.X2 l];simp [Fm.J4,h]
theorem Ty.aq6 (t:Ty):t.J4=match au8 t.kind with|none=>false|some w=>((t.args.length:Int)==w)&&t.args.all Ty.J4:=by
 show t.nodes.isSome=_
 grind [Ty.V1,Ty.X2]
theorem Tm.aq6 (t:Tm):t.J4=(L5 t.kind t.index t.type t.args.length&&t.args.all Tm.J4):=by
 show t.nodes.isSome=_
 grind [Tm.V1,Tm.X2]
theorem Fm.aq6 (t:Fm):t.J4=(formed t.kind t.type t.a7.length t.args.length&&t.a7.all Tm.J4&&t.args.all Fm.J4):=by
 show t.nodes.isSome=_
 grind [Fm.V1,Tm.X2,Fm.X2]
mutual
def Tm.least (m:Int):Tm->Bool
 | .mk _ i _ l=>decide (i<=m)&&Tm.L4 m l
def Tm.L4 (m:Int):List Tm->Bool
 | []=>true
 | t::l=>t.least m&&Tm.L4 m l
end
theorem Tm.I6 (m:Int) (t:Tm):t.least m=(decide (t.index<=m)&&Tm.L4 m t.args):=by cases t;rfl
variable {m:Int}
theorem Tm.D5:Tm.L4 m []=true:=by rw [Tm.L4]
theorem Tm.G1 {t:Tm}:Tm.L4 m (t::l)=(t.least m&&Tm.L4 m l):=by rw [Tm.L4]
mutual
def Fm.least (m:Int):Fm->Bool
 | .mk _ _ l a=>Tm.L4 m l&&Fm.L4 m a
def Fm.L4 (m:Int):List Fm->Bool
 | []=>true
 | t::l=>t.least m&&Fm.L4 m l
end
theorem Fm.I6 (m:Int) (t:Fm):t.least m=(Tm.L4 m t.a7&&Fm.L4 m t.args):=by cases t;rfl
theorem Fm.D5:Fm.L4 m []=true:=by rw [Fm.L4]
theorem Fm.G1 {t:Fm} {l:List Fm}:Fm.L4 m (t::l)=(t.least m&&Fm.L4 m l):=by rw [Fm.L4]
def m9 (k:Int):Int:=if k==2 then 1 else 0
def X8 (k:Int):Bool:=k==4||k==5||k==6||k==7
def u9 (k:Int):Int:=if X8 k then 1 else 0
mutual
def Tm.times:Tm->Int->Int
 | .mk k i _ l,at'=>Tm.T4 (o9 at' (m9 k)) (if k==1&&i==at' then o9 0 1 else 0) l
def Tm.T4 (at':Int):Int->List Tm->Int
 | n,[]=>n
 | n,t::l=>Tm.T4 at' (o9 n (t.times at')) l
end
theorem Tm.bA6 (t:Tm) (at':Int):t.times at'=Tm.T4 (o9 at' (m9 t.kind)) (if t.kind==1&&t.index==at' then o9 0 1 else 0) t.args:=by cases t;rfl
variable {a:Int}
theorem Tm.V3 {n:Int}:Tm.T4 a n []=n:=by rw [Tm.T4]
theorem Tm.Y1 {n:Int} {t:Tm}:Tm.T4 a n (t::l)=Tm.T4 a (o9 n (t.times a)) l:=by rw [Tm.T4]
mutual
def Fm.times:Fm->Int->Int
 | .mk k _ l a,at'=>Fm.T4 (o9 at' (u9 k)) (Tm.T4 at' 0 l) a
def Fm.T4 (at':Int):Int->List Fm->Int
 | n,[]=>n
 | n,t::l=>Fm.T4 at' (o9 n (t.times at')) l
end
theorem Fm.bA6 (t:Fm) (at':Int):t.times at'=Fm.T4 (o9 at' (u9 t.kind)) (Tm.T4 at' 0 t.a7) t.args:=by cases t;rfl
theorem Fm.V3 {n:Int}:Fm.T4 a n []=n:=by rw [Fm.T4]
theorem Fm.Y1 {n:Int} {t:Fm} {l:List Fm}:Fm.T4 a n (t::l)=Fm.T4 a (o9 n (t.times a)) l:=by rw [Fm.T4]
mutual
def Tm.up (by':Int):Tm->Int->Tm
 | .mk k i t l,fr=>.mk k (if k==1&&decide (i>=fr) then o9 i by' else i) t (Tm.upL by' l (o9 fr (m9 k)))
def Tm.upL (by':Int):List Tm->Int->List Tm
 | [],_=>[]
 | t::l,fr=>t.up by' fr::Tm.upL by' l fr
end
theorem Tm.Y4 {b:Int}:∀ (l:List Tm) (fr:Int),Tm.upL b l fr=l.map fun t=>t.up b fr
 | [],fr=>by simp [Tm.upL]
 | t::l,fr=>by simp [Tm.upL,Tm.Y4 l fr]
theorem Tm.aL5 (b:Int) (t:Tm) (fr:Int):t.up b fr=.mk t.kind (if t.kind==1&&decide (t.index>=fr) then o9 t.index b else t.index) t.type (t.args.map fun x=>x.up b (o9 fr (m9 t.kind))):=by
 cases t;rw [Tm.up,Tm.Y4];rfl
mutual
def D6 (s:Tm) (at':Int):Tm->Int->Tm
 | .mk k i t l,d=>if k==1 then (if i==o9 at' d then Tm.up (o9 at' d) s 0 else if decide (i>o9 at' d) then a9 (K5 i 1) else .mk k i t l)
  else .mk k i t (bA7 s at' l (o9 d (m9 k)))
def bA7 (s:Tm) (at':Int):List Tm->Int->List Tm
 | [],_=>[]
 | t::l,d=>D6 s at' t d::bA7 s at' l d
end
theorem O8 {s:Tm} {a:Int}:∀ (l:List Tm) (d:Int),bA7 s a l d=l.map fun t=>D6 s a t d
 | [],d=>by simp [bA7]
 | t::l,d=>by simp [bA7,O8 l d]
theorem bd6 (s:Tm) (a:Int) (t:Tm) (d:Int):D6 s a t d=if t.kind==1 then
  (if t.index==o9 a d then Tm.up (o9 a d) s 0 else if decide (t.index>o9 a d) then a9 (K5 t.index 1) else t)
  else .mk t.kind t.index t.type (t.args.map fun x=>D6 s a x (o9 d (m9 t.kind))):=by
 cases t;rw [D6,O8];rfl
mutual
def I3 (s:Tm) (at':Int):Fm->Int->Fm
 | .mk k t l a,d=>.mk k t (l.map fun x=>D6 s at' x d) (bv9 s at' a (o9 d (u9 k)))
def bv9 (s:Tm) (at':Int):List Fm->Int->List Fm
 | [],_=>[]
 | t::l,d=>I3 s at' t d::bv9 s at' l d
end
theorem aJ2 {s:Tm} {a:Int}:∀ (l:List Fm) (d:Int),bv9 s a l d=l.map fun t=>I3 s a t d
 | [],d=>by simp [bv9]
 | t::l,d=>by simp [bv9,aJ2 l d]
theorem cb5 (s:Tm) (a:Int) (t:Fm) (d:Int):I3 s a t d=.mk t.kind t.type (t.a7.map fun x=>D6 s a x d) (t.args.map fun x=>I3 s a x (o9 d (u9 t.kind))):=by
 cases t;rw [I3,aJ2];rfl
mutual
theorem Ty.aa2:∀ (t:Ty) (n:Int),t.nodes=some n->t.szW=n
 | .mk k l,n,h=>by
  rw [Ty.ai3] at h;split at h
  ·cases h
  ·split at h
   ·exact Ty.ab9 l 1 n h
   ·cases h
theorem Ty.ab9:∀ (l:List Ty) (m n:Int),Ty.A2 m l=some n->Ty.Q6 m l=n
 | [],m,n,h=>by grind [Ty.N1,Ty.aa1]
 | t::l,m,n,h=>by
  cases hx:t.nodes with
  | none=>grind [Ty.P3]
  | some k =>
   rw [Ty.H2 hx] at h;rw [Ty.U7,Ty.aa2 t k hx];exact Ty.ab9 l _ n h
end
mutual
theorem Tm.aa2:∀ (t:Tm) (n:Int),t.nodes=some n->t.szW=n
 | .mk k i t l,n,h=>by
  rw [Tm.ai3] at h;split at h
  ·exact Tm.ab9 l 1 n h
  ·cases h
theorem Tm.ab9:∀ (l:List Tm) (m n:Int),Tm.A2 m l=some n->Tm.Q6 m l=n
 | [],m,n,h=>by grind [Tm.N1,Tm.aa1]
 | t::l,m,n,h=>by
  cases hx:t.nodes with
  | none=>grind [Tm.P3]
  | some k =>
   rw [Tm.H2 hx] at h;rw [Tm.U7,Tm.aa2 t k hx];exact Tm.ab9 l _ n h
end
mutual
theorem Fm.aa2:∀ (t:Fm) (n:Int),t.nodes=some n->t.szW=n
 | .mk k t l a,n,h=>by
  rw [Fm.ai3] at h;rw [Fm.szW];split at h
  ·cases hl:Tm.A2 1 l with
   | none=>rw [hl] at h;cases h
   | some m=>rw [hl] at h;rw [Tm.ab9 l 1 m hl];exact Fm.ab9 a m n h
  ·cases h
theorem Fm.ab9:∀ (l:List Fm) (m n:Int),Fm.A2 m l=some n->Fm.Q6 m l=n
 | [],m,n,h=>by grind [Fm.N1,Fm.aa1]
 | t::l,m,n,h=>by
  cases hx:t.nodes with
  | none=>grind [Fm.P3]
  | some k =>
   rw [Fm.H2 hx] at h;rw [Fm.U7,Fm.aa2 t k hx];exact Fm.ab9 l _ n h
end
def aw3 (k:Int):Int :=
 if k==1||k==4||k==7||k==13 then 0 else if k==2||k==5||k==11||k==12 then 1 else if k==3||k==8||k==10 then 2 else if k==6||k==9 then 3 else -1
def ag1 (t:Tm):Int:=(chk 4096 t.nodes).2
theorem dw9 (h1:¬ k<1) (h2:¬ 14<=k):k=1\/k=2\/k=3\/k=4\/k=5\/k=6\/k=7\/k=8\/k=9\/k=10\/k=11\/k=12\/k=13:=by omega
theorem cv4 (k i:Int) (t:Ty) (n:Nat):L5 k i t (n:Int) =
  (!((n:Int) != aw3 k)&&!decide (i<0)&&!(k != 1&&i != 0)&&(if typed k then ae5 t==0 else Z1 t)):=by
 unfold L5 arity;by_cases hk:k<1\/14<=k
 ·grind [aw3]
 ·rw [y9 hk]
  obtain ⟨h1,h2⟩:=not_or.1 hk;have hi:(!decide (i<0))=decide (0<=i):=by
   by_cases h:i<0
   ·have:¬ 0<=i:=by omega
    simp [h,this]
   ·have:0<=i:=by omega
    simp [h,this]
  rcases dw9 h1 h2 with h|h|h|h|h|h|h|h|h|h|h|h|h<;>subst h
  all_goals
   simp only [arities,aw3,typed,hi];cases h0:(i==0)<;>simp [bne,h0]
def A0:Fm:=.mk 0 (.mk 0 []) [] []
def bp4 (a b:Int):Int:=IntKind.i64.wrap (a * b)
def D8 (f:Fm) (a:Int) (s:Tm):Fm × Int :=
 if Q0 f != 0 then (A0,Q0 f)
 else if decide (a<0)||decide (a>4096) then (A0,1)
 else if ag1 s != 0 then (A0,ag1 s)
 else if !f.least 536870912||!s.least 536870912 then (A0,1)
 else if decide (o9 f.szW (bp4 (f.times a) (K5 s.szW 1))>4096) then (A0,4)
 else (I3 s a f 0,0)
@[go_sem] def P6 (p:Fm × Int):V:=.tup [.agg p.1.cells,.int .i64 p.2]
theorem w8 {b:Int} (h0 : -1000000000000<=a) (h1:a<=1000000000000) (h2 : -1000000000000<=b) (h3:b<=1000000000000):o9 a b=a+b:=x7 rfl a_ a_
theorem P9 {b:Int} (h0 : -1000000000000<=a) (h1:a<=1000000000000) (h2 : -1000000000000<=b) (h3:b<=1000000000000):K5 a b=a - b:=x7 rfl a_ a_
theorem Tm.G7:∀ {l:List Tm},Tm.L4 m l=true↔∀ x∈l,x.least m=true
 | []=>by simp [Tm.D5]
 | x::l=>by simp [Tm.G1,Tm.G7 (l:=l)]
theorem Fm.G7:∀ {l:List Fm},Fm.L4 m l=true↔∀ x∈l,x.least m=true
 | []=>by simp [Fm.D5]
 | x::l=>by simp [Fm.G1,Fm.G7 (l:=l)]
theorem am7 (hi:i<=m) (h:∀ x∈l,x.least m=true):(Tm.mk k i t l).least m=true:=by
 grind [Tm.least,Tm.G7]
theorem aJ6 (hm:1<=m):(tm0 k []).least m=true:=am7 a_ b_
variable {a:Tm}
theorem aT3 (hm:1<=m) (h1:a.least m=true):(tm0 k [a]).least m=true:=am7 a_ (by simp [h1])
theorem am6 (hm:1<=m) (h1:a.least m=true) (h2:b.least m=true):(tm0 k [a,b]).least m=true:=am7 a_ (by simp [h1,h2])
theorem R7 (hm:1<=m) (h1:a.least m=true):(tmT k t [a]).least m=true:=am7 a_ (by simp [h1])
theorem aE4 (hm:1<=m) (h1:a.least m=true) (h2:b.least m=true) (h3:c.least m=true):(tmT k t [a,b,c]).least m=true:=am7 a_ (by simp [h1,h2,h3])
theorem ai7 (h:i<=m):(a9 i).least m=true:=am7 h b_
theorem bh5 {m:Int} (hm:1<=m):∀ n,(G3 n).least m=true
 | 0=>aJ6 hm
 | n+1=>aT3 hm (bh5 hm n)
theorem cq7 (hm:1<=m):aL3.least m=true :=
 R7 hm (R7 hm (aE4 hm (ai7 hm) (R7 hm (R7 hm (aT3 hm (ai7 a_)))) (ai7 a_)))
theorem cq8 (hm:1<=m):aF0.least m=true :=
 R7 hm (aE4 hm (aJ6 hm) (R7 hm (R7 hm (ai7 hm))) (ai7 a_))
theorem bJ6 (hm:1<=m):aM5.least m=true :=
 R7 hm (R7 hm (aE4 hm (ai7 hm) (R7 hm (R7 hm (am6 hm (cq8 hm) (ai7 a_)))) (ai7 a_)))
theorem J3.least {M m:Nat} (hm':1<=m) {n:Nat} {x:Tm} (h:J3 n g t x) (hM:1<=M) (hg:∀ y∈g,E5 y<=M) (ht:E5 t<=M)
  (hb:g.length+(3+M) * n+E5 t<=m):x.least (m:Int)=true:=by
 have hm:(1:Int)<=(m:Int):=by omega
 have dO1:E5 c8<=M:=by exact hM
 have list1:E5 r5<=M:=by exact hM
 induction h with
 | @var n g t i hi=>grind [ai7]
 | @app n g t s b x hs _ _ h1 h2 =>
  have s1:=hs.sz0
  grind [am6,R7]
 | @fst n g t s x y hs _ _ h1 h2 =>
  have s1:=hs.sz0
  grind [aT3,am6]
 | @snd n g t s x y hs _ _ h1 h2 =>
  have s1:=hs.sz0
  grind [aT3,am6]
 | @V8 n g t b f k hk _ _ h1 h2 =>
  grind [aE4,R7,bh5]
 | @fold n g t b f x _ _ _ h1 h2 h3 =>
  grind [aE4,R7]
 | @fapp n g t s x i hi h _ h1 =>
  grind [M5,am6,ai7]
 | @succ n g x _ h1=>grind [aT3]
 | @plus n g x y _ _ h1 h2=>grind [am6,cq7]
 | @sub n g x y _ _ h1 h2=>grind [am6,bJ6]
 | num=>exact bh5 hm _
 | @cons n g x y _ _ h1 h2 =>
  grind [am6]
 | nil=>exact aJ6 hm
 | @pair n g a b x y _ _ h1 h2 =>
  rw [S4] at ht hb;have:(3+M) * (n - 1)<=(3+M) * n:=Nat.mul_le_mul_left _ a_
  grind [am6]
 | @lam n g a b x _ h1 =>
  rw [M5] at ht hb;have:(3+M) * (n - 1)<=(3+M) * n:=Nat.mul_le_mul_left _ a_
  grind [R7]
 | unit=>exact aJ6 hm
theorem aM1.least {m:Nat} (hm:1<=m) {n:Nat} (h:aM1 u n g f) (hg:∀ y∈g,E5 y<=3)
  (hb:g.length+n+13<=m):f.least (m:Int)=true:=by
 have l1:=V4
 induction h with
 | @eq n g x y h1 h2 =>
  have a1:=h1.least (m:=m) hm (M:=3) a_ hg a_ a_;have a2:=h2.least (m:=m) hm (M:=3) a_ hg a_ a_
  grind [Fm.I6,u6,Fm.a7,Fm.args,Tm.G1,Tm.D5,Fm.D5]
 | @two n g k a b _ _ _ h1 h2 =>
  grind [Fm.I6,o8,Fm.a7,Fm.args,Fm.G1,Tm.D5,Fm.D5]
 | @q n g k s a _ hs _ h1 =>
  rw [Fm.I6];have hs':E5 s<=3:=(hs.up (by split<;>omega)).sz1
  grind [fmQ,Fm.a7,Fm.args,Fm.G1,Tm.D5,Fm.D5]
mutual
def F6:Tm->Int->Nat
 | .mk k i _ l,x=>if k==1 then (if i==x then 1 else 0) else O9 l (x+m9 k)
def O9:List Tm->Int->Nat
 | [],_=>0
 | t::l,x=>F6 t x+O9 l x
end
theorem I8 (k:Int):0<=m9 k/\m9 k<=1:=by grind [m9]
theorem bE2 (k:Int):0<=u9 k/\u9 k<=1:=by grind [u9]
mutual
theorem aF3:∀ (t:Tm) (x:Int),F6 t x<=a8 t
 | .mk k i t l,x=>by
  rw [F6,a8];have:=bi7 l (x+m9 k)
  repeat' split
  all_goals omega
theorem bi7:∀ (l:List Tm) (x:Int),O9 l x<=F7 l
 | [],x=>by simp [O9]
 | t::l,x=>by rw [O9,F7];have:=aF3 t x;have:=bi7 l x;omega
end
theorem aY8 {a:Int}:∀ (l:List Tm) (n:Nat),(∀ y∈l,y.times a=(F6 y a:Int))->n+F7 l<=1000000->Tm.T4 a (n:Int) l=((n+O9 l a:Nat):Int)
 | [],n,_,_=>by rfl
 | t::l,n,h,hs=>by
  rw [F7] at hs;have h1:=aF3 t a;have e:o9 (n:Int) (F6 t a:Int)=((n+F6 t a:Nat):Int):=x7 a_ a_ a_;rw [Tm.Y1,h t b_,e,aY8 l _ (fun y hy=>h y (by simp [hy])) a_,O9,aL8]
variable {t:Tm}
theorem TmG.au1 {p:Tm->Prop} (h:TmG t) (hv:∀ i,0<=i->p (a9 i))
  (hn:∀ k ty l,(k==1)=false->L5 k 0 ty l.length=true->(∀ x∈l,TmG x)->(∀ l',l'.length=l.length->(∀ x∈l',TmG x)->TmG (.mk k 0 ty l'))->p (.mk k 0 ty l)):p t:=by
 cases h with
 | @plain k l a ha hl ht h =>
  cases hk:(k==1) with
  | true =>
   have hk':k=1:=by simpa using hk
   subst hk';have:a=0:=by exact (Option.some.inj ha).symm
   have hl0:l=[]:=aR1.1 a_;subst hl0;exact hv 0 a_
  | false =>
   have:L5 k 0 (.mk 0 []) l.length=true:=by simp [L5,ha,hl,ht,Z1,Ty.kind,Ty.args]
   exact hn k _ l hk this h (fun l' h1 h2=>.plain ha (by rw [h1];exact hl) ht h2)
 | @var i hi=>exact hv i hi
 | @typd k t l a ha hl ht hg h =>
  have hk:(k==1)=false:=by
   cases hk:(k==1) with
   | false=>rfl
   | true =>
    have hk':k=1:=by simpa using hk
    subst hk';cases ht
  have:L5 k 0 t l.length=true:=by simp [L5,ha,hl,ht,hg.err]
  exact hn k _ l hk this h (fun l' h1 h2=>.typd ha (by rw [h1];exact hl) ht hg h2)
theorem bL9 {g:Tm->Tm}:∀ (l:List Tm),(∀ x∈l,a8 (g x)=a8 x)->F7 (l.map g)=F7 l
 | [],_=>rfl
 | x::l,h=>by rw [E0,F7,F7,h x b_,bL9 l (fun y hy=>h y (by simp [hy]))]
variable {b:Int}
theorem aq9:∀ (t:Tm) (fr:Int),a8 (t.up b fr)=a8 t:=by
 intro t
 induction t using Tm.ind with|h t ih=>?_
 intro fr;rw [Tm.aL5];cases t with|mk k i ty l =>
 grind [a8,Tm.args,bL9]
theorem N8 (t:Tm):1<=a8 t:=by cases t;rw [a8];omega
theorem TmG.ax3:∀ (n:Nat) {t:Tm},TmG t->a8 t<=n->∀ x:Int,0<=x->x+n<=1000000->t.times x=(F6 t x:Int)
 | 0,t,h,hn,x,_,_=>by grind [N8]
 | n+1,t,h,hn,x,hx,hb=>by
  revert hn
  refine h.au1 (p:=fun t=>a8 t<=n+1->t.times x=(F6 t x:Int)) ?_ ?_
  ·grind [a9,Tm.times,F6,Tm.V3,o9,wrap_small]
  ·intro k ty l hk _ hl _ hn
   rw [a8] at hn;have hr:=I8 k;have e:o9 x (m9 k)=x+m9 k:=w8 a_ a_ a_ a_;rw [Tm.times,F6,hk,e];have:=aY8 (a:=x+m9 k) l 0 (fun y hy=>TmG.ax3 n (hl y hy) (by have:=I9 hy;omega) _ a_ a_) a_;simpa using this
theorem bL8 {g:Tm->Tm} {o:Tm->Nat} {c:Nat}:∀ (l:List Tm),(∀ x∈l,a8 (g x)=a8 x+o x * c)->F7 (l.map g)=F7 l+(l.map o).sum * c
 | [],_=>by simp [F7]
 | x::l,h=>by
  rw [E0,F7,F7,h x b_,bL8 l (fun y hy=>h y (by simp [hy])),E0,List.sum_cons,aR0];omega
theorem bA8 (x:Int):∀ l:List Tm,O9 l x=(l.map fun t=>F6 t x).sum
 | []=>rfl
 | t::l=>by rw [O9,E0,List.sum_cons,bA8 x l]
variable {s:Tm}
theorem TmG.az0:∀ (n:Nat) {t:Tm},TmG t->a8 t<=n->∀ d:Int,0<=d->d+n<=1000000->a8 (D6 s 0 t d)=a8 t+F6 t d * (a8 s - 1)
 | 0,t,h,hn,x,_,_=>by grind [N8]
 | n+1,t,h,hn,d,hd,hb=>by
  revert hn
  have e0:o9 0 d=d:=by rw [w8 a_ a_ a_ a_];omega
  refine h.au1 (p:=fun t=>a8 t<=n+1->a8 (D6 s 0 t d)=a8 t+F6 t d * (a8 s - 1)) ?_ ?_
  ·grind [a9,D6,F6,N8,aq9,a8,F7]
  ·intro k ty l hk _ hl _ hn
   rw [a8] at hn;have hr:=I8 k;have e:o9 d (m9 k)=d+m9 k:=w8 a_ a_ a_ a_;rw [D6,F6,hk,e,O8];simp only [B2,r6,a8];rw [bL8 l (o:=fun t=>F6 t (d+m9 k)) (c:=a8 s - 1) (fun y hy=>TmG.az0 n (hl y hy) (by have:=I9 hy;omega) _ a_ a_),bA8];omega
theorem TmG.up (hb0:0<=b) (hb:b<=1000000):∀ (n:Nat) {t:Tm},TmG t->a8 t<=n->t.least 536870912=true->∀ fr:Int,TmG (t.up b fr)
 | 0,t,h,hn,_,_=>by grind [N8]
 | n+1,t,h,hn,hl,fr=>by
  revert hn hl
  refine h.au1 (p:=fun t=>a8 t<=n+1->t.least 536870912=true->TmG (t.up b fr)) ?_ ?_
  ·intro i hi _ hl
   rw [a9,Tm.I6] at hl;have hi2:i<=536870912:=by rw [A3] at hl;exact ah5 hl.1
   refine .var ?_
   grind [w8]
  ·intro k ty l hk _ hg hmk hn hl
   rw [a8] at hn;rw [Tm.least,A3] at hl;rw [Tm.up,Tm.Y4,hk];refine hmk _ b_ ?_;intro x hx;obtain ⟨y,hy,rfl⟩:=G5.1 hx;exact TmG.up hb0 hb n (hg y hy) (by have:=I9 hy;omega) (Tm.G7.1 hl.2 y hy) _
theorem TmG.inn (hs:TmG s) (hsl:s.least 536870912=true):∀ (n:Nat) {t:Tm},TmG t->a8 t<=n->t.least 536870912=true->∀ d:Int,0<=d->d+n<=1000000->TmG (D6 s 0 t d)
 | 0,t,h,hn,_,_,_,_=>by grind [N8]
 | n+1,t,h,hn,hl,d,hd,hb=>by
  revert hn hl
  have e0:o9 0 d=d:=by rw [w8 a_ a_ a_ a_];omega
  refine h.au1 (p:=fun t=>a8 t<=n+1->t.least 536870912=true->TmG (D6 s 0 t d)) ?_ ?_
  ·intro i hi _ hl
   rw [a9,Tm.I6] at hl;have hi2:i<=536870912:=by rw [A3] at hl;exact ah5 hl.1
   rw [a9,D6,e0];simp only [ad1,p7];split
   ·exact TmG.up hd a_ _ hs (w7 _) hsl _
   ·split
    ·grind [var,P9]
    ·exact .var hi
  ·intro k ty l hk _ hg hmk hn hl
   rw [a8] at hn;have hr:=I8 k;have e:o9 d (m9 k)=d+m9 k:=w8 a_ a_ a_ a_;rw [Tm.least,A3] at hl;rw [D6,O8,hk,e];refine hmk _ b_ ?_;intro x hx;obtain ⟨y,hy,rfl⟩:=G5.1 hx;exact TmG.inn hs hsl n (hg y hy) (by have:=I9 hy;omega) (Tm.G7.1 hl.2 y hy) _ a_ a_
mutual
def Q1:Fm->Int->Nat
 | .mk k _ l a,x=>O9 l x+ap6 a (x+u9 k)
def ap6:List Fm->Int->Nat
 | [],_=>0
 | t::l,x=>Q1 t x+ap6 l x
end
mutual
theorem ay7:∀ (t:Fm) (x:Int),Q1 t x<=s6 t
 | .mk k t l a,x=>by
  rw [Q1,s6];have:=bi7 l x;have:=bI2 a (x+u9 k);omega
theorem bI2:∀ (l:List Fm) (x:Int),ap6 l x<=av1 l
 | [],x=>by simp [ap6]
 | t::l,x=>by rw [ap6,av1];have:=ay7 t x;have:=bI2 l x;omega
end
variable {a:Int}
theorem cL7 {x:Tm} (hx:TmG x) (hy:TmG y) (h0:0<=a) (hb:a+(a8 x+a8 y)<=1000000):(u6 x y).times a=(Q1 (u6 x y) a:Int):=by
 have h:=aY8 (a:=a) [x,y] 0 (fun z hz=>by
  simp at hz;rcases hz with rfl|rfl
  ·exact hx.ax3 _ (w7 _) _ h0 a_
  ·exact hy.ax3 _ (w7 _) _ h0 a_) (by simp [F7];omega)
 grind [u6,Fm.times,Q1,Fm.V3,ap6]
theorem Z8 (hk:k=2\/k=3):u9 k=0:=by rcases hk with rfl|rfl<;>rfl
theorem H4 (h0:0<=a) (hb:a<=1000000000):o9 a 0=a:=by grind [w8]
theorem be8 (h0:0<=a) (hb:a<=1000000):o9 0 a=a:=by grind [w8]
theorem FmG.ax3 (h:FmG u f):∀ a:Int,0<=a->a+s6 f<=500000->f.times a=(Q1 f a:Int):=by
 induction h with
 | @eq x y hx hy=>grind [D7,cL7]
 | @two k p q hk _ _ h1 h2 =>
  intro a h0 hb;rw [y8] at hb;have e1:=h1 a h0 a_;have e2:=h2 a h0 a_;have l1:=ay7 p a;have l2:=ay7 q a;rw [o8,Fm.times,Q1,Z8 hk,H4 h0 a_,Tm.V3,Fm.Y1,Fm.Y1,Fm.V3,e1,e2,be8 a_ a_,
   w8 a_ a_ a_ a_]
  simp [ap6,O9]
 | @q k s p hk hs _ h1 =>
  intro a h0 hb;rw [G6] at hb;have hr:=bE2 k;have e:=w8 (a:=a) (b:=u9 k) a_ a_ a_ a_;have l1:=ay7 p (a+u9 k)
  grind [fmQ,Fm.times,Q1,Tm.V3,Fm.Y1,Fm.V3,be8,ap6,O9]
variable {d:Int}
theorem bg9 {x:Tm}:I3 s a (u6 x y) d=u6 (D6 s a x d) (D6 s a y d):=by
 rfl
theorem ak1 {x y:Fm}:I3 s a (o8 k x y) d=o8 k (I3 s a x (o9 d (u9 k))) (I3 s a y (o9 d (u9 k))):=by
 rfl
theorem aS9 {t:Ty} {x:Fm}:I3 s a (fmQ k t x) d=fmQ k t (I3 s a x (o9 d (u9 k))):=by
 rfl
theorem FmG.az0 (h:FmG u f):∀ d:Int,0<=d->d+s6 f<=500000->s6 (I3 s 0 f d)=s6 f+Q1 f d * (a8 s - 1):=by
 induction h with
 | @eq x y hx hy =>
  intro d h0 hb;rw [D7] at hb;rw [bg9,D7,D7,hx.az0 _ (w7 _) d h0 a_,hy.az0 _ (w7 _) d h0 a_]
  grind [u6,Q1,O9,ap6]
 | @two k p q hk _ _ h1 h2 =>
  grind [y8,ak1,Z8,H4,o8,Q1,O9,ap6]
 | @q k t p hk hs _ h1 =>
  grind [G6,w8,u9,aS9,fmQ,Q1,O9,ap6]
theorem FmG.inn (hs:TmG s) (hsl:s.least 536870912=true) (h:FmG u f):f.least 536870912=true->∀ d:Int,0<=d->d+s6 f<=500000->FmG u (I3 s 0 f d):=by
 induction h with
 | @eq x y hx hy =>
  intro hl d h0 hb;rw [D7] at hb;rw [Fm.I6] at hl;simp only [u6,Fm.a7,Fm.args,Tm.G1,Tm.D5,Fm.D5,bj5,A3] at hl;exact .eq (TmG.inn hs hsl _ hx (w7 _) hl.1 d h0 a_) (TmG.inn hs hsl _ hy (w7 _) hl.2 d h0 a_)
 | @two k p q hk _ _ h1 h2 =>
  intro hl d h0 hb;rw [y8] at hb;rw [Fm.I6] at hl
  grind [o8,Fm.args,Fm.G1,ak1,Z8,H4,two]
 | @q k t p hk ht _ h1 =>
  intro hl d h0 hb;rw [G6] at hb;rw [Fm.I6] at hl;simp only [fmQ,Fm.a7,Fm.args,Fm.G1,Tm.D5,Fm.D5,bj5,J7] at hl
  grind [w8,u9,aS9,q]
theorem TmG.aS6 (h:TmG t) (hs:a8 t<=1000000000):ag1 t=if a8 t<=4096 then 0 else 4:=by
 unfold ag1;rw [h.ah1 hs,chk]
 grind
theorem aM1.sz {n:Nat} (h:aM1 u n g f) (hg:∀ y∈g,E5 y<=3):s6 f+1<=136 * 2 ^ n:=by
 have b1:aD8 3 1=67:=rfl
 induction h with
 | @eq n g x y h1 h2 =>
  have l1:=V4;have a1:=(J3.sz (M:=3) a_ h1 hg a_).1;have a2:=(J3.sz (M:=3) a_ h2 hg a_).1
  grind [D7]
 | @two n g k a b _ _ _ h1 h2=>grind [y8]
 | @q n g k s a _ hs _ h1 =>
  have hs':E5 s<=3:=(hs.up (by split<;>omega)).sz1
  grind [G6]
theorem cF6:FmW A0:=.mk _ _ _ _ aC0 b_ b_ b_ b_
mutual
def Tm.same:Tm->Tm->Bool
 | .mk k i t l,.mk k' i' t' l'=>k==k'&&i==i'&&Ty.same t t'&&Tm.A5 l l'
def Tm.A5:List Tm->List Tm->Bool
 | [],[]=>true
 | a::l,b::l'=>Tm.same a b&&Tm.A5 l l'
 | _,_=>false
end
theorem Tm.aw6 (a b:Tm):Tm.same a b=(a.kind==b.kind&&a.index==b.index&&Ty.same a.type b.type&&Tm.A5 a.args b.args):=by
 cases a;cases b;rfl
mutual
def Fm.same:Fm->Fm->Bool
 | .mk k t l a,.mk k' t' l' a'=>k==k'&&Ty.same t t'&&Tm.A5 l l'&&Fm.A5 a a'
def Fm.A5:List Fm->List Fm->Bool
 | [],[]=>true
 | a::l,b::l'=>Fm.same a b&&Fm.A5 l l'
 | _,_=>false
end
theorem Fm.aw6 (a b:Fm):Fm.same a b=(a.kind==b.kind&&Ty.same a.type b.type&&Tm.A5 a.a7 b.a7&&Fm.A5 a.args b.args):=by
 cases a;cases b;rfl
mutual
theorem Tm.U5:∀ a:Tm,Tm.same a a=true
 | .mk k i t l=>by simp [Tm.same,Ty.U5,Tm.ab7 l]
theorem Tm.ab7:∀ l:List Tm,Tm.A5 l l=true
 | []=>by simp [Tm.A5]
 | x::l=>by simp [Tm.A5,Tm.U5 x,Tm.ab7 l]
end
mutual
theorem Fm.U5:∀ a:Fm,Fm.same a a=true
 | .mk k t l a=>by simp [Fm.same,Ty.U5,Tm.ab7,Fm.ab7 a]
theorem Fm.ab7:∀ l:List Fm,Fm.A5 l l=true
 | []=>by simp [Fm.A5]
 | x::l=>by simp [Fm.A5,Fm.U5 x,Fm.ab7 l]
end
mutual
theorem Tm.N6:∀ {a b:Tm},Tm.same a b=true->a=b
 | .mk k i t l,.mk k' i' t' l',h=>by
  simp only [Tm.same,A3,L1] at h;rw [h.1.1.1,h.1.1.2,Ty.N6 h.1.2,Tm.ab8 h.2]
theorem Tm.ab8:∀ {a b:List Tm},Tm.A5 a b=true->a=b
 | [],[],_=>rfl
 | x::l,y::l',h=>by
  simp only [Tm.A5,A3] at h;rw [Tm.N6 h.1,Tm.ab8 h.2]
 | [],_::_,h=>by simp [Tm.A5] at h
 | _::_,[],h=>by simp [Tm.A5] at h
end
mutual
theorem Fm.N6:∀ {a b:Fm},Fm.same a b=true->a=b
 | .mk k t l a,.mk k' t' l' a',h=>by
  simp only [Fm.same,A3,L1] at h;rw [h.1.1.1,Ty.N6 h.1.1.2,Tm.ab8 h.1.2,Fm.ab8 h.2]
theorem Fm.ab8:∀ {a b:List Fm},Fm.A5 a b=true->a=b
 | [],[],_=>rfl
 | x::l,y::l',h=>by
  simp only [Fm.A5,A3] at h;rw [Fm.N6 h.1,Fm.ab8 h.2]
 | [],_::_,h=>by simp [Fm.A5] at h
 | _::_,[],h=>by simp [Fm.A5] at h
end
mutual
def Tm.af2 {α:Type} (F:Int->Int->α->α):Tm->Int->α->α
 | .mk k i _ l,b,s=>Tm.an9 F l (if k==2 then o9 b 1 else b) (if k==1 then F i b s else s)
def Tm.an9 {α:Type} (F:Int->Int->α->α):List Tm->Int->α->α
 | [],_,s=>s
 | t::l,b,s=>Tm.an9 F l b (Tm.af2 F t b s)
end
variable {α:Type}
theorem Tm.ca1 (F:Int->Int->α->α) (t:Tm) (b:Int) (s:α) :
  t.af2 F b s=Tm.an9 F t.args (if t.kind==2 then o9 b 1 else b) (if t.kind==1 then F t.index b s else s):=by cases t;rfl
theorem Tm.bH7 {F:Int->Int->α->α} {s:α}:Tm.an9 F [] b s=s:=by rw [Tm.an9]
theorem Tm.bv6 {F:Int->Int->α->α} {s:α}:Tm.an9 F (t::l) b s=Tm.an9 F l b (t.af2 F b s):=by rw [Tm.an9]
def ab1 (a i b n:Int):Int:=if K5 i b==a then o9 n 1 else n
def Tm.count (t:Tm) (a:Int):Int:=t.af2 (ab1 a) 0 0
def bm6 (i _b:Int) (s:Bool):Bool:=s&&decide (i<=536870912)
def Tm.dO2 (t:Tm):Bool:=t.af2 bm6 0 true
def I4:Tm:=.mk 0 0 (.mk 0 []) []
theorem aC2:TmW I4:=.mk _ _ _ _ aC0 b_ b_
def fa (f:Fm) (i:Nat):Fm:=f.args.getD i A0
def ft (f:Fm) (i:Nat):Tm:=f.a7.getD i I4
def ta (t:Tm) (i:Nat):Tm:=t.args.getD i I4
theorem ci0 {x:Tm} {i:Nat} (h:t.args[i]? = some x):ta t i=x:=by grind [ta]
def V5 (s t:Tm):Fm:=u6 (tm0 3 [tm0 3 [aM5,tm0 5 [s]],t]) (tm0 4 [])
theorem cB9 (hs:TmW s) (ht:TmW t):FmW (V5 s t):=ap5 (G9 (G9 aj5 (ad7 hs)) ht) ah9
def aq5 (f:Fm):Bool :=
 !(f.kind != (if f.kind==4 then 4 else 5))&&!(f.type.kind != 1)&&!((fa f 0).kind != (if f.kind==4 then 3 else 2))&&!((fa (fa f 0) 0).kind != 1)
def aZ5 (f:Fm):Tm:=ft (fa (fa f 0) 0) 0
def ad9 (f:Fm):Tm:=ta (aZ5 f) 1
def aA9 (f:Fm):Fm:=fa (fa f 0) 1
def aH4 (f:Fm):Bool:=!((aZ5 f).kind != 3)&&!decide ((ad9 f).count 0>0)&&Fm.same (fa (fa f 0) 0) (V5 (a9 0) (ad9 f))
def T8 (f:Fm):Bool:=aq5 f&&aH4 f
def aX1 (f:Fm):V:=if T8 f then .tup [.bool (f.kind==4),.agg (ad9 f).cells,.agg (aA9 f).cells,.bool true]
 else .tup [.bool false,.agg I4.cells,.agg A0.cells,.bool false]
structure Fl where
 c:Bool
 f:Bool
 d:Bool
def Fl.z:Fl:=⟨false,false,false⟩
def Fl.n (x:Fl):Int:=(if x.c then 1 else 0)+(if x.f then 2 else 0)+(if x.d then 4 else 0)
theorem Fl.and (x y:Fl):bt5 .u8 x.n y.n=(Fl.mk (x.c&&y.c) (x.f&&y.f) (x.d&&y.d)).n:=by
 obtain ⟨a,b,c⟩:=x;obtain ⟨d,e,f⟩:=y
 revert a b c d e f;decide
theorem Fl.or (x y:Fl):do6 .u8 x.n y.n=(Fl.mk (x.c||y.c) (x.f||y.f) (x.d||y.d)).n:=by
 obtain ⟨a,b,c⟩:=x;obtain ⟨d,e,f⟩:=y
 revert a b c d e f;decide
theorem Fl.ed2 (x:Fl):bt5 .u8 x.n 6=(Fl.mk false x.f x.d).n:=by have:=Fl.and x ⟨false,true,true⟩;simpa [Fl.n] using this
theorem Fl.ec9 (x:Fl):bt5 .u8 x.n 1=(Fl.mk x.c false false).n:=by have:=Fl.and x ⟨true,false,false⟩;simpa [Fl.n] using this
theorem Fl.ed0 (x:Fl):bt5 .u8 x.n 2=(Fl.mk false x.f false).n:=by have:=Fl.and x ⟨false,true,false⟩;simpa [Fl.n] using this
theorem Fl.ed1 (x:Fl):bt5 .u8 x.n 4=(Fl.mk false false x.d).n:=by have:=Fl.and x ⟨false,false,true⟩;simpa [Fl.n] using this
theorem Fl.or1 (x:Fl):do6 .u8 x.n 1=(Fl.mk true x.f x.d).n:=by have:=Fl.or x ⟨true,false,false⟩;simpa [Fl.n] using this
def flag (k:Int) (b:Bool) (is:List (Fl × List Fl)):Fl :=
 if k==1 then ⟨false,true,true⟩
 else if k==2||k==3 then
  ⟨(is.getD 1 (.z,[])).1.c||(k==2&&(is.getD 0 (.z,[])).1.c),(is.getD 0 (.z,[])).1.f&&(is.getD 1 (.z,[])).1.f,(is.getD 0 (.z,[])).1.d&&(is.getD 1 (.z,[])).1.d⟩
 else ⟨(is.getD 0 (.z,[])).1.c||k==5,false,b&&((is.getD 0 (.z,[])).2.getD 1 .z).d⟩
mutual
def Fm.info:Fm->Fl × List Fl
 | .mk k t l a=>(flag k (T8 (.mk k t l a)) (Fm.bx3 a),(Fm.bx3 a).map (·.1))
def Fm.bx3:List Fm->List (Fl × List Fl)
 | []=>[]
 | f::l=>f.info::Fm.bx3 l
end
def Fm.fl (f:Fm):Fl:=f.info.1
theorem Fm.co1 {x:Tm}:(u6 x y).fl=⟨false,true,true⟩:=by rfl
theorem Fm.dU8 (h:f.kind=1):f.fl=⟨false,true,true⟩:=by cases f;grind [Fm.kind,Fm.fl,Fm.info,flag]
variable {a b:Fm}
theorem Fm.dL0 (h:f.kind=2\/f.kind=3) (ha:f.args=[a,b]) :
  f.fl=⟨b.fl.c||(f.kind==2&&a.fl.c),a.fl.f&&b.fl.f,a.fl.d&&b.fl.d⟩:=by
 obtain ⟨k,t,l,ar⟩:=f
 grind [Fm.kind,Fm.args,Fm.fl,Fm.info,Fm.bx3,flag]
theorem Fm.dL1 (h:4<=f.kind) (ha:f.args=[a]) :
  f.fl=⟨a.fl.c||f.kind==5,false,T8 f&&(((Fm.bx3 a.args).map (fun p=>p.1)).getD 1 Fl.z).d⟩:=by
 simp only [Fm.kind,Fm.args] at h ha ⊢
 grind [Fm.fl,Fm.info,Fm.bx3,flag]
theorem Fm.dD8 (h:4<=f.kind) (ha:f.args=[a]) (hb:T8 f=false):f.fl=⟨a.fl.c||f.kind==5,false,false⟩:=by grind [Fm.dL1]
variable {y:Fm}
theorem Fm.dD7 {x:Fm} (h:4<=f.kind) (ha:f.args=[a]) (hb:T8 f=true) (hy:a.args=[x,y]):f.fl=⟨a.fl.c||f.kind==5,false,y.fl.d⟩:=by
 grind [Fm.dL1,Fm.bx3,Fm.fl]
theorem Fm.bR1 (h:k=2\/k=3):(o8 k a b).fl=⟨b.fl.c||(k==2&&a.fl.c),a.fl.f&&b.fl.f,a.fl.d&&b.fl.d⟩:=Fm.dL0 (f:=o8 k a b) h rfl
def Fm.has (f:Fm) (k:Int):Bool × Int:=if Q0 f != 0 then (false,Q0 f) else ((if k==1 then f.fl.c else if k==2 then f.fl.f else f.fl.d),0)
@[go_sem] def al3 (p:Bool × Int):V:=.tup [.bool p.1,.int .i64 p.2]
def aM3 (n:Nat):Res:=.mk n [] [] I4 []
def aW0:Res:=aM3 0
def aE5 (l:List Nat):Res:=.mk 0 l [] I4 []
def aV6 (l:List Res):Res:=.mk 0 [] l I4 []
def bQ5 (b:Tm) (e:List Res):Res:=.mk 0 [] [] b e
abbrev Out:=Option (Res × Nat × Bool)
abbrev Evl:=Nat->Tm->List Res->Out
def aa0 (E:Evl) (u:Nat) (f a:Res):Out:=E u f.body (f.env++[a])
def Y6 (E:Evl) (e:List Res):Nat->List Tm->Option (List Res × Nat × Bool)
 | u,[]=>some ([],u,false)
 | u,t::l =>
  match E u t e with
  | none=>none
  | some (_,u',true)=>some ([],u',true)
  | some (r,u',false) =>
   match Y6 E e u' l with
   | none=>none
   | some (l',u'',o)=>some (r::l',u'',o)
def ay5 (E:Evl) (s:Res):Nat->Nat->Nat->Res->Out
 | 0,_,u,r=>some (r,u,false)
 | n+1,k,u,r =>
  match aa0 E u s (aM3 k) with
  | none=>none
  | some (_,u',true)=>some (r,u',true)
  | some (f,u',false) =>
   match aa0 E u' f r with
   | none=>none
   | some (r',u'',true)=>some (r',u'',true)
   | some (r',u'',false)=>ay5 E s n (k+1) u'' r'
def aj1 (E:Evl) (s:Res) (l:List Nat):Nat->Nat->Res->Out
 | 0,u,r=>some (r,u,false)
 | i+1,u,r =>
  match aa0 E u s (aM3 (l.getD i 0)) with
  | none=>none
  | some (_,u',true)=>some (r,u',true)
  | some (f,u',false) =>
   match aa0 E u' f (aE5 (l.drop (i+1))) with
   | none=>none
   | some (_,u'',true)=>some (r,u'',true)
   | some (f',u'',false) =>
    match aa0 E u'' f' r with
    | none=>none
    | some (r',u3,true)=>some (r',u3,true)
    | some (r',u3,false)=>aj1 E s l i u3 r'
def ag8 (E:Evl) (k:Int) (u:Nat) (l:List Res):Out :=
 if k==3 then (match l with | [f,a]=>aa0 E u f a|_=>none)
 else if k==5 then (match l with | [a]=>some (aM3 (a.num+1),u,false)|_=>none)
 else if k==6 then (match l with | [z,s,n]=>ay5 E s n.num 0 u z|_=>none)
 else if k==8 then (match l with | [a,b]=>some (aE5 (a.num::b.list),u,false)|_=>none)
 else if k==9 then (match l with | [z,s,n]=>aj1 E s n.list n.list.length u z|_=>none)
 else if k==10 then some (aV6 l,u,false)
 else if k==11 then (match l with | [a]=>(match a.pair with | [x,_]=>some (x,u,false)|_=>none)|_=>none)
 else if k==12 then (match l with | [a]=>(match a.pair with | [_,y]=>some (y,u,false)|_=>none)|_=>none)
 else some (aW0,u,false)
def ay6 (most:Nat) (E:Evl):Evl:=fun u t e =>
 if u=most then some (aW0,u,true)
 else if t.kind==1 then
  (if 0<=(e.length:Int) - 1 - t.index then (e[((e.length:Int) - 1 - t.index).toNat]?).map fun r=>(r,u+1,false) else none)
 else if t.kind==2 then (match t.args with | [b]=>some (bQ5 b e,u+1,false)|_=>none)
 else match Y6 E e (u+1) t.args with
  | none=>none
  | some (_,u',true)=>some (aW0,u',true)
  | some (l,u',false)=>ag8 E t.kind u' l
def ev (most:Nat):Nat->Evl
 | 0=>fun _ _ _=>none
 | f+1=>ay6 most (ev most f)
theorem bq3 (most f:Nat):ev most (f+1)=ay6 most (ev most f):=rfl
/- scope.Lift. -/
mutual
def Tm.sl (b:Int):Tm->Int->Tm
 | .mk k i t l,fr=>if b==0 then .mk k i t l else if k==1 then .mk k (if decide (i>=fr) then o9 i b else i) t l
  else .mk k i t (Tm.slL b l (if k==2 then o9 fr 1 else fr))
def Tm.slL (b:Int):List Tm->Int->List Tm
 | [],_=>[]
 | t::l,fr=>t.sl b fr::Tm.slL b l fr
end
/- scope.put. -/
/- scope.uses. -/
def evB (k:Int) (b:Int):Int:=if decide (k>=4)&&decide (k<=7) then o9 b 1 else b
/- matrix.cF9. -/
mutual
def fdp:Fm->Nat
 | .mk _ _ _ a=>bQ8 a+1
def bQ8:List Fm->Nat
 | []=>0
 | f::l=>max (fdp f) (bQ8 l)
end
end GoAbs
set_option maxRecDepth 8000
namespace GoAbs
open Go
variable {k d:Int}
theorem bQ6 (h0:0<=d) (h1:d<=1000000):evB k d=d+u9 k:=by
 grind [X8,evB,u9,w8]
theorem bQ9 (f:Fm):1<=fdp f:=by cases f;rw [fdp];omega
variable {a:Fm}
theorem bR0 {b:Fm}:fdp (o8 k a b)=max (fdp a) (fdp b)+1:=by simp [o8,fdp,bQ8]
variable {y:Tm}
theorem dt8 {x:Tm}:fdp (u6 x y)=1:=by simp [u6,fdp,bQ8]
variable {M:Int}
theorem bv8 {b:Fm} (h1:a.least M=true) (h2:b.least M=true):(o8 k a b).least M=true:=by
 grind [o8,Fm.least,Tm.D5,Fm.G1,Fm.D5]
theorem bl4 {a b:Int}:∀ (l:List Tm) (n:Nat),(∀ y∈l,∀ m:Nat,m+a8 y<=1000000->y.af2 (ab1 a) b (m:Int)=((m+F6 y (a+b):Nat):Int))->n+F7 l<=1000000 ->
  Tm.an9 (ab1 a) l b (n:Int)=((n+O9 l (a+b):Nat):Int)
 | [],n,_,_=>by rfl
 | t::l,n,h,hb=>by
  rw [F7] at hb;have:=aF3 t (a+b);rw [Tm.bv6,h t b_ n a_,bl4 l _ (fun y hy=>h y (by simp [hy])) a_,O9,aL8]
variable {b:Int}
theorem aN2 (h0:0<=b) (h1:b<=1000000):(if k==2 then o9 b 1 else b)=b+m9 k:=by
 grind [m9,w8]
mutual
theorem Z0 {m m':Int} (h:m<=m'):∀ t:Tm,t.least m=true->t.least m'=true
 | .mk k i ty l,e=>by
  rw [Tm.least,A3] at e ⊢;exact ⟨by have:=ah5 e.1;simp;omega,bm1 h l e.2⟩
theorem bm1 {m m':Int} (h:m<=m'):∀ l:List Tm,Tm.L4 m l=true->Tm.L4 m' l=true
 | [],_=>by rw [Tm.L4]
 | t::l,e=>by
  rw [Tm.L4,A3] at e ⊢;exact ⟨Z0 h t e.1,bm1 h l e.2⟩
end
theorem TmG.ca2:∀ (k:Nat) {t:Tm},TmG t->a8 t<=k->t.least 1000000000=true->∀ a b:Int,0<=a->0<=b->a+b+k<=1000000 ->
  ∀ m:Nat,m+a8 t<=1000000->t.af2 (ab1 a) b (m:Int)=((m+F6 t (a+b):Nat):Int)
 | 0,t,h,hn,_,_,_,_,_,_,_,_=>by grind [N8]
 | k+1,t,h,hn,hl,a,b,ha,hb,hab,m,hm=>by
  revert hn hl hm
  refine h.au1 (p:=fun t=>a8 t<=k+1->t.least 1000000000=true->m+a8 t<=1000000->t.af2 (ab1 a) b (m:Int)=((m+F6 t (a+b):Nat):Int)) ?_ ?_
  ·intro i hi _ hl _
   rw [a9,Tm.I6] at hl;have hi2:i<=1000000000:=by rw [A3] at hl;exact ah5 hl.1
   grind [a9,Tm.af2,Tm.bH7,F6,ab1,P9,w8]
  ·intro kk ty l hk _ hg _ hn hl hm
   rw [a8] at hn hm;rw [Tm.least,A3] at hl;have hr:=I8 kk;rw [Tm.af2,F6,hk,aN2 hb a_];have:=bl4 (a:=a) (b:=b+m9 kk) l m (fun y hy m' hm'=>by
    have hsy:=I9 hy;exact TmG.ca2 k (hg y hy) a_ (Tm.G7.1 hl.2 y hy) a _ ha a_ a_ m' hm') a_
   grind
variable {t:Tm}
theorem TmG.ap4 (h:TmG t) (hs:a8 t<=100000) (hl:t.least 1000000000=true) {a:Int} (h0:0<=a) (h1:a<=100000):t.count a=(F6 t a:Int):=by
 unfold Tm.count;have:=TmG.ca2 (a8 t) h (w7 _) hl a 0 h0 a_ a_ 0 a_;simpa using this
theorem aQ1 {x:Int}:∀ {l:List Tm},(∀ y∈l,F6 y x=0)->O9 l x=0
 | [],_=>rfl
 | y::l,h=>by rw [O9,h y b_,aQ1 (fun z hz=>h z (by simp [hz]))]
theorem TmG.dl2:∀ (k:Nat) {t:Tm},TmG t->a8 t<=k->t.least 536870912=true->∀ b:Int,0<=b->b+k<=1000000->F6 (t.up 1 b) b=0
 | 0,t,h,hn,_,_,_,_=>by grind [N8]
 | k+1,t,h,hn,hl,b,hb,hab=>by
  revert hn hl
  refine h.au1 (p:=fun t=>a8 t<=k+1->t.least 536870912=true->F6 (t.up 1 b) b=0) ?_ ?_
  ·intro i hi _ hl
   rw [a9,Tm.I6] at hl;have hi2:i<=536870912:=by rw [A3] at hl;exact ah5 hl.1
   grind [a9,Tm.up,F6,w8]
  ·intro kk ty l hk _ hg _ hn hl
   rw [a8] at hn;rw [Tm.least,A3] at hl;have hr:=I8 kk;have e:o9 b (m9 kk)=b+m9 kk:=w8 a_ a_ a_ a_;rw [Tm.up,Tm.Y4,F6,hk,e];refine aQ1 ?_;intro x hx;obtain ⟨y,hy,rfl⟩:=G5.1 hx;exact TmG.dl2 k (hg y hy) (by have:=I9 hy;omega) (Tm.G7.1 hl.2 y hy) _ a_ a_
def ac5 (all:Bool) (x:Tm) (f:Fm):Fm:=fmQ (if all then 4 else 5) c8 (o8 (if all then 3 else 2) (V5 (a9 0) x) f)
variable {f:Fm}
theorem bY1 {all:Bool} {x:Tm} (hx:x.count 0=0):T8 (ac5 all x f)=true:=by
 have h1:aq5 (ac5 all x f)=true:=by cases all<;>rfl
 have h2:ad9 (ac5 all x f)=x:=rfl;have h3:(aZ5 (ac5 all x f)).kind=3:=rfl;have h4:fa (fa (ac5 all x f) 0) 0=V5 (a9 0) x:=rfl
 grind [T8,aH4,Fm.U5]
theorem bO8 {all:Bool} {x:Tm} (hx:x.count 0=0):(ac5 all x f).fl.d=f.fl.d:=by
 have hk:4<=(ac5 all x f).kind:=by cases all<;>simp [ac5,fmQ,Fm.kind]
 rw [Fm.dD7 hk rfl (bY1 hx) rfl]
variable {u:Bool} {s:Tm}
theorem dx2 (hs:TmG s) (ht:TmG t):FmG u (V5 s t):=.eq (.t2 ar3 rfl (.t2 ar3 rfl dj7 (.t1 ar5 rfl hs)) ht) (.t0 ar4 rfl)
theorem bx7:s6 (V5 s t)=a8 s+a8 t+21:=by grind [V5,D7,ad8,bi9,bi8,bA9]
theorem cy4 {all:Bool} {x:Tm}:s6 (ac5 all x f)=a8 x+s6 f+24:=by grind [ac5,G6,y8,bx7,aK5]
theorem cl0 {all:Bool} {x:Tm} (hx:TmG x) (hf:FmG u f):FmG u (ac5 all x f) :=
 .q (by cases all<;>simp) .nat (.two (by cases all<;>simp) (dx2 cv7 hx) hf)
inductive bj9:Nat->List Ty->Fm->Prop
 | eq {n:Nat} {g:List Ty} {x y:Tm}:J3 1 g c8 x->J3 1 g c8 y->bj9 n g (u6 x y)
 | two {n:Nat} {g:List Ty} {k:Int} {a b:Fm} (hk:k=2\/k=3):bj9 n g a->bj9 n g b->bj9 (n+1) g (o8 k a b)
 | bnd {n:Nat} {g:List Ty} {all:Bool} {x:Tm} {a:Fm}:J3 1 g c8 x->bj9 n (g++[c8]) a->bj9 (n+1) g (ac5 all (x.up 1 0) a)
variable {g:List Ty}
theorem J3.small {x:Tm} (h:J3 1 g c8 x) (hg:∀ y∈g,N0 1 y) (hb:g.length<=10000):TmG x/\a8 x<=67/\x.least 536870912=true:=by
 have b1:aD8 3 1=67:=rfl;have g3:∀ y∈g,E5 y<=3:=fun y hy=>(hg y hy).sz1;have l1:=V4;refine ⟨h.G (fun y hy=>(hg y hy).G a_) .nat,?_,?_⟩
 ·have:=(J3.sz (M:=3) a_ h g3 a_).1;omega
 ·have:=h.least (M:=3) (m:=536870912) a_ a_ g3 a_ a_;simpa using this
variable {s:Ty}
theorem cU2 (hg:∀ y∈g,N0 1 y) (hs:N0 1 s):∀ y∈g++[s],N0 1 y:=by
 grind
theorem J3.up1 {x:Tm} (h:J3 1 g c8 x) (hg:∀ y∈g,N0 1 y) (hb:g.length<=10000) :
  TmG (x.up 1 0)/\a8 (x.up 1 0)<=67/\(x.up 1 0).count 0=0:=by
 obtain ⟨h1,h2,h3⟩:=h.small hg hb;have hG:=TmG.up (b:=1) a_ a_ 67 h1 h2 h3 0;refine ⟨hG,by rw [aq9];exact h2,?_⟩;have hl:(x.up 1 0).least 536870912=true:=by
  have:=h.least (M:=3) (m:=536870911) a_ a_ (fun y hy=>(hg y hy).sz1) (by rw [V4];omega) (by rw [V4];omega);have key:∀ (n:Nat) {t:Tm},a8 t<=n->t.least 536870911=true->∀ fr:Int,TmG t->(t.up 1 fr).least 536870912=true:=by
   intro n
   induction n with
   | zero=>grind [N8]
   | succ n ih =>
    intro t hn hl fr hG;cases t with|mk k i ty l =>
    rw [a8] at hn;rw [Tm.least,A3] at hl;rw [Tm.up,Tm.Y4];have h0:0<=i:=by cases hG<;>omega
    refine am7 ?_ ?_
    ·grind [w8]
    ·intro z hz
     obtain ⟨y,hy,rfl⟩:=G5.1 hz;refine ih (by have:=I9 hy;omega) (Tm.G7.1 hl.2 y hy) _ ?_;cases hG<;>grind
  exact key _ (w7 _) (by simpa using this) 0 h1
 rw [hG.ap4 (by rw [aq9];omega) (Z0 a_ _ hl) a_ a_,TmG.dl2 67 h1 h2 h3 0 a_ a_];rfl
theorem bj9.all {n:Nat} {g:List Ty} {f:Fm} (h:bj9 n g f) (hg:∀ y∈g,N0 1 y) (hb:g.length+n<=10000) :
  FmG true f/\s6 f+1<=136 * 2 ^ n/\f.fl.d=true:=by
 induction h with
 | @eq n g x y h1 h2 =>
  obtain ⟨a1,a2,_⟩:=h1.small hg a_;obtain ⟨b1,b2,_⟩:=h2.small hg a_;have:=Nat.one_le_two_pow (n:=n);exact ⟨.eq a1 b1,by rw [D7];omega,by rw [Fm.co1]⟩
 | @two n g k a b hk _ _ h1 h2 =>
  obtain ⟨a1,a2,a3⟩:=h1 hg a_;obtain ⟨b1,b2,b3⟩:=h2 hg a_;exact ⟨.two hk a1 b1,by rw [y8,Nat.pow_succ];omega,by rw [Fm.bR1 hk,a3,b3];rfl⟩
 | @bnd n g all x a hx _ h1 =>
  obtain ⟨c1,c2,c3⟩:=hx.up1 hg a_;obtain ⟨a1,a2,a3⟩:=h1 (cU2 hg .nat) (by simp;omega);have:=Nat.one_le_two_pow (n:=n);exact ⟨cl0 c1 a1,by rw [cy4,Nat.pow_succ];omega,by rw [bO8 c3,a3]⟩
theorem Fm.aT0 (h:f.J4=true):formed f.kind f.type f.a7.length f.args.length=true/\(∀ x∈f.a7,x.J4=true)/\∀ x∈f.args,x.J4=true:=by
 grind [Fm.aq6]
theorem Fm.bI6 (h:f.J4=true):f.kind=1\/f.kind=2\/f.kind=3\/f.kind=4\/f.kind=5\/f.kind=6\/f.kind=7:=by
 grind [Fm.aT0,formed,ap7]
theorem Fm.aO9 (h:f.J4=true) (hk:f.kind=2\/f.kind=3):∃ a b,f.args=[a,b]/\a.J4=true/\b.J4=true:=by
 obtain ⟨h1,_,h3⟩:=Fm.aT0 h;have hl:f.args.length=2:=by
  unfold formed ap7 at h1;rcases hk with hk|hk<;>rw [hk] at h1<;>simp at h1<;>omega
 obtain ⟨a,b,e⟩:=cO0 hl
 grind
theorem Fm.bw6 (h:f.J4=true) (hk:f.kind=4\/f.kind=5\/f.kind=6\/f.kind=7):∃ a,f.args=[a]/\a.J4=true:=by
 obtain ⟨h1,_,h3⟩:=Fm.aT0 h;have hl:f.args.length=1:=by
  unfold formed ap7 at h1;rcases hk with hk|hk|hk|hk<;>rw [hk] at h1<;>simp at h1<;>omega
 obtain ⟨a,e⟩:=dx4 hl
 grind
theorem Fm.cc2 (h:f.J4=true) (hk:f.kind=1):∃ u v,f.a7=[u,v]/\u.J4=true/\v.J4=true:=by
 obtain ⟨h1,h3,_⟩:=Fm.aT0 h;have hl:f.a7.length=2:=by
  unfold formed ap7 at h1;rw [hk] at h1;simp at h1;omega
 obtain ⟨a,b,e⟩:=cO0 hl
 grind
theorem Tm.cc1 (h:t.J4=true) (hk:t.kind=3):∃ p q,t.args=[p,q]/\p.J4=true/\q.J4=true:=by
 rw [Tm.aq6] at h;simp only [A3,ad2] at h;have hl:t.args.length=2:=by
  have h1:=h.1;unfold L5 at h1;rw [hk,ar3] at h1;simp at h1;omega
 obtain ⟨a,b,e⟩:=cO0 hl
 grind
theorem cV2 (hk:f.kind=6\/f.kind=7):T8 f=false:=by
 grind [T8,aq5]
theorem cV4 (h:(f.type.kind != 1)=true):T8 f=false:=by
 grind [T8,aq5]
theorem dH7 (hk:f.kind=4) (ha:f.args=[a]) (h:(a.kind != 3)=true):T8 f=false:=by
 grind [T8,aq5,fa]
theorem dH8 (hk:f.kind=5) (ha:f.args=[a]) (h:(a.kind != 2)=true):T8 f=false:=by
 grind [T8,aq5,fa]
variable {y:Fm}
theorem dC3 {x:Fm} (ha:f.args=[a]) (hx:a.args=[x,y]) (h:(x.kind != 1)=true):T8 f=false:=by
 grind [T8,aq5,fa]
variable {u v:Tm}
theorem cy7 {x:Fm} (ha:f.args=[a]) (hx:a.args=[x,y]) (hu:x.a7=[u,v]):aZ5 f=u/\ad9 f=ta u 1/\aA9 f=y/\fa (fa f 0) 0=x:=by
 grind [ad9,aA9,aZ5,fa,ft]
theorem dC2 {x:Fm} (ha:f.args=[a]) (hx:a.args=[x,y]) (hu:x.a7=[u,v]) (h:(u.kind != 3)=true):T8 f=false:=by
 obtain ⟨h1,h2,h3,h4⟩:=cy7 ha hx hu
 grind [T8,aH4]
variable {p:Tm}
theorem dC0 {x:Fm} {q:Tm} (ha:f.args=[a]) (hx:a.args=[x,y]) (hu:x.a7=[u,v]) (hq:u.args=[p,q]) (h:decide (q.count 0>0)=true):T8 f=false:=by
 obtain ⟨h1,h2,h3,h4⟩:=cy7 ha hx hu
 grind [ta,T8,aH4]
theorem dC1 {x:Fm} {q:Tm} (ha:f.args=[a]) (hx:a.args=[x,y]) (hu:x.a7=[u,v]) (hq:u.args=[p,q]) (h:Fm.same x (V5 (a9 0) q)=false):T8 f=false:=by
 obtain ⟨h1,h2,h3,h4⟩:=cy7 ha hx hu
 grind [ta,T8,aH4]
theorem cy8 {x:Fm} {q:Tm} (hk:(f.kind=4/\(a.kind != 3)=false)\/(f.kind=5/\(a.kind != 2)=false)) (ht:(f.type.kind != 1)=false) (ha:f.args=[a]) (hx:a.args=[x,y])
  (hx1:(x.kind != 1)=false) (hu:x.a7=[u,v]) (hu1:(u.kind != 3)=false) (hq:u.args=[p,q]) (hc:decide (q.count 0>0)=false) (h:Fm.same x (V5 (a9 0) q)=true) :
  T8 f=true/\ad9 f=q/\aA9 f=y:=by
 obtain ⟨h1,h2,h3,h4⟩:=cy7 ha hx hu
 grind [ta,fa,T8,aH4,aq5]
mutual
def Fm.univ:Fm->List Ty × Fm
 | .mk k t l a=>if k==4 then (match Fm.bM1 a with|x::_=>(t::x.1,x.2) | []=>([],.mk k t l a)) else ([],.mk k t l a)
def Fm.bM1:List Fm->List (List Ty × Fm)
 | []=>[]
 | f::l=>f.univ::Fm.bM1 l
end
theorem Fm.bU5 (hk:(f.kind==4)=true) (ha:f.args=[a]):f.univ=(f.type::a.univ.1,a.univ.2):=by
 obtain ⟨k,t,l,ar⟩:=f;simp only [Fm.kind,Fm.args] at hk ha;subst ha;rw [Fm.univ,Fm.bM1,Fm.bM1,hk];rfl
theorem Fm.bU6 (hk:(f.kind==4)=false):f.univ=([],f):=by
 obtain ⟨k,t,l,ar⟩:=f
 grind [Fm.kind,Fm.univ]
@[go_sem] def ej8 (p:(List Ty × Ty) × (Fm × Bool)):V:=.tup [.sl .any (p.1.1.map Ty.cells),.agg p.1.2.cells,.agg p.2.1.cells,.bool p.2.2]
theorem Fm.bc8 (h:(Q0 f != 0)=false):f.J4=true:=by
 have h0:Q0 f=0:=by simpa using h
 have:=Fm.dg8 h0;unfold Fm.J4;cases hn:f.nodes<;>grind
theorem bI5:∀ {l:List Fm} {x:Fm},x∈l->s6 x<=av1 l
 | y::l,x,h=>by
  rw [av1];rcases D9.1 h with rfl|h
  ·omega
  ·have:=bI5 h;omega
theorem am1 {x:Fm} (h:x∈f.args):s6 x<s6 f:=by
 obtain ⟨k,t,l,a⟩:=f;rw [s6];have:=bI5 (show x∈a from h);omega
theorem cV1 (ha:f.args=[a]) (ga:a.J4=true) (h:T8 f=true):∃ x y,a.args=[x,y]/\aA9 f=y/\y.J4=true:=by
 grind [T8,aq5,fa,Fm.aO9,aA9]
theorem dc1:(Fl.mk false true true).n=6:=rfl
attribute [go_sem] Fl.and Fl.or Fl.ed2 Fl.ec9 Fl.ed0 Fl.ed1 Fl.or1 aW4 aR2 aG6 J6
theorem dk9:∀ f:Fm,f.univ.1.length<=s6 f:=by
 intro f
 induction f using Fm.ind with|h f ih=>?_
 obtain ⟨k,t,l,a⟩:=f;rw [Fm.univ,s6];cases k==4 with
 | false=>simp
 | true =>
  match a,ih with
  | [],_=>simp [Fm.bM1]
  | x::a,ih =>
   grind [Fm.args,av1,Fm.bM1]
theorem cQ7:∀ f:Fm,FmW f->f.J4=true->FmW f.univ.2/\f.univ.2.J4=true/\∀ t∈f.univ.1,TyW t:=by
 intro f
 induction f using Fm.ind with|h f ih=>?_
 intro hf hg;cases hk:(f.kind==4) with
 | false=>grind [Fm.bU6]
 | true =>
  obtain ⟨a,ha,ga⟩:=Fm.bw6 hg (.inl (by simpa using hk));have hm:a∈f.args:=by rw [ha];simp
  obtain ⟨h1,h2,h3⟩:=ih a hm (hf.arg hm) ga;rw [Fm.bU5 hk ha];refine ⟨h1,h2,?_⟩;intro t ht;rcases D9.1 ht with rfl|ht
  ·exact hf.ty
  ·exact h3 t ht
@[go_sem] def ei3 (p:Tm × Int):V:=.tup [.agg p.1.cells,.int .i64 p.2]
theorem TmG.szW (h:TmG t) (hs:a8 t<=1000000000):t.szW=(a8 t:Int):=Tm.aa2 _ _ (h.ah1 hs)
theorem TmG.am0 (h:TmG t) (hs:a8 t<=4096):ag1 t=0:=by rw [h.aS6 a_,B8 hs]
theorem FmG.am0 {u:Bool} (h:FmG u f) (hs:s6 f<=4096):Q0 f=0:=by rw [h.aS6 a_,B8 hs]
def aN1 (l:List Ty) (f:Fm):Fm:=l.foldr (fun t f=>fmQ 4 t f) f
theorem dH0 {u:Bool} {l:List Ty} (hl:∀ t∈l,TyG t) (hf:FmG u f):FmG u (aN1 l f):=by
 induction l with
 | nil=>exact hf
 | cons t l ih=>exact .q (.inl rfl) (hl t b_) (ih (fun x hx=>hl x (by simp [hx])))
theorem dn4 {l:List Ty}:s6 (aN1 l f)=s6 f+l.length:=by
 induction l<;>grind [aN1,G6]
inductive P5 (Q:Ty->Prop):Int->Ty->List Ty->Ty->Prop
 | app {ty a b:Ty}:P5 Q 3 ty [x9 a b,a] b
 | zero {ty:Ty}:P5 Q 4 ty [] c8
 | succ {ty:Ty}:P5 Q 5 ty [c8] c8
 | V8 {t:Ty}:P5 Q 6 t [t,x9 c8 (x9 t t),c8] t
 | nil {ty:Ty}:P5 Q 7 ty [] r5
 | cons {ty:Ty}:P5 Q 8 ty [c8,r5] r5
 | fold {t:Ty}:P5 Q 9 t [t,x9 c8 (x9 r5 (x9 t t)),r5] t
 | pair {ty a b:Ty}:Q (B6 a b)->P5 Q 10 ty [a,b] (B6 a b)
 | fst {ty a b:Ty}:P5 Q 11 ty [B6 a b] a
 | snd {ty a b:Ty}:P5 Q 12 ty [B6 a b] b
 | unit {ty:Ty}:P5 Q 13 ty [] O7
inductive l7 (Q:Ty->Prop):List Ty->Tm->Ty->Prop
 | var {g:List Ty} {i:Nat} {t:Ty} (hi:i<g.length) (h:g[g.length - 1 - i]? = some t):l7 Q g (a9 i) t
 | lam {g:List Ty} {a b:Ty} {t:Tm}:Q (x9 a b)->l7 Q (g++[a]) t b->l7 Q g (tmT 2 a [t]) (x9 a b)
 | n0 {g:List Ty} {k:Int} {ty s:Ty}:P5 Q k ty [] s->l7 Q g (tmT k ty []) s
 | n1 {g:List Ty} {k:Int} {ty s a:Ty} {x:Tm}:P5 Q k ty [a] s->l7 Q g x a->l7 Q g (tmT k ty [x]) s
 | n2 {g:List Ty} {k:Int} {ty s a b:Ty} {x y:Tm}:P5 Q k ty [a,b] s->l7 Q g x a->l7 Q g y b->l7 Q g (tmT k ty [x,y]) s
 | n3 {g:List Ty} {k:Int} {ty s a b c:Ty} {x y z:Tm}:P5 Q k ty [a,b,c] s->l7 Q g x a->l7 Q g y b->l7 Q g z c->l7 Q g (tmT k ty [x,y,z]) s
variable {a b:Ty}
theorem TyG.cD4 (ha:TyF a) (hb:TyF b) (h:E5 a+E5 b<=63):TyG (B6 a b):=⟨.pair ha hb,by rw [S4];omega⟩
theorem TyG.bE3 (ha:TyF a) (hb:TyF b) (h:E5 a+E5 b<=63):TyG (x9 a b):=⟨.func ha hb,by rw [M5];omega⟩
theorem dZ6:(g++[a])[(g++[a]).length - 1 - 0]? = some a:=by simp
variable {Q:Ty->Prop}
theorem l7.v0:l7 Q (g++[a]) (a9 0) a:=.var (i:=0) b_ dZ6
theorem l7.v1:l7 Q (g++[a]++[b]) (a9 1) a:=.var (i:=1) b_ (by
 grind)
theorem l7.bx6 (hb:TyG (x9 c8 b)) (h:l7 TyG (g++[c8]) t b):l7 TyG g (am5 t) (x9 c8 b):=.lam hb h
theorem tNN:TyG (x9 c8 c8):=.bE3 .nat .nat (by rw [V4];omega)
theorem dk1:TyG (x9 c8 (x9 c8 c8)):=.bE3 .nat tNN.1 (by rw [M5,V4];omega)
theorem l7.num:∀ n,l7 Q g (G3 n) c8
 | 0=>.n0 (ty:=.mk 0 []) .zero
 | n+1=>.n1 (ty:=.mk 0 []) .succ (l7.num n)
theorem l7.plus {g:List Ty}:l7 TyG g aL3 (x9 c8 (x9 c8 c8)) :=
 .bx6 dk1 (.bx6 tNN (.n3 .V8 .v1 (.bx6 dk1 (.bx6 tNN (.n1 (ty:=.mk 0 []) .succ .v0))) .v0))
theorem l7.pred:l7 TyG g aF0 (x9 c8 c8) :=
 .bx6 tNN (.n3 .V8 (.n0 (ty:=.mk 0 []) .zero) (.bx6 dk1 (.bx6 tNN .v1)) .v0)
theorem l7.sub {g:List Ty}:l7 TyG g aM5 (x9 c8 (x9 c8 c8)) :=
 .bx6 dk1 (.bx6 tNN (.n3 .V8 .v1 (.bx6 dk1 (.bx6 tNN (.n2 (ty:=.mk 0 []) .app .pred .v0))) .v0))
theorem J3.ty {n:Nat} {g:List Ty} {t:Ty} {x:Tm} (h:J3 n g t x):(∀ y∈g,TyF y/\E5 y<=20)->TyF t/\E5 t<=20->l7 TyG g x t:=by
 have app:∀ {g l:List Ty},(∀ y∈g,TyF y/\E5 y<=20)->(∀ y∈l,TyF y/\E5 y<=20)->∀ y∈g++l,TyF y/\E5 y<=20:=by
  intro g l h1 h2 y hy;rcases Q8.1 hy with hy|hy
  ·exact h1 y hy
  ·exact h2 y hy
 have nn:TyF c8/\E5 c8<=20:=⟨.nat,by rw [V4];omega⟩;have ll:TyF r5/\E5 r5<=20:=⟨.list,by rw [ax4];omega⟩;have l1:=V4
 induction h with
 | var hi h=>exact fun _ _=>.var hi h
 | @app n g t s b x hs _ _ h1 h2 =>
  intro hg ht;have hs':TyF s/\E5 s<=20:=⟨hs.F,by have:=hs.sz0;omega⟩;exact .n2 (ty:=.mk 0 []) .app (.lam (.bE3 hs'.1 ht.1 a_) (h1 (app hg (by simp [hs'])) ht)) (h2 hg hs')
 | @fst n g t s x y hs _ _ h1 h2 =>
  intro hg ht;have hs':TyF s/\E5 s<=20:=⟨hs.F,by have:=hs.sz0;omega⟩;exact .n1 (ty:=.mk 0 []) .fst (.n2 (ty:=.mk 0 []) (.pair (.cD4 ht.1 hs'.1 a_)) (h1 hg ht) (h2 hg hs'))
 | @snd n g t s x y hs _ _ h1 h2 =>
  intro hg ht;have hs':TyF s/\E5 s<=20:=⟨hs.F,by have:=hs.sz0;omega⟩;exact .n1 (ty:=.mk 0 []) .snd (.n2 (ty:=.mk 0 []) (.pair (.cD4 hs'.1 ht.1 a_)) (h1 hg hs') (h2 hg ht))
 | @V8 n g t b f k hk _ _ h1 h2 =>
  intro hg ht;have e:g++[c8,t]=g++[c8]++[t]:=by simp
  have hf:=h1 (app hg (by simp [nn,ht])) ht;rw [e] at hf;have tt:TyG (x9 t t):=.bE3 ht.1 ht.1 a_;exact .n3 .V8 (h2 hg ht) (.lam (.bE3 .nat tt.1 (by rw [M5];omega)) (.lam tt hf)) (.num k)
 | @fold n g t b f x _ _ _ h1 h2 h3 =>
  intro hg ht;have e:g++[c8,r5,t]=g++[c8]++[r5]++[t]:=by simp
  have hf:=h1 (app hg (by simp [nn,ll,ht])) ht;rw [e] at hf;have tt:TyG (x9 t t):=.bE3 ht.1 ht.1 a_;have lt:TyG (x9 r5 (x9 t t)):=.bE3 .list tt.1 (by rw [M5];omega);exact .n3 .fold (h2 hg ht) (.lam (.bE3 .nat lt.1 (by grind [M5])) (.lam lt (.lam tt hf))) (h3 hg ll)
 | @fapp n g t s x i hi h _ h1 =>
  intro hg ht;have hs:=hg _ (Q7 h);have hs':TyF s/\E5 s<=20:=by
   obtain ⟨h1,h2⟩:=hs;rw [M5] at h2;cases h1 with
   | func ha hb=>grind
  exact .n2 (ty:=.mk 0 []) .app (.var hi h) (h1 hg hs')
 | succ _ h1=>exact fun hg _=>.n1 (ty:=.mk 0 []) .succ (h1 hg nn)
 | plus _ _ h1 h2=>exact fun hg _=>.n2 (ty:=.mk 0 []) .app (.n2 (ty:=.mk 0 []) .app .plus (h1 hg nn)) (h2 hg nn)
 | sub _ _ h1 h2=>exact fun hg _=>.n2 (ty:=.mk 0 []) .app (.n2 (ty:=.mk 0 []) .app .sub (h1 hg nn)) (h2 hg nn)
 | num=>exact fun _ _=>.num _
 | cons _ _ h1 h2=>exact fun hg _=>.n2 (ty:=.mk 0 []) .cons (h1 hg nn) (h2 hg ll)
 | nil=>exact fun _ _=>.n0 (ty:=.mk 0 []) .nil
 | @pair n g a b x y _ _ h1 h2 =>
  intro hg ht;obtain ⟨ht,hz⟩:=ht;rw [S4] at hz;cases ht with
  | pair ha hb=>exact .n2 (ty:=.mk 0 []) (.pair (.cD4 ha hb a_)) (h1 hg ⟨ha,a_⟩) (h2 hg ⟨hb,a_⟩)
 | @lam n g a b x _ h1 =>
  intro hg ht;obtain ⟨ht,hz⟩:=ht;rw [M5] at hz;cases ht with
  | func ha hb=>exact .lam (.bE3 ha hb a_) (h1 (app hg (by simp [ha];omega)) ⟨hb,a_⟩)
 | unit=>exact fun _ _=>.n0 (ty:=.mk 0 []) .unit
theorem l7.W (h:l7 TyG g t s):(∀ y∈g,TyW y)->TmW t->TyW s/\TyW t.type:=by
 induction h with
 | var hi h=>exact fun hg _=>⟨hg _ (Q7 h),aC0⟩
 | lam ht _ _=>exact fun _ hw=>⟨ht.1.W,hw.ty⟩
 | n0 hN=>intro hg hw;refine ⟨?_,hw.ty⟩;cases hN<;>first|exact J9|exact Y0|exact br5
 | n1 hN _ h1 =>
  intro hg hw;have w1:=(h1 hg (hw.arg (by simp [tmT,Tm.args]))).1;refine ⟨?_,hw.ty⟩;cases hN with
  | succ=>exact J9
  | fst=>exact w1.arg (by simp [B6,Ty.args])
  | snd=>exact w1.arg (by simp [B6,Ty.args])
 | n2 hN _ _ h1 h2 =>
  intro hg hw;have w1:=(h1 hg (hw.arg (by simp [tmT,Tm.args]))).1;refine ⟨?_,hw.ty⟩;cases hN with
  | app=>exact w1.arg (by simp [x9,Ty.args])
  | cons=>exact Y0
  | pair hp=>exact hp.1.W
 | n3 hN _ _ _ h1 h2 h3 =>
  intro hg hw;have w1:=(h1 hg (hw.arg (by simp [tmT,Tm.args]))).1;refine ⟨?_,hw.ty⟩;cases hN<;>grind
theorem cF4 {i:Int} (hl:(a9 i).least 1000000000=true):i<=1000000000:=by
 grind [a9,Tm.least]
mutual
def Tm.rb (G:Int->Int->Tm):Tm->Int->Tm
 | .mk k i t l,b=>if k==1 then G i b else .mk k i t (Tm.rbL G l (if k==2 then o9 b 1 else b))
def Tm.rbL (G:Int->Int->Tm):List Tm->Int->List Tm
 | [],_=>[]
 | t::l,b=>t.rb G b::Tm.rbL G l b
end
theorem Tm.aK1 {G:Int->Int->Tm}:∀ (l:List Tm) (b:Int),Tm.rbL G l b=l.map fun t=>t.rb G b
 | [],b=>by simp [Tm.rbL]
 | t::l,b=>by simp [Tm.rbL,Tm.aK1 l b]
theorem Tm.dF6 (G:Int->Int->Tm) (t:Tm) (b:Int):t.rb G b=if t.kind==1 then G t.index b else .mk t.kind t.index t.type (t.args.map fun x=>x.rb G (if t.kind==2 then o9 b 1 else b)):=by
 cases t;rw [Tm.rb,Tm.aK1];rfl
def bm2 (fr b i below:Int):Tm:=a9 (if decide (K5 i below>=fr) then o9 i b else i)
def ch9 (t:Tm) (fr b:Int):Tm:=t.rb (bm2 fr b) 0
def aU6 (a:Int) (s:Tm) (i below:Int):Tm :=
 if K5 i below==a then ch9 s 0 (o9 a below) else if decide (K5 i below>a) then a9 (K5 i 1) else a9 i
def ac0 (t:Tm) (a:Int) (s:Tm):Tm:=t.rb (aU6 a s) 0
variable {b:Int}
theorem TmG.dF7 (hb0:0<=b) (hb:b<=1000000) {fr:Int} (hf0:0<=fr) (hf:fr<=100000):∀ (n:Nat) {t:Tm},TmG t->a8 t<=n->t.least 1000000000=true->∀ d:Int,0<=d->d+n<=100000 ->
  t.rb (bm2 fr b) d=t.up b (fr+d)
 | 0,t,h,hn,_,_,_,_=>by grind [N8]
 | n+1,t,h,hn,hl,d,h0,hd=>by
  revert hn hl
  refine h.au1 (p:=fun t=>a8 t<=n+1->t.least 1000000000=true->t.rb (bm2 fr b) d=t.up b (fr+d)) ?_ ?_
  ·intro i hi _ hl
   have hi2:=cF4 hl
   grind [a9,Tm.rb,Tm.up,Tm.upL,bm2,P9]
  ·intro k ty l hk _ hg _ hn hl
   rw [a8] at hn;rw [Tm.least,A3] at hl;have hr:=I8 k;have e:o9 (fr+d) (m9 k)=fr+(d+m9 k):=by rw [w8 a_ a_ a_ a_];omega
   rw [Tm.rb,Tm.aK1,Tm.up,Tm.Y4,hk,e,aN2 h0 a_];simp only [J6,B2,r6];congr 1;refine aG2 fun y hy=>?_;exact TmG.dF7 hb0 hb hf0 hf n (hg y hy) (by have:=I9 hy;omega) (Tm.G7.1 hl.2 y hy) _ a_ a_
theorem dk0 {fr:Int} (h:TmG t) (hs:a8 t<=5000) (hl:t.least 536870912=true) (hb0:0<=b) (hb:b<=1000000) (hf0:0<=fr) (hf:fr<=100000):ch9 t fr b=t.up b fr:=by
 have:=TmG.dF7 hb0 hb hf0 hf _ h (w7 _) (Z0 a_ _ hl) 0 a_ a_;rw [Int.add_zero] at this;exact this
mutual
theorem bK1 {M:Int} (hM:M<=536870912):∀ (t:Tm) (b:Int) (s:Bool),t.least M=true->t.af2 bm6 b s=s
 | .mk k i ty l,b,s,h=>by
  rw [Tm.least,A3] at h;have hi:=ah5 h.1;rw [Tm.af2,by2 hM l _ _ h.2];split
  ·unfold bm6;rw [bV8 a_];simp
  ·rfl
theorem by2 {M:Int} (hM:M<=536870912):∀ (l:List Tm) (b:Int) (s:Bool),Tm.L4 M l=true->Tm.an9 bm6 l b s=s
 | [],b,s,_=>by rw [Tm.an9]
 | t::l,b,s,h=>by
  rw [Tm.L4,A3] at h;rw [Tm.an9,bK1 hM t b s h.1,by2 hM l b s h.2]
end
theorem cC4 (h:t.least 536870912=true):t.dO2=true:=bK1 a_ t 0 true h
inductive R4 (Q:Ty->Prop):List Ty->Fm->Prop
 | eq {g:List Ty} {x y:Tm}:l7 Q g x c8->l7 Q g y c8->R4 Q g (u6 x y)
 | two {g:List Ty} {k:Int} {a b:Fm} (hk:k=2\/k=3):R4 Q g a->R4 Q g b->R4 Q g (o8 k a b)
 | q {g:List Ty} {k:Int} {s:Ty} {a:Fm} (hk:k=4\/k=5\/k=6\/k=7):R4 Q (g++[s]) a->R4 Q g (fmQ k s a)
variable {g':List Ty}
theorem l7.upl {m:List Ty} {ty:Ty} (h:l7 Q g' t ty):∀ g l:List Ty,g'=g++l->l.length+a8 t<=100000->g.length<=100000->m.length<=100000->l7 Q (g++m++l) (t.up (m.length:Int) (l.length:Int)) ty:=by
 induction h with
 | @var g' i t hi h =>
  intro g l e hb hg hm;subst e;rw [a9,Tm.up,Tm.upL];simp only [ad1,J7];simp only [F8] at hi h;by_cases hc:(i:Int)>=(l.length:Int)
  ·rw [bV8 hc]
   have e:o9 (i:Int) (m.length:Int)=((i+m.length:Nat):Int):=by rw [w8 a_ a_ a_ a_];simp
   rw [e];refine l7.var (i:=i+m.length) (by simp only [F8];omega) ?_
   grind
  ·rw [decide_eq_false hc]
   refine l7.var (i:=i) (by simp only [F8];omega) ?_
   grind
 | @lam g' a b t hG _ ih =>
  intro g l e hb hg hm;rw [H7] at hb;have e1:o9 (l.length:Int) (m9 2)=((l++[a]).length:Int):=by
   have:m9 2=1:=rfl;rw [this,w8 a_ a_ a_ a_];simp
  refine l7.lam hG ?_
  grind
 | @n0 g' k ty s' hN =>
  have hk:(k==1)=false:=by cases hN<;>rfl
  grind [tmT,Tm.up,Tm.Y4,n0]
 | @n1 g' k ty s' a x hN _ ih =>
  intro g l e hb hg hm;have hk:(k==1)=false:=by cases hN<;>rfl
  have hk2:m9 k=0:=by cases hN<;>rfl
  rw [H7] at hb;rw [tmT,Tm.up,Tm.Y4,hk,hk2,H4 a_ a_];exact .n1 hN (ih g l e a_ hg hm)
 | @n2 g' k ty s' a b x y hN _ _ ih1 ih2 =>
  intro g l e hb hg hm;have hk:(k==1)=false:=by cases hN<;>rfl
  have hk2:m9 k=0:=by cases hN<;>rfl
  have z:a8 (tmT k ty [x,y])=a8 x+a8 y+1:=rfl;rw [tmT,Tm.up,Tm.Y4,hk,hk2,H4 a_ a_];exact .n2 hN (ih1 g l e a_ hg hm) (ih2 g l e a_ hg hm)
 | @n3 g' k ty s' a b c x y z hN _ _ _ ih1 ih2 ih3 =>
  intro g l e hb hg hm;have hk:(k==1)=false:=by cases hN<;>rfl
  have hk2:m9 k=0:=by cases hN<;>rfl
  rw [P0] at hb;rw [tmT,Tm.up,Tm.Y4,hk,hk2,H4 a_ a_];exact .n3 hN (ih1 g l e a_ hg hm) (ih2 g l e a_ hg hm) (ih3 g l e a_ hg hm)
theorem dx3 {x:Tm} (h:l7 TyG (g++[c8]) x c8):R4 TyG (g++[c8]) (V5 (a9 0) x) :=
 .eq (.n2 (ty:=.mk 0 []) .app (.n2 (ty:=.mk 0 []) .app .sub (.n1 (ty:=.mk 0 []) .succ .v0)) h) (.n0 (ty:=.mk 0 []) .zero)
theorem do5 {all:Bool} {x:Tm} (hx:l7 TyG (g++[c8]) x c8) (hf:R4 TyG (g++[c8]) f):R4 TyG g (ac5 all x f) :=
 .q (by cases all<;>simp) (.two (by cases all<;>simp) (dx3 hx) hf)
theorem dN9 (hg:∀ y∈g,N0 1 y):∀ y∈g,TyF y/\E5 y<=20:=fun y hy=>⟨(hg y hy).F,by have:=(hg y hy).sz1;omega⟩
theorem dE8:TyF c8/\E5 c8<=20:=⟨.nat,by rw [V4];omega⟩
theorem aM1.ty {n:Nat} (h:aM1 true n g f) (hg:∀ y∈g,N0 1 y):R4 TyG g f:=by
 induction h with
 | eq h1 h2=>exact .eq (h1.ty (dN9 hg) dE8) (h2.ty (dN9 hg) dE8)
 | two hk _ _ h1 h2=>exact .two hk (h1 hg) (h2 hg)
 | q hk hs _ h1 =>
  exact .q (by rcases hk with h|h|⟨_,h|h⟩<;>simp [h]) (h1 (cU2 hg hs))
theorem l7.inn {x:Tm} {ty:Ty} (h:l7 Q g' t ty):∀ g l:List Ty,g'=g++[a]++l->l7 Q g x a->l.length+a8 t<=50000->g.length+a8 x<=50000->l7 Q (g++l) (D6 x 0 t (l.length:Int)) ty:=by
 induction h with
 | @var g' i t hi h =>
  intro g l e hx hb hg;subst e;have e0:o9 0 (l.length:Int)=(l.length:Int):=be8 a_ a_;rw [a9,D6,e0];simp only [F8,J1,S0] at hi h;rcases Nat.lt_trichotomy i l.length with hc|hc|hc
  ·have c1:((i:Int)==(l.length:Int))=false:=by simp;omega
   have c2:decide ((i:Int)>(l.length:Int))=false:=by simp;omega
   rw [c1,c2];refine l7.var (i:=i) (by simp only [F8];omega) ?_
   grind
  ·subst hc
   have e2:g.length+(0+1)+l.length - 1 - l.length=g.length:=by omega
   rw [e2,aC4,aA1 a_,Nat.sub_self] at h;simp only [R9,bB7,S6] at h;subst h;have:=hx.upl (m:=l) g [] b_ (by simp;omega) a_ a_;simpa using this
  ·have e3:K5 (i:Int) 1=((i - 1:Nat):Int):=by rw [P9 a_ a_ a_ a_];omega
   grind [l7.var]
 | @lam g' b c t hG _ ih =>
  intro g l e hx hb hg;rw [H7] at hb;have e1:o9 (l.length:Int) (m9 2)=((l++[b]).length:Int):=by
   have:m9 2=1:=rfl;rw [this,w8 a_ a_ a_ a_];simp
  refine l7.lam hG ?_
  grind
 | @n0 g' k ty s' hN =>
  have hk:(k==1)=false:=by cases hN<;>rfl
  grind [tmT,D6,O8,n0]
 | @n1 g' k ty s' b y hN _ ih =>
  intro g l e hx hb hg;have hk:(k==1)=false:=by cases hN<;>rfl
  have hk2:m9 k=0:=by cases hN<;>rfl
  rw [H7] at hb;rw [tmT,D6,O8,hk,hk2,H4 a_ a_];exact .n1 hN (ih g l e hx a_ hg)
 | @n2 g' k ty s' b c y z hN _ _ ih1 ih2 =>
  intro g l e hx hb hg;have hk:(k==1)=false:=by cases hN<;>rfl
  have hk2:m9 k=0:=by cases hN<;>rfl
  have zz:a8 (tmT k ty [y,z])=a8 y+a8 z+1:=rfl;rw [tmT,D6,O8,hk,hk2,H4 a_ a_];exact .n2 hN (ih1 g l e hx a_ hg) (ih2 g l e hx a_ hg)
 | @n3 g' k ty s' b c d y z w hN _ _ _ ih1 ih2 ih3 =>
  intro g l e hx hb hg;have hk:(k==1)=false:=by cases hN<;>rfl
  have hk2:m9 k=0:=by cases hN<;>rfl
  rw [P0] at hb;rw [tmT,D6,O8,hk,hk2,H4 a_ a_];exact .n3 hN (ih1 g l e hx a_ hg) (ih2 g l e hx a_ hg) (ih3 g l e hx a_ hg)
def Tm.root (t:Tm):Bool :=
 if t.kind==3 then (ta t 0).kind==2
 else if t.kind==6 then (ta t 2).kind==4||(ta t 2).kind==5
 else if t.kind==9 then (ta t 2).kind==7||(ta t 2).kind==8
 else if t.kind==11||t.kind==12 then (ta t 0).kind==10 else false
def Tm.red (t:Tm):Tm :=
 if t.kind==3 then D6 (ta t 1) 0 (ta (ta t 0) 0) 0
 else if t.kind==6 then (if (ta t 2).kind==4 then ta t 0 else tm0 3 [tm0 3 [ta t 1,ta (ta t 2) 0],tmT 6 t.type [ta t 0,ta t 1,ta (ta t 2) 0]])
 else if t.kind==9 then (if (ta t 2).kind==7 then ta t 0 else tm0 3 [tm0 3 [tm0 3 [ta t 1,ta (ta t 2) 0],ta (ta t 2) 1],tmT 9 t.type [ta t 0,ta t 1,ta (ta t 2) 1]])
 else if t.kind==11 then ta (ta t 0) 0 else ta (ta t 0) 1
variable {f:Tm}
theorem l7.aw2 (h:l7 TyG g f s) (hk:f.kind=2):∃ a b t,s=x9 a b/\f=tmT 2 a [t]/\l7 TyG (g++[a]) t b:=by
 cases h with
 | var=>grind [a9,Tm.kind]
 | lam _ h=>grind
 | n0 hN=>cases hN<;>simp [tmT,Tm.kind] at hk
 | n1 hN=>cases hN<;>simp [tmT,Tm.kind] at hk
 | n2 hN=>cases hN<;>simp [tmT,Tm.kind] at hk
 | n3 hN=>cases hN<;>simp [tmT,Tm.kind] at hk
theorem l7.W9 (h:l7 TyG g f s) (hk:f.kind=10):∃ ty a b x y,s=B6 a b/\f=tmT 10 ty [x,y]/\l7 TyG g x a/\l7 TyG g y b:=by
 cases h with
 | var=>grind [a9,Tm.kind]
 | lam=>grind [tmT,Tm.kind]
 | n0 hN=>cases hN<;>simp [tmT,Tm.kind] at hk
 | n1 hN=>cases hN<;>simp [tmT,Tm.kind] at hk
 | n2 hN h1 h2 =>
  cases hN<;>grind [tmT,Tm.kind]
 | n3 hN=>cases hN<;>simp [tmT,Tm.kind] at hk
theorem l7.at0 (h:l7 TyG g f s) (hk:f.kind=5):∃ ty x,f=tmT 5 ty [x]/\l7 TyG g x c8:=by
 cases h with
 | var=>grind [a9,Tm.kind]
 | lam=>grind [tmT,Tm.kind]
 | n0 hN=>cases hN<;>simp [tmT,Tm.kind] at hk
 | n1 hN h1 =>
  cases hN<;>grind [tmT,Tm.kind]
 | n2 hN=>cases hN<;>simp [tmT,Tm.kind] at hk
 | n3 hN=>cases hN<;>simp [tmT,Tm.kind] at hk
theorem l7.as9 (h:l7 TyG g f s) (hk:f.kind=8):∃ ty x y,f=tmT 8 ty [x,y]/\l7 TyG g x c8/\l7 TyG g y r5:=by
 cases h with
 | var=>grind [a9,Tm.kind]
 | lam=>grind [tmT,Tm.kind]
 | n0 hN=>cases hN<;>simp [tmT,Tm.kind] at hk
 | n1 hN=>cases hN<;>simp [tmT,Tm.kind] at hk
 | n2 hN h1 h2 =>
  cases hN<;>grind [tmT,Tm.kind]
 | n3 hN=>cases hN<;>simp [tmT,Tm.kind] at hk
variable {t:Ty}
theorem ah2 {a b:Tm}:a8 (tmT k t [a,b])=a8 a+a8 b+1:=by simp [tmT,a8,F7]
theorem l7.red {t:Tm} (h:l7 TyG g t s) (hr:t.root=true) (hb:g.length+a8 t<=50000):l7 TyG g t.red s:=by
 cases h with
 | var=>grind [Tm.root,a9,Tm.kind]
 | lam=>grind [Tm.root,tmT,Tm.kind]
 | n0 hN=>cases hN<;>simp [Tm.root,tmT,Tm.kind] at hr
 | @n1 _ k ty _ a x hN h1 =>
  cases hN with
  | succ=>grind [Tm.root,tmT,Tm.kind]
  | fst =>
   have hk:x.kind=10:=by simpa [Tm.root,tmT,Tm.kind,ta,Tm.args] using hr
   obtain ⟨ty',a',b',y,z,e,rfl,h2,h3⟩:=h1.W9 hk;simp only [B6,Ty.mk.injEq,aL7,ag2,ag3] at e;rw [e.1];exact h2
  | snd =>
   have hk:x.kind=10:=by simpa [Tm.root,tmT,Tm.kind,ta,Tm.args] using hr
   obtain ⟨ty',a',b',y,z,e,rfl,h2,h3⟩:=h1.W9 hk;simp only [B6,Ty.mk.injEq,aL7,ag2,ag3] at e;rw [e.2];exact h3
 | @n2 _ k ty _ a b x y hN h1 h2 =>
  rw [ah2] at hb;cases hN with
  | app =>
   have hk:x.kind=2:=by simpa [Tm.root,tmT,Tm.kind,ta,Tm.args] using hr
   obtain ⟨a',b',z,e,rfl,h3⟩:=h1.aw2 hk;obtain ⟨rfl,rfl⟩:=e;rw [H7] at hb;have:=h3.inn (x:=y) g [] b_ h2 (by simp;omega) a_;have e:(tmT 3 ty [tmT 2 b [z],y]).red=D6 y 0 z 0:=rfl
   grind
  | cons=>grind [Tm.root,tmT,Tm.kind]
  | pair=>grind [Tm.root,tmT,Tm.kind]
 | @n3 _ k ty _ a b c x y z hN h1 h2 h3 =>
  cases hN with
  | V8 =>
   have hk:z.kind=4\/z.kind=5:=by simpa [Tm.root,tmT,Tm.kind,ta,Tm.args] using hr
   have e:(tmT 6 s [x,y,z]).red=if z.kind==4 then x else tm0 3 [tm0 3 [y,ta z 0],tmT 6 s [x,y,ta z 0]]:=rfl
   rw [e];rcases hk with hk|hk
   ·rw [hk];exact h1
   ·obtain ⟨ty',m,rfl,hm⟩:=h3.at0 hk
    exact .n2 (ty:=.mk 0 []) .app (.n2 (ty:=.mk 0 []) .app h2 hm) (.n3 .V8 h1 h2 hm)
  | fold =>
   have hk:z.kind=7\/z.kind=8:=by simpa [Tm.root,tmT,Tm.kind,ta,Tm.args] using hr
   have e:(tmT 9 s [x,y,z]).red=if z.kind==7 then x else tm0 3 [tm0 3 [tm0 3 [y,ta z 0],ta z 1],tmT 9 s [x,y,ta z 1]]:=rfl
   rw [e];rcases hk with hk|hk
   ·rw [hk];exact h1
   ·obtain ⟨ty',m,n,rfl,hm,hn⟩:=h3.as9 hk
    exact .n2 (ty:=.mk 0 []) .app (.n2 (ty:=.mk 0 []) .app (.n2 (ty:=.mk 0 []) .app h2 hm) hn) (.n3 .fold h1 h2 hn)
mutual
def Tm.nx (gr:Tm->Int) (room:Int):Tm->Tm × Bool × Bool
 | .mk k i t l =>
  if (Tm.mk k i t l).root then (if decide (gr (.mk k i t l)>room) then (I4,true,false) else ((Tm.mk k i t l).red,true,true))
  else match Tm.nxL gr room l with
   | some p=>(.mk k i t p.1,true,p.2)
   | none=>(.mk k i t l,false,true)
def Tm.nxL (gr:Tm->Int) (room:Int):List Tm->Option (List Tm × Bool)
 | []=>none
 | a::l=>if (a.nx gr room).2.1 then some ((a.nx gr room).1::l,(a.nx gr room).2.2)
  else match Tm.nxL gr room l with
   | some p=>some (a::p.1,p.2)
   | none=>none
end
mutual
def dk5:Tm->Int->Bool
 | .mk k i _ l,n=>if k==1 then decide (i<n)&&l.isEmpty else cF0 l (n+m9 k)
def cF0:List Tm->Int->Bool
 | [],_=>true
 | t::l,n=>dk5 t n&&cF0 l n
end
theorem bL7:∀ {l:List Tm} {n:Int},cF0 l n=true->∀ x∈l,dk5 x n=true
 | t::l,n,h,x,hx=>by
  rw [cF0,A3] at h;rcases D9.1 hx with rfl|hx
  ·exact h.1
  ·exact bL7 h.2 x hx
theorem map_id {g:Tm->Tm}:∀ {l:List Tm},(∀ x∈l,g x=x)->l.map g=l
 | [],_=>rfl
 | t::l,h=>by rw [E0,h t b_,map_id (fun x hx=>h x (by simp [hx]))]
theorem de9 {s:Tm}:∀ (n:Nat) (t:Tm),a8 t<=n->∀ m d:Int,dk5 t m=true->m<=d->0<=d->d+n<=1000000->D6 s 0 t d=t
 | 0,t,hn,_,_,_,_,_,_=>by grind [N8]
 | n+1,.mk k i ty l,hn,m,d,hc,hm,h0,hb=>by
  rw [a8] at hn;have hr:=I8 k;have e:o9 d (m9 k)=d+m9 k:=w8 a_ a_ a_ a_;have e0:o9 0 d=d:=by rw [w8 a_ a_ a_ a_];omega
  rw [dk5] at hc;rw [D6,O8,e,e0];cases hk:(k==1) with
  | true =>
   grind
  | false =>
   rw [hk] at hc;simp only [B2,r6];rw [map_id (fun x hx=>de9 n x (by have:=I9 hx;omega) (m+m9 k) _ (bL7 hc x hx) a_ a_ a_)]
theorem cD0 {g:Tm->Tm} {x y:Int}:∀ {l:List Tm},(∀ t∈l,F6 (g t) x=F6 t y)->O9 (l.map g) x=O9 l y
 | [],_=>rfl
 | t::l,h=>by rw [E0,O9,O9,h t b_,cD0 (fun z hz=>h z (by simp [hz]))]
theorem dF9 {i:Int} (hl:(a9 i).least 1000000000=true):i<=1000000000:=by
 grind [a9,Tm.least]
theorem TmG.bB4 (hb0:0<=b) (hb1:b<=1000000):∀ (k:Nat) {t:Tm},TmG t->a8 t<=k->t.least 1000000000=true->∀ fr x:Int,0<=fr->fr<=x->x<fr+b->fr+k<=1000000->F6 (t.up b fr) x=0
 | 0,t,h,hn,_,_,_,_,_,_,_=>by grind [N8]
 | k+1,t,h,hn,hl,fr,x,h0,hx,hxf,hb=>by
  revert hn hl
  refine h.au1 (p:=fun t=>a8 t<=k+1->t.least 1000000000=true->F6 (t.up b fr) x=0) ?_ ?_
  ·intro i hi _ hl
   have hi2:=dF9 hl
   grind [a9,Tm.up,F6,w8]
  ·intro kk ty l hk _ hg _ hn hl
   rw [a8] at hn;rw [Tm.least,A3] at hl;have hr:=I8 kk;have e:o9 fr (m9 kk)=fr+m9 kk:=w8 a_ a_ a_ a_;rw [Tm.up,Tm.Y4,F6,hk,e];refine aQ1 ?_;intro z hz;obtain ⟨y,hy,rfl⟩:=G5.1 hz;exact TmG.bB4 hb0 hb1 k (hg y hy) (by have:=I9 hy;omega) (Tm.G7.1 hl.2 y hy) _ _ a_ a_ a_ a_
theorem TmG.cB2 {s:Tm} (hs:TmG s) (hss:a8 s<=10000) (hsl:s.least 1000000000=true):∀ (k:Nat) {t:Tm},TmG t->a8 t<=k->t.least 1000000000=true->∀ d x:Int,0<=x->x<d->d+k<=500000->F6 (D6 s 0 t d) x=F6 t x
 | 0,t,h,hn,_,_,_,_,_,_=>by grind [N8]
 | k+1,t,h,hn,hl,d,x,hx,hxf,hb=>by
  revert hn hl
  have e0:o9 0 d=d:=by rw [w8 a_ a_ a_ a_];omega
  refine h.au1 (p:=fun t=>a8 t<=k+1->t.least 1000000000=true->F6 (D6 s 0 t d) x=F6 t x) ?_ ?_
  ·intro i hi _ hl
   have hi2:=dF9 hl
   grind [a9,D6,F6,TmG.bB4,P9]
  ·intro kk ty l hk _ hg _ hn hl
   rw [a8] at hn;rw [Tm.least,A3] at hl;have hr:=I8 kk;have e:o9 d (m9 kk)=d+m9 kk:=w8 a_ a_ a_ a_;rw [D6,O8,F6,hk,e];simp only [B2,r6,F6,hk];exact cD0 fun y hy=>TmG.cB2 hs hss hsl k (hg y hy) (by have:=I9 hy;omega) (Tm.G7.1 hl.2 y hy) _ _ a_ a_ a_
mutual
def Fm.up (b:Int):Fm->Int->Fm
 | .mk k t l a,fr=>.mk k t (l.map fun x=>x.up b fr) (Fm.upL b a (o9 fr (u9 k)))
def Fm.upL (b:Int):List Fm->Int->List Fm
 | [],_=>[]
 | t::l,fr=>t.up b fr::Fm.upL b l fr
end
theorem Fm.Y4:∀ (l:List Fm) (fr:Int),Fm.upL b l fr=l.map fun t=>t.up b fr
 | [],fr=>by simp [Fm.upL]
 | t::l,fr=>by simp [Fm.upL,Fm.Y4 l fr]
theorem Fm.aL5 (b:Int) (t:Fm) (fr:Int):t.up b fr=.mk t.kind t.type (t.a7.map fun x=>x.up b fr) (t.args.map fun x=>x.up b (o9 fr (u9 t.kind))):=by
 cases t;rw [Fm.up,Fm.Y4];rfl
theorem TmG.arg {t x:Tm} (h:TmG t) (hx:x∈t.args):TmG x:=by
 cases h with
 | plain _ _ _ h=>exact h x hx
 | var=>grind [a9,Tm.args]
 | typd _ _ _ _ h=>exact h x hx
theorem TyG.dO1 (h:TyG s) (hk:(s.kind != 1)=false):s=c8:=by
 obtain ⟨h,_⟩:=h;cases h<;>grind [r5,O7,B6,x9,Ty.kind]
theorem FmG.bnd {u:Bool} {f:Fm} (h:FmG u f) (hb:T8 f=true):∃ all q y,f=ac5 all q y/\TmG q/\FmG u y/\¬ q.count 0>0:=by
 unfold T8 aq5 aH4 at hb;simp only [A3,Bool.not_eq_true'] at hb;obtain ⟨⟨⟨⟨b1,b2⟩,b3⟩,b4⟩,⟨b5,b6⟩,b7⟩:=hb;cases h with
 | eq=>grind [u6,Fm.kind]
 | two hk=>rcases hk with rfl|rfl<;>simp [o8,Fm.kind] at b1
 | @q k s a hk hs ha =>
  have e0:fa (fmQ k s a) 0=a:=rfl;rw [e0] at b3 b4 b7;have hsn:=hs.dO1 b2;subst hsn;have hk2:(k=4/\a.kind=3)\/(k=5/\a.kind=2):=by
   have ek:(fmQ k c8 a).kind=k:=rfl;by_cases h4:k=4
   ·grind
   ·grind
  cases ha with
  | eq=>grind [u6,Fm.kind]
  | @q k2 s2 a2 hk3=>grind [fmQ,Fm.kind]
  | @two k2 p y hk3 hp hy =>
   have hp1:=Fm.N6 b7;generalize hq:ad9 (fmQ k c8 (o8 k2 p y))=q at *;subst hp1;have gq:TmG q:=by
    have hx:∃ x y,V5 (a9 0) q=u6 x y/\TmG x:=by
     generalize hz:V5 (a9 0) q=z at hp;cases hp with
     | @eq x y hx hy=>grind
     | two hk=>grind [V5,u6,o8]
     | q hk=>grind [V5,u6,fmQ]
    obtain ⟨x,y,e,hx⟩:=hx;unfold V5 at e;have:x=tm0 3 [tm0 3 [aM5,tm0 5 [a9 0]],q]:=by
     simp only [u6,Fm.mk.injEq,aL7] at e;exact e.2.2.1.1.symm
    subst this;exact hx.arg (by simp [tm0,Tm.args])
   rcases hk2 with ⟨rfl,h3⟩|⟨rfl,h3⟩
   ·subst h3
    exact ⟨true,q,y,rfl,gq,hy,by simpa using b6⟩
   ·subst h3
    exact ⟨false,q,y,rfl,gq,hy,by simpa using b6⟩
variable {f:Fm}
theorem az2 {x:Fm} (h:f.least M=true) (hx:x∈f.args):x.least M=true:=by
 grind [Fm.I6,Fm.G7]
theorem at1 {x:Tm} (h:f.least M=true) (hx:x∈f.a7):x.least M=true:=by
 grind [Fm.I6,Tm.G7]
theorem dx0:dk5 (tm0 3 [aM5,tm0 5 [a9 0]]) 1=true:=by decide
theorem dx1:a8 (tm0 3 [aM5,tm0 5 [a9 0]])=19:=by rw [ad8,bA9,bi9,aK5]
theorem cB3 {s:Tm} {l:List Tm} (hk:(k==1)=false):D6 s 0 (tm0 k l) d=tm0 k (l.map fun x=>D6 s 0 x (o9 d (m9 k))):=by
 grind [tm0,D6,O8]
theorem dc3 {x y:Tm} {a:Int}:Q1 (u6 x y) a=F6 x a+F6 y a:=by rfl
theorem cL3 {x:Fm} {a:Int} (hk:k=2\/k=3):Q1 (o8 k x y) a=Q1 x a+Q1 y a:=by
 rcases hk with rfl|rfl<;>simp [o8,Q1,O9,ap6,u9,X8]
theorem du1 {x:Fm} {a:Int} (hk:k=4\/k=5\/k=6\/k=7):Q1 (fmQ k t x) a=Q1 x (a+1):=by
 rcases hk with rfl|rfl|rfl|rfl<;>simp [fmQ,Q1,O9,ap6,u9,X8]
theorem cN6 {x y:Tm} (h1:x.least M=true) (h2:y.least M=true):(u6 x y).least M=true:=by
 grind [Fm.I6,u6,Fm.a7,Fm.args,Tm.G1,Tm.D5,Fm.D5]
theorem cN7 {x:Fm} (h1:x.least M=true) (h2:y.least M=true):(o8 k x y).least M=true:=by
 grind [Fm.I6,o8,Fm.a7,Fm.args,Fm.G1,Tm.D5,Fm.D5]
theorem cB8 {x:Fm} (h1:x.least M=true):(fmQ k t x).least M=true:=by
 grind [Fm.I6,fmQ,Fm.a7,Fm.args,Fm.G1,Tm.D5,Fm.D5]
theorem bw2 {x y:Tm}:(u6 x y).up b d=u6 (x.up b d) (y.up b d):=by rfl
theorem dc4 {x:Fm}:(o8 k x y).up b d=o8 k (x.up b (o9 d (u9 k))) (y.up b (o9 d (u9 k))):=by rfl
theorem dL5 {x:Fm}:(fmQ k t x).up b d=fmQ k t (x.up b (o9 d (u9 k))):=by rfl
theorem FmG.up {u:Bool} (hb0:0<=b) (hb:b<=1000000) (h:FmG u f):f.least 536870912=true->∀ d:Int,FmG u (f.up b d)/\s6 (f.up b d)=s6 f:=by
 induction h with
 | @eq x y hx hy =>
  intro hl d;have l1:=at1 (x:=x) hl (by simp [u6,Fm.a7]);have l2:=at1 (x:=y) hl (by simp [u6,Fm.a7]);rw [bw2,D7,D7,aq9,aq9];exact ⟨.eq (TmG.up hb0 hb _ hx (w7 _) l1 d) (TmG.up hb0 hb _ hy (w7 _) l2 d),rfl⟩
 | @two k p q hk _ _ h1 h2 =>
  grind [az2,o8,Fm.args,dc4,y8,two]
 | @q k t p hk ht _ h1 =>
  grind [az2,fmQ,Fm.args,dL5,G6,q]
theorem R4.inn {x:Tm} (h:R4 Q g' f):∀ g l:List Ty,g'=g++[a]++l->l7 Q g x a->l.length+s6 f<=40000->g.length+a8 x<=40000->R4 Q (g++l) (I3 x 0 f (l.length:Int)):=by
 induction h with
 | @eq g' p q h1 h2 =>
  intro g l e hx hb hg;rw [D7] at hb;exact .eq (h1.inn g l e hx a_ a_) (h2.inn g l e hx a_ a_)
 | @two g' k p q hk _ _ ih1 ih2 =>
  grind [y8,ak1,Z8,H4,two]
 | @q g' k s p hk _ ih =>
  intro g l e hx hb hg;rw [G6] at hb;have hq:u9 k=1:=by rcases hk with rfl|rfl|rfl|rfl<;>rfl
  have e1:o9 (l.length:Int) (u9 k)=((l++[s]).length:Int):=by
   rw [hq,w8 a_ a_ a_ a_];simp
  grind [aS9,q]
theorem aV2 {a b:Fm} (h:(o8 k a b).least M=true):a.least M=true/\b.least M=true:=by
 grind [o8,Fm.least,Fm.G1]
theorem bl5 {a:Fm} (h:(fmQ k s a).least M=true):a.least M=true:=by
 grind [fmQ,Fm.least,Fm.G1]
theorem aS8 {x y:Tm}:(u6 x y).least M=true↔x.least M=true/\y.least M=true:=by
 rw [u6,Fm.least];simp [Tm.D5,Tm.G1,Fm.D5]
end GoAbs
