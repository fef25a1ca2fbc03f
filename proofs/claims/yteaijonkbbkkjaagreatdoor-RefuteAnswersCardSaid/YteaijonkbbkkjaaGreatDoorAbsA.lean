/-
 The abstract layer: what the abstract layer is, and that its operations are followed.
-/
import Derived.WalkKit
import Derived.Orders
set_option linter.unusedSimpArgs false
set_option linter.unusedVariables false
set_option linter.unusedSectionVars false
namespace GoAbs
open Go
theorem as_ {p : Prop} (a : p := by assumption) : p := a
theorem om_ {p : Prop} (a : p := by omega) : p := a
theorem sp_ {p : Prop} (a : p := by simp) : p := a
structure Id where
 gen:Nat
 reg:Nat
 op:Nat
 deriving DecidableEq
inductive Cap where
 | any
 | full
 | own (id:Id)
inductive V where
 | undef
 | bool (b:Bool)
 | int (k:IntKind) (n:Int)
 | str (s:ByteArray)
 | agg (cs:List V)
 | tup (vs:List V)
 | sl (c:Cap) (es:List (List V))
 | ptr (id:Id) (off:Nat)
 | slb (id:Id) (n:Nat)
 | el (cs:List V) (off:Nat)
 | T9
 | fn (f:Fn) (first captured:List V)
 | U9
 | iface (t:TypeId) (v:V)
 | E7
inductive Obj where
 | box (cs:List V)
 | tok (n k:Nat)
abbrev H:=Id→Option Obj
structure Buf where
 a:Option Addr
 n:Nat
 cap:Nat
 k:Nat
structure G where
 lim:Nat→Nat
 wr:Nat→Bool
 loc:Id→Nat
 buf:Id→Buf
 dom:Id→Bool
 top:Nat
def bt2 (g:G) (a:Option Addr) (len cap k:Nat):Cap→Prop
 | .any=>True
 | .full=>cap=len
 | .own id=>g.dom id=true∧len≤(g.buf id).n∧(len=(g.buf id).n→g.buf id=⟨a,len,cap,k⟩)
inductive RV (g:G) (w:World):Value→V→Prop where
  | undef (c:Value):RV g w c .undef
  | bool (b:Bool):RV g w (.bool b) (.bool b)
  | int (k:IntKind) (n:Int):RV g w (.int k n) (.int k n)
  | str (s:ByteArray):RV g w (.string s) (.str s)
  | agg (vs:Array Value) (cs:List V) (h:vs.size=cs.length)
      (r:∀ (i:Nat) (c:Value) (v:V),vs[i]? = some c→cs[i]? = some v→RV g w c v):RV g w (.agg vs) (.agg cs)
  | tup (vs:Array Value) (cs:List V) (h:vs.size=cs.length)
      (r:∀ (i:Nat) (c:Value) (v:V),vs[i]? = some c→cs[i]? = some v→RV g w c v):RV g w (.tuple vs) (.tup cs)
  | sl (a:Option Addr) (cap:Nat) (c:Cap) (es:List (List V)) (k:Nat) (cell:Nat→Value)
      (hk:∀ e∈es,e.length=k) (V0:es.length≤cap)
      (E0:es≠[]→∃ b off,a=some ⟨b,off,none⟩∧off+es.length * k≤g.lim b ∧
        ∀ i,i<es.length * k→w.cell? ⟨b,off+i,none⟩=some (cell i))
      (hr:∀ (i:Nat) (v:V),es.flatten[i]? = some v→RV g w (cell i) v)
      (hc:bt2 g a es.length cap k c):RV g w (.slice a es.length cap) (.sl c es)
  | ptr (id:Id) (off:Nat) (h:g.dom id=true):RV g w (.pointer (some ⟨g.loc id,off,none⟩)) (.ptr id off)
  | slb (id:Id) (n cap:Nat) (h:g.dom id=true) (hc:n≤cap):RV g w (.slice (some ⟨g.loc id,0,none⟩) n cap) (.slb id n)
  | el (b off:Nat) (cs:List V) (o:Nat) (cell:Nat→Value) (hl:off+cs.length≤g.lim b)
      (E0:∀ i,i<cs.length→w.cell? ⟨b,off+i,none⟩=some (cell i))
      (hr:∀ (i:Nat) (v:V),cs[i]? = some v→RV g w (cell i) v):RV g w (.pointer (some ⟨b,off+o,none⟩)) (.el cs o)
  | T9:RV g w (.pointer none) .T9
  | fn (f:Fn) (fs cs:Array Value) (fs' cs':List V) (h1:fs.size=fs'.length) (h2:cs.size=cs'.length)
      (r1:∀ (i:Nat) (c:Value) (v:V),fs[i]? = some c→fs'[i]? = some v→RV g w c v)
      (r2:∀ (i:Nat) (c:Value) (v:V),cs[i]? = some c→cs'[i]? = some v→RV g w c v):RV g w (.func f fs cs) (.fn f fs' cs')
  | U9:RV g w .nilFunc .U9
  | iface (t:TypeId) (c:Value) (v:V) (r:RV g w c v):RV g w (.iface t c) (.iface t v)
  | E7:RV g w .nilIface .E7

structure Ext (g:G) (w:World) (g':G) (w':World):Prop where
 os:w'.os=w.os
 tape:w'.tape=w.tape
 output:w'.output=w.output
 size:w.heap.size≤w'.heap.size
 lim:∀ b,g.lim b≤g'.lim b
 cells:∀ b o,o<g.lim b→w'.cell? ⟨b,o,none⟩=w.cell? ⟨b,o,none⟩
 wr:∀ b,b<w.heap.size→g.wr b=false→w'.heap[b]? = w.heap[b]? ∧ g'.wr b=false
 dom:∀ id,g.dom id=true→g'.dom id=true∧g'.loc id=g.loc id∧(g'.buf id=g.buf id∨(g.buf id).n<(g'.buf id).n)
 top:g.top≤g'.top
theorem Ext.refl (g:G) (w:World):Ext g w g w :=
 ⟨rfl,rfl,rfl,Nat.le_refl _,fun _=>Nat.le_refl _,fun _ _ _=>rfl,fun _ _ h=>⟨rfl,h⟩,fun _ h=>⟨h,rfl,.inl rfl⟩,Nat.le_refl _⟩
theorem Ext.trans {g1 g2 g3:G} {w1 w2 w3:World} (a:Ext g1 w1 g2 w2) (b:Ext g2 w2 g3 w3):Ext g1 w1 g3 w3 where
 os:=b.os.trans a.os
 tape:=b.tape.trans a.tape
 output:=b.output.trans a.output
 size:=Nat.le_trans a.size b.size
 lim:=fun x=>Nat.le_trans (a.lim x) (b.lim x)
 cells:=fun x o h=>(b.cells x o (Nat.lt_of_lt_of_le h (a.lim x))).trans (a.cells x o h)
 wr:=fun x hx h=>by
  obtain ⟨h1,h2⟩:=a.wr x hx h;obtain ⟨h3,h4⟩:=b.wr x (Nat.lt_of_lt_of_le hx a.size) h2;exact ⟨h3.trans h1,h4⟩
 dom:=fun id h=>by
  obtain ⟨h1,h2,h3⟩:=a.dom id h;obtain ⟨h4,h5,h6⟩:=b.dom id h1;refine ⟨h4,h5.trans h2,?_⟩;rcases h3 with h3|h3<;>rcases h6 with h6|h6
  ·exact .inl (h6.trans h3)
  ·exact .inr (by rw [← h3];exact h6)
  ·exact .inr (by rw [h6];exact h3)
  ·exact .inr (Nat.lt_trans h3 h6)
 top:=Nat.le_trans a.top b.top
theorem bt2.mono {g g':G} {w w':World} (x:Ext g w g' w') {a:Option Addr} {len cap k:Nat} {c:Cap} (h:bt2 g a len cap k c) :
  bt2 g' a len cap k c:=by
 cases c with
 | any=>trivial
 | full=>exact h
 | own id =>
  obtain ⟨h1,h2,h3⟩:=h;obtain ⟨h4,_,h5⟩:=x.dom id h1;refine ⟨h4,?_,fun e=>?_⟩
  ·rcases h5 with h5|h5
   ·rw [h5];exact h2
   ·omega
  ·rcases h5 with h5|h5
   ·rw [h5];exact h3 (by rw [← h5];exact e)
   ·omega
theorem RV.mono {g g':G} {w w':World} (x:Ext g w g' w') {c:Value} {v:V} (h:RV g w c v):RV g' w' c v:=by
 induction h with
 | undef c=>exact .undef c
 | bool b=>exact .bool b
 | int k n=>exact .int k n
 | str s=>exact .str s
 | agg vs cs h _ ih=>exact .agg vs cs h ih
 | tup vs cs h _ ih=>exact .tup vs cs h ih
 | sl a cap c es k cell hk V0 E0 _ hc ih =>
  refine .sl a cap c es k cell hk V0 (fun hne=>?_) ih (hc.mono x);obtain ⟨b,off,rfl,hl,Y0⟩:=E0 hne;exact ⟨b,off,rfl,Nat.le_trans hl (x.lim b),fun i hi=>(x.cells b _ om_).trans (Y0 i hi)⟩
 | ptr id off h =>
  obtain ⟨h1,h2,_⟩:=x.dom id h;rw [← h2];exact .ptr id off h1
 | slb id n cap h hc =>
  obtain ⟨h1,h2,_⟩:=x.dom id h;rw [← h2];exact .slb id n cap h1 hc
 | el b off cs o cell hl E0 _ ih =>
  exact .el b off cs o cell (Nat.le_trans hl (x.lim b)) (fun i hi=>(x.cells b _ om_).trans (E0 i hi)) ih
 | T9=>exact .T9
 | fn f fs cs fs' cs' h1 h2 _ _ ih1 ih2=>exact .fn f fs cs fs' cs' h1 h2 ih1 ih2
 | U9=>exact .U9
 | iface t c v _ ih=>exact .iface t c v ih
 | E7=>exact .E7
def aH8 (w:World) (b:Nat) (vs:Array Value):Prop:=∃ ty,w.heap[b]? = some (.cells vs ty (0,0))
def ch5 (g:G) (w:World) (id:Id):Prop :=
 ∃ b off vs,(g.buf id).a=some ⟨b,off,none⟩∧aH8 w b vs∧off+(g.buf id).cap * (g.buf id).k≤vs.size ∧
  g.lim b=off+(g.buf id).n * (g.buf id).k∧g.wr b=true
structure Rel (env:Nat→Option (List V)) (g:G) (w:World) (h:H):Prop where
 dom:∀ id,g.dom id=true↔h id≠none
 top:∀ id,h id≠none→id.gen<g.top
 box:∀ id cs,h id=some (.box cs)→∃ vs,aH8 w (g.loc id) vs∧vs.size=cs.length ∧
  (∀ (i:Nat) (c:Value) (v:V),vs[i]? = some c→cs[i]? = some v→RV g w c v)∧g.lim (g.loc id)=0∧g.wr (g.loc id)=true
 inj:∀ id id' cs cs',h id=some (.box cs)→h id'=some (.box cs')→g.loc id=g.loc id'→id=id'
 tok:∀ id n k,h id=some (.tok n k)→(g.buf id).n=n∧n≤(g.buf id).cap∧(n<(g.buf id).cap→ch5 g w id)∧(g.buf id).k=k
 apart:∀ id id' n k cs,h id=some (.tok n k)→n<(g.buf id).cap→h id'=some (.box cs)→∀ a,(g.buf id).a=some a→a.block≠g.loc id'
 T8:∀ id id' n n' k k',h id=some (.tok n k)→n<(g.buf id).cap→h id'=some (.tok n' k')→n'<(g.buf id').cap →
  ∀ a a',(g.buf id).a=some a→(g.buf id').a=some a'→a.block=a'.block→id=id'
 C4:∀ b,w.heap.size≤b→g.lim b=0
 glob:∀ k cs,env k=some cs→RV g w (.pointer (some ⟨k,0,none⟩)) (.el cs 0)
structure TyI where
 size:Nat
 bytes:Nat
 agg:Bool
 zero:List V
 fields:List (Nat × Nat × Bool)
 fok:Bool
 kind:Nat
 J6:Nat
 c9:Nat
 A1:Nat
 M0:Bool
 B9:List V
 ik:Option IntKind
 frz:Bool
def aU0:Value→V
 | .bool b=>.bool b
 | .int k n=>.int k n
 | .string s=>.str s
 | .pointer none=>.T9
 | .slice a len cap=>if a=none∧len=0∧cap=0 then .sl .full [] else .undef
 | .nilFunc=>.U9
 | .nilIface=>.E7
 | .func f first captured=>if first.size=0∧captured.size=0 then .fn f [] [] else .undef
 | _=>.undef
def toV:Value→V
 | .agg cs=>.agg (cs.toList.map aU0)
 | v=>aU0 v
def au7 (P:Program) (t:TypeId):Nat :=
 match P.info? t,P.underlying t with
 | some i,some _=>i.size
 | _,_=>0
def bytesOf (P:Program) (t:TypeId):Nat:=((P.info? t).map (·.bytes)).getD 0
def aq7 (P:Program) (t:TypeId):Bool :=
 match P.underlying t with
 | some (.struct _)|some (.array _ _)=>true
 | _=>false
def tyi (P : Program) (t:TypeId):Option TyI :=
  match P.info? t,P.underlying t with
  | some i,some d =>
    match i.zero with
    | some z =>
      some { size:=i.size,bytes:=i.bytes,agg:=aq7 P t,zero:=z.cells.toList.map aU0,
             fields:=(match d with | .struct fs=>fs.toList.map fun f=>(f.offset,au7 P f.type,aq7 P f.type)|_=>[]),
             fok:=(match d with | .struct fs=>fs.toList.all fun f=>au7 P f.type != 0|_=>false),
             kind:=(match d with | .bool=>1 | .int _=>2 | .struct _=>3 | .slice _=>4 | .array _ _=>5 | .string=>6 | .pointer _=>7 | .interface _=>8|_=>0),
             J6:=(match d with | .array n _=>n|_=>0),
             c9:=(match d with | .slice e | .array _ e=>au7 P e|_=>0),
             A1:=(match d with | .slice e | .array _ e=>bytesOf P e|_=>0),
             M0:=(match d with | .slice e | .array _ e=>aq7 P e|_=>false),
             B9:=(match d with | .slice e | .array _ e=>(match P.info? e with|some j=>(match j.zero with|some z=>z.cells.toList.map aU0|none=>[])|none=>[])|_=>[]),
             ik:=(match d with | .int k=>some k|_=>none),
             frz:=(match d with | .struct _=>z.cells.any (fun c=>match c with | .pointer none=>true | .nilIface=>true|_=>false)|_=>false) }
    | none=>none
  | _,_=>none

def cellsOf:V→Option (List V)
 | .undef=>none
 | .agg cs=>some cs
 | .tup _=>none
 | v=>some [v]
def af1 (agg:Bool) (size:Nat) (cs:List V) (off:Nat):Option V :=
 if size=0 then none else if agg then (if off+size≤cs.length then some (.agg ((cs.drop off).take size)) else none) else cs[off]?
def I2 (cs:List V) (off:Nat):List V→List V
 | []=>cs
 | v::vs=>I2 (cs.set off v) (off+1) vs
def aB0 (fields:List (Nat × Nat)) (cs:List V):List (Nat × V)→Option (List V)
 | []=>some cs
 | (i,v)::rest =>
  match fields[i]?,cellsOf v with
  | some (off,size),some xs=>if xs.length=size∧off+size≤cs.length then aB0 fields (I2 cs off xs) rest else none
  | _,_=>none
def bb8 (k:IntKind) (a b:Int):Int:=k.wrap (BitVec.ofInt k.bits a &&& BitVec.ofInt k.bits b).toNat
def cB0 (k:IntKind) (a b:Int):Int:=k.wrap (BitVec.ofInt k.bits a ||| BitVec.ofInt k.bits b).toNat
def bJ0 (op:BinOp) (k:IntKind) (a b:Int):Option V :=
 match op with
 | .add=>some (.int k (k.wrap (a+b)))
 | .sub=>some (.int k (k.wrap (a - b)))
 | .mul=>some (.int k (k.wrap (a * b)))
 | .quo=>if b=0 then none else some (.int k (k.wrap (a.tdiv b)))
 | .rem=>if b=0 then none else some (.int k (a.tmod b))
 | .eql=>some (.bool (a==b))
 | .neq=>some (.bool (a != b))
 | .lss=>some (.bool (a<b))
 | .leq=>some (.bool (a≤b))
 | .gtr=>some (.bool (a>b))
 | .geq=>some (.bool (a≥b))
 | .and=>some (.int k (bb8 k a b))
 | .or=>some (.int k (cB0 k a b))
 | _=>none
def bh8 (T:Option TyI) (op:BinOp) (same:Bool):Option V :=
 match T with
 | some i=>if i.kind=7 then (match op with | .eql=>some (.bool same) | .neq=>some (.bool !same)|_=>none) else none
 | none=>none
def cB2 (T:Option TyI) (op:BinOp) (x y:V):Option V :=
 match x,y with
 | .int k a,.int k' b=>if k=k' then bJ0 op k a b else none
 | .bool a,.bool b =>
  match T with
  | some i=>if i.kind=1 then (match op with | .eql=>some (.bool (a==b)) | .neq=>some (.bool (a != b))|_=>none) else none
  | none=>none
 | .str a,.str b=>(match op with | .eql=>some (.bool (a.toList==b.toList)) | .neq=>some (.bool (!(a.toList==b.toList)))|_=>none)
 | .T9,.T9=>bh8 T op true
 | .el _ _,.T9=>bh8 T op false
 | .ptr _ _,.T9=>bh8 T op false
 | _,_=>none
def aw6 (x:V) (n:Nat):Option V :=
 match x with
 | .ptr id off=>some (.ptr id (off+n))
 | .el cs off=>some (.el cs (off+n))
 | _=>none
def aW5:V→Option Nat
 | .int _ n=>if 0≤n then some n.toNat else none
 | _=>none
def al6 (d:Nat):Option V→Option Nat
 | none=>some d
 | some v=>aW5 v
def bo1 (c:Cap) (es:List (List V)) (lo hi mx:Option V):Option V :=
 match mx with
 | some m =>
  match al6 0 lo,hi.bind aW5,aW5 m with
  | some l,some h,some m=>if l≤h∧h≤m∧m=es.length∧h=m then some (.sl .full ((es.take h).drop l)) else none
  | _,_,_=>none
 | none =>
  match al6 0 lo,al6 es.length hi with
  | some l,some h=>if l≤h∧h≤es.length then some (.sl (if l=0∧h=es.length then c else .any) ((es.take h).drop l)) else none
  | _,_=>none
def bH6:V→Option Nat
 | .sl _ es=>some es.length
 | .slb _ n=>some n
 | _=>none
def E5 (P:Program) (ρ:Operand→V):Op→Option V
  | .move x | .assign x=>some (ρ x)
  | .pick c a b=>match ρ c with | .bool t=>some (if t then ρ a else ρ b)|_=>none
  | .build t parts =>
    match tyi P t with
    | some i => if i.kind=3∧i.fok=true then (aB0 (i.fields.map fun f=>(f.1,f.2.1)) i.zero (parts.toList.map fun p=>(p.1,ρ p.2))).map .agg
                else if i.kind=5∧i.c9≠0 then (aB0 ((List.range i.J6).map fun j=>(j * i.c9,i.c9)) i.zero (parts.toList.map fun p=>(p.1,ρ p.2))).map .agg else none
    | none=>none
  | .nilCheck x=>match ρ x with | .ptr id off=>some (.ptr id off) | .el cs off=>some (.el cs off)|_=>none
  | .binOp op t x y _=>cB2 (tyi P t) op (ρ x) (ρ y)
  | .unOp op _ x =>
    match op,ρ x with
    | .not,.bool b=>some (.bool !b)
    | .neg,.int k n=>some (.int k (k.wrap (0 - n)))
    | _,_=>none
  | .convert s d x =>
    match tyi P s,tyi P d,ρ x with
    | some _,some i,.int _ n=>i.ik.map fun k=>.int k (k.wrap n)
    | _,_,_=>none
  | .fieldAddr s x f =>
    match tyi P s with
    | some i=>(match i.fields[f]? with|some (off,size,_)=>if size=0 then none else aw6 (ρ x) off|none=>none)
    | none=>none
  | .field s x f =>
    match tyi P s,ρ x with
    | some i,.agg cs=>(match i.fields[f]? with|some (off,size,a)=>af1 a size cs off|none=>none)
    | _,_=>none
  | .indexAddr t x ix =>
    match tyi P t,ρ ix with
    | some i,.int _ n =>
      if i.kind=4 then
        (match ρ x with
        | .sl _ es=>if 0≤n then (match es[n.toNat]? with|some e=>if e.length=i.c9∧i.c9≠0 then some (.el e 0) else none|none=>none) else none
        | .slb id m=>if 0≤n∧n.toNat<m∧i.c9≠0 then some (.ptr id (n.toNat * i.c9)) else none
        | _=>none)
      else if i.kind=5∧0≤n∧n<i.J6∧i.c9≠0 then aw6 (ρ x) (n.toNat * i.c9) else none
    | _,_=>none
  | .index t x ix =>
    match tyi P t,ρ x,ρ ix with
    | some i,.agg cs,.int _ n=>if i.kind=5∧0≤n∧n<i.J6 then af1 i.M0 i.c9 cs (n.toNat * i.c9) else none
    | _,_,_=>none
  | .extract x i=>match ρ x with | .tup vs=>vs[i]? | _=>none
  | .slice t x lo hi mx =>
    match tyi P t,ρ x with
    | some i,.sl c es =>
      if i.kind=4∧i.c9≠0∧(lo.isNone=true∨es.all (fun e=>e.length==i.c9)=true) then bo1 c es (lo.map ρ) (hi.map ρ) (mx.map ρ) else none
    | _,_=>none
  | .makeFunc f first captured=>some (.fn f (first.toList.map ρ) (captured.toList.map ρ))
  | .typeAssert x _ t ok=>match tyi P t,ρ x with
    | some i,.iface t' v=>if i.kind=8 then none else if t'=t then some (if ok then .tup [v,.bool true] else v) else if ok then some (.tup [.undef,.bool false]) else none
    | _,_=>none
  | .makeInterface t x=>match tyi P t with|some i=>if i.kind=8 then none else some (.iface t (ρ x))|none=>none
  | .call { callee:=.builtin .len,args:=args,argTypes:=ts } =>
    match args.toList,ts.toList with
    | [x],[t]=>(match tyi P t,bH6 (ρ x) with|some i,some n=>if i.kind=4 then some (.int .i64 n) else none|_,_=>none)
    | _,_=>none
  | .call { callee:=.builtin .max,args:=args,.. } =>
    match args.toList.map ρ with
    | [.int k a,.int k' b]=>if k=k' then some (.int k (if b>a then b else a)) else none
    | _=>none
  | .call { callee:=.builtin .min,args:=args,.. } =>
    match args.toList.map ρ with
    | [.int k a,.int k' b]=>if k=k' then some (.int k (if b<a then b else a)) else none
    | _=>none
  | _=>none


def RVL (g:G) (w:World) (vs:Array Value) (cs:List V):Prop :=
 vs.size=cs.length∧∀ (i:Nat) (c:Value) (v:V),vs[i]? = some c→cs[i]? = some v→RV g w c v
theorem RVL.mono {g g':G} {w w':World} (x:Ext g w g' w') {vs:Array Value} {cs:List V} (h:RVL g w vs cs):RVL g' w' vs cs :=
 ⟨h.1,fun i c v a b=>(h.2 i c v a b).mono x⟩
theorem RVL.at {g:G} {w:World} {vs:Array Value} {cs:List V} (h:RVL g w vs cs) {i:Nat} {v:V} (hv:cs[i]? = some v) :
  ∃ c,vs[i]? = some c∧RV g w c v:=by
 have hi:i<cs.length:=by
  rcases Nat.lt_or_ge i cs.length with h'|h'
  ·exact h'
  ·simp [List.getElem?_eq_none h'] at hv
 have:i<vs.size:=by rw [h.1];exact hi
 exact ⟨vs[i],by simp [this],h.2 i _ v (by simp [this]) hv⟩
theorem RVL.mk {g:G} {w:World} {vs:Array Value} {cs:List V} (h:vs.size=cs.length)
    (r:∀ (i:Nat) (v:V),cs[i]? = some v→∃ c,vs[i]? = some c∧RV g w c v):RVL g w vs cs :=
  ⟨h,fun i c v a b=>by
    obtain ⟨c',h1,h2⟩:=r i v b;rw [a] at h1;cases h1;exact h2⟩

theorem bm8 (g:G) (w:World) (c:Value):RV g w c (aU0 c):=by
 cases c with
 | bool b=>exact .bool _
 | int k n=>exact .int _ _
 | string s=>exact .str _
 | pointer a=>cases a with
  | none=>exact .T9
  | some a=>exact .undef _
 | slice a len cap =>
  simp only [aU0];split
  ·rename_i h
   obtain ⟨rfl,rfl,rfl⟩:=h;exact .sl none 0 .full [] 0 (fun _=>.nilFunc) sp_ sp_ sp_ sp_ rfl
  ·exact .undef _
 | nilFunc=>exact .U9
 | nilIface=>exact .E7
 | func f first captured =>
  simp only [aU0];split
  ·rename_i h
   obtain ⟨h1,h2⟩:=h;exact .fn _ _ _ _ _ (by simpa using h1) (by simpa using h2) sp_ sp_
  ·exact .undef _
 | _=>exact .undef _
theorem ay6 (g:G) (w:World) (cs:Array Value):RVL g w cs (cs.toList.map aU0) :=
  ⟨sp_,fun i c v h1 h2=>by
    have:cs.toList[i]? = some c:=by simpa using h1
    simp only [List.getElem?_map,this,Option.map_some] at h2;cases h2;exact bm8 g w c⟩

theorem cT7 (g:G) (w:World) (c:Value):RV g w c (toV c):=by
 unfold toV;split
 ·exact .agg _ _ (ay6 g w _).1 (ay6 g w _).2
 ·exact bm8 g w _
theorem ab0 {g:G} {w:World} {c:Value} {v:V} (h:RV g w c v):RVL g w #[c] [v] :=
  ⟨rfl,fun i a b h1 h2=>by
    cases i with
    | zero=>simp at h1 h2;subst h1;subst h2;exact h
    | succ i=>simp at h2⟩

theorem as2 {g:G} {w:World} {c:Value} {v:V} {cs:List V} (h:RV g w c v) (hc:cellsOf v=some cs):RVL g w c.cells cs:=by
 cases h with
 | undef=>simp [cellsOf] at hc
 | agg vs cs' h r=>simp [cellsOf] at hc;subst hc;exact ⟨h,r⟩
 | tup=>simp [cellsOf] at hc
 | bool b=>simp [cellsOf] at hc;subst hc;exact ab0 (.bool b)
 | int k n=>simp [cellsOf] at hc;subst hc;exact ab0 (.int k n)
 | str s=>simp [cellsOf] at hc;subst hc;exact ab0 (.str s)
 | sl a cap c es k cell hk V0 E0 hr hcc=>simp [cellsOf] at hc;subst hc;exact ab0 (.sl a cap c es k cell hk V0 E0 hr hcc)
 | ptr id off h=>simp [cellsOf] at hc;subst hc;exact ab0 (.ptr id off h)
 | slb id n cap h h2=>simp [cellsOf] at hc;subst hc;exact ab0 (.slb id n cap h h2)
 | el b off cs o cell hl E0 hr=>simp [cellsOf] at hc;subst hc;exact ab0 (.el b off cs o cell hl E0 hr)
 | T9=>simp [cellsOf] at hc;subst hc;exact ab0 .T9
 | fn f fs cs fs' cs' h1 h2 r1 r2=>simp [cellsOf] at hc;subst hc;exact ab0 (.fn f fs cs fs' cs' h1 h2 r1 r2)
 | U9=>simp [cellsOf] at hc;subst hc;exact ab0 .U9
 | iface t c v r=>simp [cellsOf] at hc;subst hc;exact ab0 (.iface t c v r)
 | E7=>simp [cellsOf] at hc;subst hc;exact ab0 .E7
theorem ag1 (b off n:Nat):(⟨b,off,none⟩:Addr).add n=⟨b,off+n,none⟩:=by
 unfold Addr.add;split<;>simp_all
theorem bh7 {g:G} {w:World} {c:Value} {x v:V} {n:Nat} (h:RV g w c x) (hv:aw6 x n=some v) :
  ∃ b o,c=.pointer (some ⟨b,o,none⟩)∧RV g w (.pointer (some ⟨b,o+n,none⟩)) v:=by
 cases h with
 | ptr id off h=>simp [aw6] at hv;subst hv;exact ⟨_,_,rfl,.ptr id _ h⟩
 | el b off cs o cell hl E0 hr =>
  simp [aw6] at hv;subst hv;exact ⟨_,_,rfl,by rw [Nat.add_assoc];exact .el b off cs (o+n) cell hl E0 hr⟩
 | _=>simp [aw6] at hv
theorem aY3 {g:G} {w:World}:∀ (new:List V) (nw:List Value) (off:Nat) (vs:Array Value) (cs:List V),
    RVL g w vs cs→RVL g w nw.toArray new →
    RVL g w ((nw.zipIdx).foldl (fun a (c,j)=>a.setIfInBounds (off+j) c) vs) (I2 cs off new):=by
  suffices H:∀ (new:List V) (nw:List Value) (off k:Nat) (vs:Array Value) (cs:List V),
      RVL g w vs cs→RVL g w nw.toArray new →
      RVL g w ((nw.zipIdx k).foldl (fun a (c,j)=>a.setIfInBounds (off+j) c) vs) (I2 cs (off+k) new) by
    intro new nw off vs cs h1 h2;exact H new nw off 0 vs cs h1 h2
  intro new
  induction new with
  | nil =>
    intro nw off k vs cs h1 h2;have:nw=[]:=by have:=h2.1;simpa using this
    subst this;simpa [I2] using h1
  | cons v new ih =>
    intro nw off k vs cs h1 h2;cases nw with
    | nil=>have:=h2.1;simp at this
    | cons c nw =>
      simp only [List.zipIdx_cons,List.foldl_cons,I2];have hv:RV g w c v:=h2.2 0 c v sp_ sp_;have:=ih nw off (k+1) (vs.setIfInBounds (off+k) c) (cs.set (off+k) v) ⟨by simp [h1.1],fun i a b ha hb=>by
        rw [Array.getElem?_setIfInBounds] at ha;rw [List.getElem?_set] at hb;by_cases hi:off+k=i
        · subst hi
          simp only [if_true,h1.1] at ha hb;by_cases hl:off+k<cs.length
          · simp [hl] at ha hb;subst ha;subst hb;exact hv
          · simp [hl] at ha
        · simp [hi] at ha hb
          exact h1.2 i a b ha hb⟩ ⟨by have:=h2.1;simpa using this,fun i a b ha hb=>h2.2 (i+1) a b (by simpa using ha) (by simpa using hb)⟩
      simpa [Nat.add_assoc] using this

theorem bT6 {g:G} {w:World} (fields:List (Nat × Nat)) (place:Nat→Option (Nat × Nat)) (hp:∀ i x,fields[i]? = some x→place i=some x) :
  ∀ (cparts:List (Nat × Value)) (parts:List (Nat × V)) (vs:Array Value) (cs out:List V),
  parts.length=cparts.length→(∀ (i:Nat) (p:Nat × V) (q:Nat × Value),parts[i]? = some p→cparts[i]? = some q→p.1=q.1∧RV g w q.2 p.2) →
  RVL g w vs cs→aB0 fields cs parts=some out→∃ ws,Instr.fill place vs cparts=some ws∧RVL g w ws out:=by
 intro cparts
 induction cparts with
 | nil =>
  intro parts vs cs out hl _ h1 h2;have:parts=[]:=by simpa using hl
  subst this;simp [aB0] at h2;subst h2;exact ⟨vs,rfl,h1⟩
 | cons q cparts ih =>
  intro parts vs cs out hl hr h1 h2;cases parts with
  | nil=>simp at hl
  | cons p parts =>
   obtain ⟨i,v⟩:=p;obtain ⟨i',c⟩:=q;obtain ⟨e,hv⟩:=hr 0 _ _ rfl rfl;simp at e hv;subst e;simp only [aB0] at h2;split at h2
   ·rename_i off size xs hf hc
    split at h2
    ·rename_i hlen
     have hcc:=as2 hv hc;have:=ih parts _ _ out (by simpa using hl) (fun j p q hp hq=>hr (j+1) p q (by simpa using hp) (by simpa using hq))
      (aY3 xs c.cells.toList off vs cs h1 (by simpa using hcc)) h2
     obtain ⟨ws,hw,hws⟩:=this;refine ⟨ws,?_,hws⟩;simp only [Instr.fill,hp i _ hf];rw [if_neg (by simp [hcc.1,h1.1,hlen.1];omega)];rw [← Array.foldl_toList,Array.toList_zipIdx];exact hw
    ·simp at h2
   ·simp at h2
theorem S0 {P:Program} {t:TypeId} (h:au7 P t≠0):∃ i d,P.info? t=some i∧P.underlying t=some d∧i.size=au7 P t:=by
 unfold au7 at h ⊢;split at h
 ·rename_i i d hi hd;simp only [hi,hd];exact ⟨i,d,rfl,rfl,rfl⟩
 ·exact absurd rfl h
theorem bU4:∀ (es:List (List V)) (k n j:Nat) (el:List V) (v:V),(∀ e∈es,e.length=k)→es[n]? = some el→el[j]? = some v →
  es.flatten[n * k+j]? = some v:=by
 intro es
 induction es with
 | nil=>intro k n j el v _ h;simp at h
 | cons e es ih =>
  intro k n j el v hk h hj;cases n with
  | zero =>
   simp at h;subst h;have hl:j<e.length:=by
    rcases Nat.lt_or_ge j e.length with h'|h'
    ·exact h'
    ·simp [List.getElem?_eq_none h'] at hj
   rw [Nat.zero_mul,Nat.zero_add,List.flatten_cons,List.getElem?_append_left hl];exact hj
  | succ n =>
   simp at h;have he:=hk e sp_;have:=ih k n j el v (fun x hx=>hk x (by simp [hx])) h hj;rw [List.flatten_cons,List.getElem?_append_right (by rw [he,Nat.add_mul];omega),he,Nat.add_mul,Nat.one_mul];rw [show n * k+k+j - k=n * k+j by omega];exact this
theorem P6 {P:Program} {t:TypeId} {i:TyI} (h:tyi P t=some i):∃ inf d z,P.info? t=some inf∧P.underlying t=some d∧inf.zero=some z ∧
    i.size=inf.size∧i.bytes=inf.bytes∧i.agg=aq7 P t∧i.zero=z.cells.toList.map aU0 ∧
    (i.kind=3→∃ fs,d=.struct fs∧i.fields=fs.toList.map (fun f=>(f.offset,au7 P f.type,aq7 P f.type))∧i.fok=fs.toList.all (fun f=>au7 P f.type != 0)) ∧
    (i.kind=4→∃ e,d=.slice e∧i.c9=au7 P e∧i.A1=bytesOf P e∧i.M0=aq7 P e) ∧
    (i.kind=5→∃ n e,d=.array n e∧i.J6=n∧i.c9=au7 P e∧i.M0=aq7 P e) ∧
    (i.kind=1→d=.bool)∧(∀ k,i.ik=some k→d=.int k)∧(i.kind≠8→∀ ms,d≠.interface ms) ∧
    (∀ (f:Nat) x,i.fields[f]? = some x→∃ (fs:Array Field) (fd:Field),d=.struct fs∧fs[f]? = some fd∧x=(fd.offset,au7 P fd.type,aq7 P fd.type)) ∧
    (∀ e,(d=.slice e∨∃ n,d=.array n e)→i.c9=au7 P e ∧
      ∀ j,P.info? e=some j→i.B9=(match j.zero with|some z=>z.cells.toList.map aU0|none=>[])):=by
  unfold tyi at h;split at h
  case h_2=>simp at h
  rename_i inf d hi hd;split at h
  case h_2=>simp at h
  rename_i z hz;cases h;refine ⟨inf,d,z,hi,hd,hz,rfl,rfl,rfl,rfl,?_,?_,?_,?_,?_,?_,?_,?_⟩
  · intro hk;cases d<;>simp at hk;exact ⟨_,rfl,rfl,rfl⟩
  · intro hk;cases d<;>simp at hk;exact ⟨_,rfl,rfl,rfl,rfl⟩
  · intro hk;cases d<;>simp at hk;exact ⟨_,_,rfl,rfl,rfl,rfl⟩
  · intro hk;cases d<;>simp at hk;rfl
  · intro k hk;cases d<;>simp at hk;subst hk;rfl
  · intro hk ms e;subst e;exact hk rfl
  · intro f x hf
    cases d with
    | struct fs =>
      simp only [List.getElem?_map] at hf;cases hh:fs.toList[f]? with
      | none=>simp [hh] at hf
      | some fd =>
        simp only [hh,Option.map_some,Option.some.injEq] at hf;exact ⟨fs,fd,rfl,by simpa using hh,hf.symm⟩
    | _=>simp at hf
  · intro e he
    rcases he with rfl|⟨n,rfl⟩
    · exact ⟨rfl,fun j hj=>by simp only [hj]<;>cases j.zero<;>rfl⟩
    · exact ⟨rfl,fun j hj=>by simp only [hj]<;>cases j.zero<;>rfl⟩

theorem as9 {P:Program} {t:TypeId} {d:TypeDesc} (h:P.underlying t=some d) (w:World):(isAgg t).run P w=.ok (aq7 P t) w:=by
 simp only [isAgg,aq7,h,Sem.run_bind,run_underlying h];cases d<;>simp
theorem E1 {P:Program} {t:TypeId} {i:TypeInfo} (h:P.info? t=some i) (w:World):(Go.sizeOf t).run P w=.ok i.size w:=by
 simp [Go.sizeOf,typeInfo,h]
theorem aP2 {P:Program} (w:World):∀ (fs:List Field),(∀ f∈fs,au7 P f.type≠0) →
  (fs.mapM fun f=>Prod.mk f.offset <$> Go.sizeOf f.type).run P w=.ok (fs.map fun f=>(f.offset,au7 P f.type)) w
 | [],_=>rfl
 | f::fs,h=>by
  obtain ⟨i,d,hi,hd,hs⟩:=S0 (h f sp_);have ih:=aP2 w fs (fun x hx=>h x (by simp [hx]));simp [List.mapM_cons,E1 hi,ih,hs]
theorem aM2:∀ (es:List (List V)) (k h:Nat),(∀ e∈es,e.length=k)→es.flatten.take (h * k)=(es.take h).flatten
  | [],k,h,_=>by simp
  | e::es,k,0,_=>by simp
  | e :: es,k,h+1,hk=>by
    have he:=hk e sp_;have ih:=aM2 es k h (fun x hx=>hk x (by simp [hx]));rw [List.flatten_cons,List.take_succ_cons,List.flatten_cons,← ih,List.take_append,he,Nat.add_mul,Nat.one_mul,
      List.take_of_length_le om_,show h * k+k - k=h * k by omega]

theorem aN2:∀ (es:List (List V)) (k l:Nat),(∀ e∈es,e.length=k)→(es.drop l).flatten=es.flatten.drop (l * k)
  | [],k,l,_=>by simp
  | e::es,k,0,_=>by simp
  | e :: es,k,l+1,hk=>by
    have he:=hk e sp_;have ih:=aN2 es k l (fun x hx=>hk x (by simp [hx]));have e1:e.drop (l * k+k)=[]:=List.drop_of_length_le om_;rw [List.flatten_cons,List.drop_succ_cons,ih,List.drop_append,he,Nat.add_mul,Nat.one_mul,e1,
      show l * k+k - k=l * k by omega,List.nil_append]

def aq8 (P:Program) (g:G) (w:World) (s:Sem Next) (v:V):Prop:=∃ c,s.run P w=.ok (.value c) w∧RV g w c v
theorem bi7 {P:Program} {g:G} {w:World} {t:TypeId} {vs:Array Value} {cs:List V} {off:Nat} {v:V} (hr:RVL g w vs cs)
  (h:af1 (aq7 P t) (au7 P t) cs off=some v):∃ c,(part t vs off).run P w=.ok c w∧RV g w c v:=by
 unfold af1 at h;split at h
 ·simp at h
 ·rename_i hs
  obtain ⟨i,d,hi,hd,hsz⟩:=S0 hs;cases ha:aq7 P t with
  | true =>
   simp only [ha,if_true] at h;split at h
   ·rename_i hl
    cases h;refine ⟨.agg (vs.extract off (off+au7 P t)),by simp [part,as9 hd,ha,E1 hi,hsz],?_⟩;refine .agg _ _ (by simp [hr.1];omega) fun j c v hc hv=>?_;rw [Array.getElem?_extract] at hc;rw [List.getElem?_take,List.getElem?_drop] at hv;split at hv
    ·rename_i hj
     rw [if_pos (by rw [hr.1];omega)] at hc;exact hr.2 _ _ _ hc hv
    ·simp at hv
   ·simp at h
  | false =>
   simp only [ha,Bool.false_eq_true,if_false] at h;obtain ⟨c,hc,hrc⟩:=hr.at h;exact ⟨c,by simp [part,as9 hd,ha,hc],hrc⟩
theorem run_equalIn_bool {P:Program} {t:TypeId} (h:P.underlying t=some .bool) (d:Nat) (a b:Bool) (w:World) :
  (Op.equalIn (d+1) t (.bool a) (.bool b)).run P w=.ok (a==b) w:=by
 simp [Op.equalIn,run_underlying h]
theorem run_equal_bool {P:Program} {t:TypeId} (h:P.underlying t=some .bool) (a b:Bool) (w:World) :
  (Op.equal t (.bool a) (.bool b)).run P w=.ok (a==b) w:=run_equalIn_bool h 9999 a b w
theorem bp3 {P:Program} {t:TypeId} {i:TyI} (h:tyi P t=some i) (hk:i.kind=7):∃ e,P.underlying t=some (.pointer e):=by
 unfold tyi at h;split at h
 case h_2=>simp at h
 rename_i inf d hi hd;split at h
 case h_2=>simp at h
 cases h;cases d<;>simp at hk
 exact ⟨_,hd⟩
theorem aV9 {P:Program} {t e:TypeId} (h:P.underlying t=some (.pointer e)) (d:Nat) (w:World):(Op.equalIn (d+1) t (.pointer none) (.pointer none)).run P w=.ok true w:=by
 simp [Op.equalIn,run_underlying h]
theorem aZ3 {P:Program} {t e:TypeId} (h:P.underlying t=some (.pointer e)) (d:Nat) (a:Addr) (w:World):(Op.equalIn (d+1) t (.pointer (some a)) (.pointer none)).run P w=.ok false w:=by
 simp [Op.equalIn,run_underlying h]
theorem at0 {P:Program} {t e:TypeId} (h:P.underlying t=some (.pointer e)) (w:World):(Op.equal t (.pointer none) (.pointer none)).run P w=.ok true w:=aV9 h 9999 w
theorem au8 {P:Program} {t e:TypeId} (h:P.underlying t=some (.pointer e)) (a:Addr) (w:World):(Op.equal t (.pointer (some a)) (.pointer none)).run P w=.ok false w:=aZ3 h 9999 a w
section
variable {P:Program} {g:G} {w:World} {ρc:Operand→Value} {ρ:Operand→V} (hρ:∀ x,RV g w (ρc x) (ρ x))
include hρ
theorem cU8 {o:Oper} {c a b:Operand} {v:V} (ho:o.op=.pick c a b) (h:E5 P ρ o.op=some v):aq8 P g w (execOp ρc o) v:=by
 rw [ho] at h;simp only [E5] at h;have hc:=hρ c;split at h
 ·rename_i t ht
  rw [ht] at hc;cases h;cases hc':ρc c<;>rw [hc'] at hc<;>cases hc
  refine ⟨if t then ρc a else ρc b,?_,?_⟩
  ·simp [execOp,ho,hc',asBool]
  ·cases t
   ·simpa using hρ b
   ·simpa using hρ a
 ·simp at h
theorem cB9 {o:Oper} {t:TypeId} {parts:Array (Nat × Operand)} {v:V} (ho:o.op=.build t parts) (h:E5 P ρ o.op=some v) :
    aq8 P g w (execOp ρc o) v:=by
  rw [ho] at h;simp only [E5] at h;split at h
  case h_2=>simp at h
  rename_i i hi;have bj7:∀ (j:Nat) (p:Nat × V) (q:Nat × Value),(parts.toList.map fun p=>(p.1,ρ p.2))[j]? = some p →
      (parts.map fun p=>(p.1,ρc p.2)).toList[j]? = some q→p.1=q.1∧RV g w q.2 p.2:=by
    intro j p q hp hq;simp only [List.getElem?_map,Array.toList_map] at hp hq;cases hh:parts.toList[j]? with
    | none=>simp [hh] at hp
    | some x =>
      simp [hh] at hp hq;subst hp;subst hq;exact ⟨rfl,hρ _⟩
  obtain ⟨inf,d,z,h1,h2,h0,_,_,_,hz,hk3,_,hk5,_,_,_,_,_⟩:=P6 hi;split at h
  · rename_i hk
    obtain ⟨fs,rfl,h3,h4⟩:=hk3 hk.1;cases hf:aB0 (i.fields.map fun f=>(f.1,f.2.1)) i.zero (parts.toList.map fun p=>(p.1,ρ p.2)) with
    | none=>simp [hf] at h
    | some out =>
      simp [hf] at h;subst h;have bd2:∀ f∈fs.toList,au7 P f.type≠0:=by
        have:=hk.2;rw [h4,List.all_eq_true] at this;intro f hf;simpa using this f hf
      obtain ⟨ws,hw1,hw2⟩:=bT6 (g:=g) (w:=w) (i.fields.map fun f=>(f.1,f.2.1)) ((fs.toList.map fun f=>(f.offset,au7 P f.type))[·]?)
        (by intro j x hx;rw [← hx,h3];simp [List.map_map,Function.comp_def])
        (parts.map fun p=>(p.1,ρc p.2)).toList (parts.toList.map fun p=>(p.1,ρ p.2)) z.cells i.zero out sp_ bj7 (by rw [hz];exact ay6 g w _) hf
      refine ⟨.agg ws,?_,.agg _ _ hw2.1 hw2.2⟩;have:=aP2 (P:=P) w fs.toList bd2;simp [execOp,ho,Instr.build,zeroValue,typeInfo,h1,h0,run_underlying h2,Array.mapM_eq_mapM_toList,this];simp at hw1;rw [hw1];simp
  · split at h
    · rename_i hk
      obtain ⟨n,e,rfl,h3,h4,_⟩:=hk5 hk.1;cases hf:aB0 ((List.range i.J6).map fun j=>(j * i.c9,i.c9)) i.zero (parts.toList.map fun p=>(p.1,ρ p.2)) with
      | none=>simp [hf] at h
      | some out =>
        simp [hf] at h;subst h;obtain ⟨ie,de,he1,he2,he3⟩:=S0 (P:=P) (t:=e) (by rw [← h4];exact hk.2);obtain ⟨ws,hw1,hw2⟩:=bT6 (g:=g) (w:=w) ((List.range i.J6).map fun j=>(j * i.c9,i.c9)) (fun i=>some (i * ie.size,ie.size))
          (by
            intro j x hx;rw [List.getElem?_map] at hx;cases hr:(List.range i.J6)[j]? with
            | none=>simp [hr] at hx
            | some y =>
              have:y=j:=by
                obtain ⟨h',e'⟩:=List.getElem?_eq_some_iff.1 hr;simpa using e'.symm
              subst this;simp [hr] at hx;rw [← hx,h4,he3])
          (parts.map fun p=>(p.1,ρc p.2)).toList (parts.toList.map fun p=>(p.1,ρ p.2)) z.cells i.zero out sp_ bj7 (by rw [hz];exact ay6 g w _) hf
        refine ⟨.agg ws,?_,.agg _ _ hw2.1 hw2.2⟩;simp [execOp,ho,Instr.build,zeroValue,typeInfo,h1,h0,run_underlying h2,E1 he1];simp at hw1;rw [hw1];simp
    · simp at h

theorem bI2 {o:Oper} {x:Operand} {v:V} (ho:o.op=.nilCheck x) (h:E5 P ρ o.op=some v):aq8 P g w (execOp ρc o) v:=by
 rw [ho] at h;simp only [E5] at h;have hx:=hρ x;split at h
 ·rename_i id off hv
  cases h;rw [hv] at hx;cases hc:ρc x<;>rw [hc] at hx<;>cases hx
  exact ⟨_,by simp [execOp,ho,hc],.ptr _ _ as_⟩
 ·rename_i cs off hv
  cases h;rw [hv] at hx;have hx':=hx;cases hc:ρc x<;>rw [hc] at hx<;>cases hx
  refine ⟨ρc x,by simp [execOp,ho,hc],hx'⟩
 ·simp at h
omit hρ in
theorem cx4 {k:IntKind} {a b:Int}:Sem.run P (Op.intBits .and k a b) w=.ok (.int k (bb8 k a b)) w:=rfl
omit hρ in
theorem cV2 {k:IntKind} {a b:Int}:Sem.run P (Op.intBits .or k a b) w=.ok (.int k (cB0 k a b)) w:=rfl
theorem cz5 {o:Oper} {op:BinOp} {t yt:TypeId} {x y:Operand} {v:V} (ho:o.op=.binOp op t x y yt) (h:E5 P ρ o.op=some v) :
    aq8 P g w (execOp ρc o) v:=by
  rw [ho] at h;simp only [E5] at h;have hx:=hρ x;have hy:=hρ y;unfold cB2 at h;split at h
  · rename_i k a k' b hva hvb
    rw [hva] at hx;rw [hvb] at hy;cases hcx:ρc x<;>rw [hcx] at hx<;>cases hx
    cases hcy:ρc y<;>rw [hcy] at hy<;>cases hy
    split at h
    · rename_i hk;subst hk
      cases op<;>simp only [bJ0] at h
      all_goals first
        | (cases h;exact ⟨_,by simp [execOp,ho,hcx,hcy,eqGuard,binOp,Op.intArith,cx4,cV2],.int _ _⟩)
        | (cases h;exact ⟨_,by simp [execOp,ho,hcx,hcy,eqGuard,binOp,Op.intCmp],.bool _⟩)
        | (split at h
           · simp at h
           · rename_i hb
             cases h;exact ⟨_,by simp [execOp,ho,hcx,hcy,eqGuard,binOp,Op.intDiv,hb],.int _ _⟩)
        | (simp at h;done)
    · simp at h
  · rename_i a b hva hvb
    rw [hva] at hx;rw [hvb] at hy;cases hcx:ρc x<;>rw [hcx] at hx<;>cases hx
    cases hcy:ρc y<;>rw [hcy] at hy<;>cases hy
    split at h
    · rename_i i hi
      split at h
      · rename_i hk
        obtain ⟨inf,d,z,h1,h2,h0,_,_,_,hz,_,_,_,hk1,_,_,_,_⟩:=P6 hi;have hd:=hk1 hk;subst hd;cases op<;>simp at h
        all_goals
          subst h;refine ⟨_,?_,.bool _⟩;simp only [execOp,ho,hcx,hcy,eqGuard,binOp];simp [run_equal_bool h2]
          try (cases a<;>cases b<;>rfl)
      · simp at h
    · simp at h
  · rename_i a b hva hvb
    rw [hva] at hx;rw [hvb] at hy;cases hcx:ρc x<;>rw [hcx] at hx<;>cases hx
    cases hcy:ρc y<;>rw [hcy] at hy<;>cases hy
    cases op<;>simp at h
    all_goals (subst h;exact ⟨_,by simp [execOp,ho,hcx,hcy,eqGuard,binOp,Op.stringOp],.bool _⟩)
  · rename_i hva hvb
    rw [hva] at hx;rw [hvb] at hy;unfold bh8 at h;split at h
    case h_2=>simp at h
    rename_i i hi;split at h
    case isFalse=>simp at h
    rename_i hk;obtain ⟨e,h2⟩:=bp3 hi hk;generalize hcy:ρc y=cy at hy;cases hy;generalize hcx:ρc x=cx at hx;cases hx;cases op<;>simp at h
    all_goals
      subst h;refine ⟨_,?_,.bool _⟩;simp only [execOp,ho,hcx,hcy,eqGuard,binOp];simp [at0 h2,au8 h2]
  · rename_i c1 c2 hva hvb
    rw [hva] at hx;rw [hvb] at hy;unfold bh8 at h;split at h
    case h_2=>simp at h
    rename_i i hi;split at h
    case isFalse=>simp at h
    rename_i hk;obtain ⟨e,h2⟩:=bp3 hi hk;generalize hcy:ρc y=cy at hy;cases hy;generalize hcx:ρc x=cx at hx;cases hx;cases op<;>simp at h
    all_goals
      subst h;refine ⟨_,?_,.bool _⟩;simp only [execOp,ho,hcx,hcy,eqGuard,binOp];simp [at0 h2,au8 h2]
  · rename_i c1 c2 hva hvb
    rw [hva] at hx;rw [hvb] at hy;unfold bh8 at h;split at h
    case h_2=>simp at h
    rename_i i hi;split at h
    case isFalse=>simp at h
    rename_i hk;obtain ⟨e,h2⟩:=bp3 hi hk;generalize hcy:ρc y=cy at hy;cases hy;generalize hcx:ρc x=cx at hx;cases hx;cases op<;>simp at h
    all_goals
      subst h;refine ⟨_,?_,.bool _⟩;simp only [execOp,ho,hcx,hcy,eqGuard,binOp];simp [at0 h2,au8 h2]
  · simp at h

theorem cW2 {o:Oper} {op:UnOp} {t:TypeId} {x:Operand} {v:V} (ho:o.op=.unOp op t x) (h:E5 P ρ o.op=some v):aq8 P g w (execOp ρc o) v:=by
 rw [ho] at h;simp only [E5] at h;have hx:=hρ x;split at h
 ·rename_i b hv
  cases h;rw [hv] at hx;cases hc:ρc x<;>rw [hc] at hx<;>cases hx
  exact ⟨_,by simp [execOp,ho,hc,Op.unary],.bool _⟩
 ·rename_i k n hv
  cases h;rw [hv] at hx;cases hc:ρc x<;>rw [hc] at hx<;>cases hx
  exact ⟨_,by simp [execOp,ho,hc,Op.unary,Op.intArith],.int _ _⟩
 ·simp at h
theorem cb9 {o:Oper} {sT d:TypeId} {x:Operand} {v:V} (ho:o.op=.convert sT d x) (h:E5 P ρ o.op=some v):aq8 P g w (execOp ρc o) v:=by
 rw [ho] at h;simp only [E5] at h;have hx:=hρ x;split at h
 ·rename_i j i k n hj hi hv
  obtain ⟨_,d1,_,_,h1,_⟩:=P6 hj;obtain ⟨inf,d2,z,_,h2,_,_,_,_,_,_,_,_,_,hik,_,_,_⟩:=P6 hi;cases hk:i.ik with
  | none=>simp [hk] at h
  | some k' =>
   simp [hk] at h;subst h;have:=hik k' hk;subst this;rw [hv] at hx;cases hc:ρc x<;>rw [hc] at hx<;>cases hx
   exact ⟨_,by simp [execOp,ho,hc,convert,run_underlying h1,run_underlying h2,Conv.intToInt],.int _ _⟩
 ·simp at h
theorem bz6 {o:Oper} {s:TypeId} {f:Nat} {x:Operand} {v:V} (ho:o.op=.fieldAddr s x f) (h:E5 P ρ o.op=some v):aq8 P g w (execOp ρc o) v:=by
 rw [ho] at h;simp only [E5] at h;split at h
 case h_2=>simp at h
 rename_i i hi;obtain ⟨inf,d,z,_,h2,_,_,_,_,_,_,_,_,_,_,_,hf,_⟩:=P6 hi;split at h
 case h_2=>simp at h
 rename_i off size a hfx;obtain ⟨fs,fd,rfl,hfd,he⟩:=hf f _ hfx;simp only [Prod.mk.injEq] at he;obtain ⟨rfl,rfl,rfl⟩:=he;split at h
 ·simp at h
 ·rename_i hsz
  obtain ⟨j,dj,hj1,hj2,hj3⟩:=S0 hsz;obtain ⟨b,o',hc,hr⟩:=bh7 (hρ x) h;refine ⟨_,?_,hr⟩;simp [execOp,ho,Instr.fieldAt,run_underlying h2,hfd,hc,Instr.sureAddr,fieldPlace,E1 hj1,hj3,hsz,ag1]
theorem cG5 {o:Oper} {s:TypeId} {f:Nat} {x:Operand} {v:V} (ho:o.op=.field s x f) (h:E5 P ρ o.op=some v):aq8 P g w (execOp ρc o) v:=by
 rw [ho] at h;simp only [E5] at h;have hx:=hρ x;split at h
 case h_2=>simp at h
 rename_i i cs hi hv;obtain ⟨inf,d,z,_,h2,_,_,_,_,_,_,_,_,_,_,_,hf,_⟩:=P6 hi;split at h
 case h_2=>simp at h
 rename_i off size a hfx;obtain ⟨fs,fd,rfl,hfd,he⟩:=hf f _ hfx;simp only [Prod.mk.injEq] at he;obtain ⟨rfl,rfl,rfl⟩:=he;rw [hv] at hx;cases hc:ρc x<;>rw [hc] at hx<;>cases hx
 rename_i vs hl hr;obtain ⟨c,hc1,hc2⟩:=bi7 (w:=w) ⟨hl,hr⟩ h;exact ⟨c,by simp [execOp,ho,Instr.field,run_underlying h2,hfd,hc,asAgg,hc1],hc2⟩
theorem bv3 {o:Oper} {t:TypeId} {x ix:Operand} {v:V} (ho:o.op=.indexAddr t x ix) (h:E5 P ρ o.op=some v):aq8 P g w (execOp ρc o) v:=by
 rw [ho] at h;simp only [E5] at h;have hx:=hρ x;have hix:=hρ ix;split at h
 case h_2=>simp at h
 rename_i i k n hi hn;rw [hn] at hix;cases hcx:ρc ix<;>rw [hcx] at hix<;>cases hix
 obtain ⟨inf,d,z,h1,h2,h0,_,_,_,hz,_,hk4,hk5,_⟩:=P6 hi;split at h
 ·rename_i hk
  split at h
  case h_3=>simp at h
  case h_2 =>
   rename_i id m hv;split at h
   case isFalse=>simp at h
   rename_i hlen;cases h;obtain ⟨e,rfl,hes,_,_⟩:=hk4 hk;obtain ⟨ie,de,he1,he2,he3⟩:=S0 (P:=P) (t:=e) (by rw [← hes];exact hlen.2.2);rw [hv] at hx;cases hc:ρc x<;>rw [hc] at hx<;>cases hx
   rename_i cap hd V0;refine ⟨.pointer (some ⟨g.loc id,n.toNat * ie.size,none⟩),?_,?_⟩
   ·have:¬ (n<0):=by omega
    simp [execOp,ho,Instr.indexAt,hcx,hc,asIntOf,run_underlying h2,E1 he1,hlen.1,ag1];intro hge;exact absurd ((Int.toNat_lt hlen.1).1 hlen.2.1) (Int.not_lt.2 hge)
   ·rw [hes,← he3];exact .ptr id _ hd
  rename_i c es hv;split at h
  case isFalse=>simp at h
  rename_i hn0;obtain ⟨e,rfl,hes,_,_⟩:=hk4 hk;split at h
  case h_2=>simp at h
  rename_i el hel;split at h
  case isFalse=>simp at h
  rename_i hlen;cases h;obtain ⟨ie,de,he1,he2,he3⟩:=S0 (P:=P) (t:=e) (by rw [← hes];exact hlen.2);rw [hv] at hx;cases hc:ρc x<;>rw [hc] at hx<;>cases hx
  rename_i a cap k' cell hk' hr E0 V0 hcc;have hlt:n.toNat<es.length:=by
   rcases Nat.lt_or_ge n.toNat es.length with h'|h'
   ·exact h'
   ·simp [List.getElem?_eq_none h'] at hel
  have hne:es≠[]:=by intro e;subst e;simp at hlt
  obtain ⟨b,off,rfl,N3,Y0⟩:=E0 hne;have at5:el∈es:=List.mem_of_getElem? hel;have hkk:k'=ie.size:=by rw [← hk' _ at5,hlen.1,hes,he3]
  subst hkk;have dd1:∀ j v,el[j]? = some v→es.flatten[n.toNat * ie.size+j]? = some v:=fun j v hj=>bU4 es ie.size n.toNat j el v hk' hel hj;have hbound:(n.toNat+1) * ie.size≤es.length * ie.size:=Nat.mul_le_mul_right _ om_;rw [Nat.add_mul,Nat.one_mul] at hbound;refine ⟨.pointer (some ⟨b,off+n.toNat * ie.size+0,none⟩),?_,?_⟩
  ·have:¬ (n<0):=by omega
   simp [execOp,ho,Instr.indexAt,hcx,hc,asIntOf,run_underlying h2,E1 he1,hn0,ag1];intro hge;omega
  ·refine .el b (off+n.toNat * ie.size) el 0 (fun j=>cell (n.toNat * ie.size+j)) ?_ ?_ ?_
   ·rw [hk' _ at5];omega
   ·intro j hj
    rw [hk' _ at5] at hj;rw [Nat.add_assoc];exact Y0 _ om_
   ·intro j v hj
    exact hr _ _ (dd1 j v hj)
 ·split at h
  case isFalse=>simp at h
  rename_i hk;obtain ⟨m,e,rfl,ham,hes,_⟩:=hk5 hk.1;obtain ⟨ie,de,he1,he2,he3⟩:=S0 (P:=P) (t:=e) (by rw [← hes];exact hk.2.2.2);obtain ⟨b,o',hc,hr⟩:=bh7 hx h;refine ⟨_,?_,hr⟩;have:=hk.2.2.1;rw [ham] at this;simp [execOp,ho,Instr.indexAt,hcx,hc,asIntOf,run_underlying h2,E1 he1,hk.2.1,ag1,Instr.sureAddr,this,hes,he3]
theorem cH4 {o:Oper} {t:TypeId} {x ix:Operand} {v:V} (ho:o.op=.index t x ix) (h:E5 P ρ o.op=some v):aq8 P g w (execOp ρc o) v:=by
 rw [ho] at h;simp only [E5] at h;have hx:=hρ x;have hix:=hρ ix;split at h
 case h_2=>simp at h
 rename_i i cs k n hi hv hn;rw [hn] at hix;cases hcx:ρc ix<;>rw [hcx] at hix<;>cases hix
 rw [hv] at hx;cases hc:ρc x<;>rw [hc] at hx<;>cases hx
 rename_i vs hl hr;split at h
 case isFalse=>simp at h
 rename_i hk;obtain ⟨inf,d,z,h1,h2,h0,_,_,_,hz,_,_,hk5,_⟩:=P6 hi;obtain ⟨m,e,rfl,ham,hes,hag⟩:=hk5 hk.1;rw [hag,hes] at h;have hne:au7 P e≠0:=by
  intro e0;rw [e0] at h;simp [af1] at h
 obtain ⟨ie,de,he1,he2,he3⟩:=S0 hne;obtain ⟨c,hc1,hc2⟩:=bi7 (w:=w) ⟨hl,hr⟩ h;have:=hk.2.2;rw [ham] at this;exact ⟨c,by simp [execOp,ho,Instr.index,hcx,hc,asIntOf,run_underlying h2,E1 he1,he3,hk.2.1,this,hc1],hc2⟩
theorem bZ4 {o:Oper} {x:Operand} {j:Nat} {v:V} (ho:o.op=.extract x j) (h:E5 P ρ o.op=some v):aq8 P g w (execOp ρc o) v:=by
 rw [ho] at h;simp only [E5] at h;have hx:=hρ x;split at h
 case h_2=>simp at h
 rename_i vs hv;rw [hv] at hx;cases hc:ρc x<;>rw [hc] at hx<;>cases hx
 rename_i cs hl hr;obtain ⟨c,hc1,hc2⟩:=(show RVL g w cs vs from ⟨hl,hr⟩).at h;exact ⟨c,by simp [execOp,ho,Instr.extract,hc,hc1],hc2⟩
theorem aI6 (xs:Array Operand):RVL g w (xs.map ρc) (xs.toList.map ρ) :=
  ⟨sp_,fun i c v hc hv=>by
    simp only [List.getElem?_map,Array.getElem?_map] at hc hv;cases hh:xs[i]? with
    | none=>simp [hh] at hc
    | some y =>
      have:xs.toList[i]? = some y:=by simpa using hh
      simp [hh] at hc;simp [this] at hv;subst hc;subst hv;exact hρ y⟩

theorem bI9 {o:Oper} {f:Fn} {a b:Array Operand} {v:V} (ho:o.op=.makeFunc f a b) (h:E5 P ρ o.op=some v):aq8 P g w (execOp ρc o) v:=by
 rw [ho] at h;simp only [E5] at h;cases h;have ha:=aI6 hρ a;have hb:=aI6 hρ b;exact ⟨_,by simp [execOp,ho,Instr.makeFunc],.fn _ _ _ _ _ ha.1 hb.1 ha.2 hb.2⟩
theorem bk4 {o:Oper} {t t0:TypeId} {x:Operand} {ok:Bool} {v:V} (ho:o.op=.typeAssert x t0 t ok) (h:E5 P ρ o.op=some v):aq8 P g w (execOp ρc o) v:=by
 rw [ho] at h;simp only [E5] at h;have hx:=hρ x;split at h
 case h_2=>simp at h
 rename_i i t' u hi hv;rw [hv] at hx;generalize hcx:ρc x=cx at hx;cases hx with|iface _ c _ hr=>?_
 obtain ⟨inf,d,z,h1,h2,h0,_,_,_,hz,_,_,_,_,_,h8,_⟩:=P6 hi;split at h
 ·simp at h
 rename_i hk;have hd:=h8 hk;split at h
 ·rename_i e;subst e
  cases ok with
  | true =>
   simp at h;subst h;refine ⟨.tuple #[c,.bool true],?_,.tup _ _ rfl (fun i a b h1 h2=>?_)⟩
   ·simp [execOp,ho,hcx,Instr.typeAssert,run_underlying h2]
   ·match i with
    | 0=>simp at h1 h2;subst h1;subst h2;exact hr
    | 1=>simp at h1 h2;subst h1;subst h2;exact .bool _
    | i+2=>simp at h2
  | false =>
   simp at h;subst h;exact ⟨c,by simp [execOp,ho,hcx,Instr.typeAssert,run_underlying h2],hr⟩
 ·rename_i hne
  cases ok with
  | true =>
   simp at h;subst h;refine ⟨.tuple #[z,.bool false],?_,.tup _ _ rfl (fun i a b h1 h2=>?_)⟩
   ·simp [execOp,ho,hcx,Instr.typeAssert,run_underlying h2,hne,zeroValue,typeInfo,h1,h0]
   ·match i with
    | 0=>simp at h1 h2;subst h1;subst h2;exact .undef _
    | 1=>simp at h1 h2;subst h1;subst h2;exact .bool _
    | i+2=>simp at h2
  | false=>simp at h
theorem aU2 {o:Oper} {t:TypeId} {x:Operand} {v:V} (ho:o.op=.makeInterface t x) (h:E5 P ρ o.op=some v):aq8 P g w (execOp ρc o) v:=by
 rw [ho] at h;simp only [E5] at h;split at h
 case h_2=>simp at h
 rename_i i hi;split at h
 ·simp at h
 ·rename_i hk
  cases h;obtain ⟨inf,d,z,h1,h2,h0,_,_,_,hz,_,_,_,_,_,h8,_⟩:=P6 hi;refine ⟨_,?_,.iface _ _ _ (hρ x)⟩;have:=h8 hk;simp [execOp,ho,Instr.makeInterface,run_underlying h2]
omit hρ in
theorem aY1 {c:Value} {v:V} {n:Nat} (h:RV g w c v) (hn:aW5 v=some n):∃ k,c=.int k n:=by
 cases h with
 | int k m =>
  simp only [aW5] at hn;split at hn
  ·rename_i h0
   cases hn;exact ⟨k,by rw [Int.toNat_of_nonneg h0]⟩
  ·simp at hn
 | _=>simp [aW5] at hn
omit hρ in
theorem run_sliceBound {k:IntKind} {n y:Nat} {code:BoundsCode} (h:n≤y):(Instr.sliceBound (.int k n) y code).run P w=.ok n w:=by
 simp [Instr.sliceBound,asIntOf,h]
omit hρ in
theorem cp6 {a:Option Addr} {cap k l h sz:Nat} {es:List (List V)} {cell:Nat→Value} {c':Cap}
  (hk:∀ e∈es,e.length=k) (V0:es.length≤cap)
  (E0:es≠[]→∃ b off,a=some ⟨b,off,none⟩∧off+es.length * k≤g.lim b∧∀ i,i<es.length * k→w.cell? ⟨b,off+i,none⟩=some (cell i))
  (hr:∀ (i:Nat) (v:V),es.flatten[i]? = some v→RV g w (cell i) v) (hl:l≤h) (hh:h≤es.length) (m:Nat) (hm:h≤m)
  (hsz:l=0∨∀ e∈es,e.length=sz)
  (hc:bt2 g (if m=l then a else a.map (·.add (l * sz))) (h - l) (m - l) k c') :
  RV g w (.slice (if m=l then a else a.map (·.add (l * sz))) (h - l) (m - l)) (.sl c' ((es.take h).drop l)):=by
 have hlen:((es.take h).drop l).length=h - l:=by simp;omega
 rw [show (h - l)=((es.take h).drop l).length from hlen.symm] at hc ⊢;have at5:∀ e∈(es.take h).drop l,e∈es:=fun e he=>List.mem_of_mem_take (List.mem_of_mem_drop he);have hkk:l * sz=l * k∨(es.take h).drop l=[]:=by
  rcases hsz with hsz|hsz
  ·subst hsz;simp
  ·cases hes:es with
   | nil=>right;simp
   | cons e es' =>
    left
    rw [← hk e (by simp [hes]),← hsz e (by simp [hes])]
 refine .sl _ _ c' _ k (fun i=>cell (l * k+i)) (fun e he=>hk e (at5 e he)) (by rw [hlen];omega) (fun hne=>?_) (fun i v hv=>?_) hc
 ·have hlt:l<h:=by
   rcases Nat.lt_or_ge l h with h'|h'
   ·exact h'
   ·exfalso;apply hne;exact List.eq_nil_of_length_eq_zero om_
  obtain ⟨b,off,rfl,N3,Y0⟩:=E0 (by intro e;subst e;simp at hh;omega);have e1:l * sz=l * k:=hkk.resolve_right hne;have hb:h * k≤es.length * k:=Nat.mul_le_mul_right _ hh;have hlk:(h - l) * k+l * k=h * k:=by rw [← Nat.add_mul];congr 1;omega
  refine ⟨b,off+l * k,?_,?_,?_⟩
  ·rw [if_neg om_,e1];simp [ag1]
  ·rw [hlen];omega
  ·intro i hi
   rw [hlen] at hi;rw [Nat.add_assoc];exact Y0 _ om_
 ·apply hr
  have:((es.take h).drop l).flatten=(es.flatten.take (h * k)).drop (l * k):=by
   rw [aM2 es k h hk,aN2 (es.take h) k l (fun e he=>hk e (List.mem_of_mem_take he))]
  rw [this,List.getElem?_drop,List.getElem?_take] at hv;split at hv
  ·exact hv
  ·simp at hv
omit hρ in
theorem bE1 {lo hi:Option Value} {len cap l h:Nat} (hl:(lo=none∧l=0)∨∃ k,lo=some (.int k l)) (hh:(hi=none∧h=len)∨∃ k,hi=some (.int k h))
  (h1:l≤h) (h2:h≤cap):(Instr.sliceBounds true len cap lo hi none).run P w=.ok (l,h,cap) w:=by
 rcases hl with ⟨rfl,rfl⟩|⟨k,rfl⟩<;>rcases hh with ⟨rfl,rfl⟩|⟨k',rfl⟩ <;>
  simp [Instr.sliceBounds,run_sliceBound h1,run_sliceBound h2]
omit hρ in
theorem bw3 {lo:Option Value} {len cap l h m:Nat} {k1 k2:IntKind} (hl:(lo=none∧l=0)∨∃ k,lo=some (.int k l))
  (h1:l≤h) (h2:h≤m) (h3:m≤cap):(Instr.sliceBounds true len cap lo (some (.int k1 h)) (some (.int k2 m))).run P w=.ok (l,h,m) w:=by
 rcases hl with ⟨rfl,rfl⟩|⟨k,rfl⟩ <;>
  simp [Instr.sliceBounds,run_sliceBound h1,run_sliceBound h2,run_sliceBound h3]
theorem aZ0 {x:Option Operand} {d n:Nat} (h:al6 d (x.map ρ)=some n):(x.map ρc=none∧n=d)∨∃ k,x.map ρc=some (.int k n):=by
 cases x with
 | none=>simp [al6] at h;exact .inl ⟨rfl,h.symm⟩
 | some z =>
  simp [al6] at h;obtain ⟨k,e⟩:=aY1 (hρ z) h;exact .inr ⟨k,by simp [e]⟩
theorem cH2 {o:Oper} {t:TypeId} {x:Operand} {lo hi mx:Option Operand} {v:V} (ho:o.op=.slice t x lo hi mx) (h:E5 P ρ o.op=some v) :
  aq8 P g w (execOp ρc o) v:=by
 rw [ho] at h;simp only [E5] at h;have hx:=hρ x;split at h
 case h_2=>simp at h
 rename_i i c es hi' hv;split at h
 case isFalse=>simp at h
 rename_i hk;obtain ⟨inf,d,z,h1,h2,h0,_,_,_,hz,_,hk4,_⟩:=P6 hi';obtain ⟨e,rfl,hes,_,_⟩:=hk4 hk.1;obtain ⟨ie,de,he1,he2,he3⟩:=S0 (P:=P) (t:=e) (by rw [← hes];exact hk.2.1);rw [hv] at hx;have hx0:=hx;cases hc:ρc x<;>rw [hc] at hx<;>cases hx
 rename_i a cap k cell hkk hr E0 V0 hcc;have hsz:∀ l,al6 0 (lo.map ρ)=some l→l=0∨∀ e∈es,e.length=ie.size:=by
  intro l hl;rcases hk.2.2 with h'|h'
  ·left
   cases lo with
   | none=>simp [al6] at hl;exact hl.symm
   | some y=>simp at h'
  ·right;intro e he
   rw [List.all_eq_true] at h';have:=h' e he;rw [he3,← hes];simpa using this
 unfold bo1 at h;split at h
 ·rename_i m hm
  cases mx with
  | none=>simp at hm
  | some mo =>
   simp at hm;subst hm;split at h
   case h_2=>simp at h
   rename_i l hh m' hl' hhi hm';split at h
   case isFalse=>simp at h
   rename_i hb;cases h;cases hi with
   | none=>simp at hhi
   | some ho' =>
    simp at hhi;obtain ⟨k1,e1⟩:=aY1 (hρ mo) hm';obtain ⟨k2,e2⟩:=aY1 (hρ ho') hhi;refine ⟨_,?_,cp6 (l:=l) (h:=hh) (sz:=ie.size) (m:=m') hkk V0 E0 hr hb.1 om_ hb.2.1 (hsz l hl') ?_⟩
    ·have:=bw3 (P:=P) (w:=w) (len:=es.length) (k1:=k2) (k2:=k1) (aZ0 hρ hl') hb.1 hb.2.1 (show m'≤cap by omega)
     simp [execOp,ho,Instr.sliceAt,Instr.slice,run_underlying h2,hc,e1,e2,this,E1 he1]
    ·show m' - l=hh - l
     omega
 ·rename_i hm
  cases mx with
  | some mo=>simp at hm
  | none =>
   split at h
   case h_2=>simp at h
   rename_i l hh hl' hhi;split at h
   case isFalse=>simp at h
   rename_i hb;cases h;have:=bE1 (P:=P) (w:=w) (aZ0 hρ hl') (aZ0 hρ hhi) hb.1 (show hh≤cap by omega);refine ⟨.slice (if cap=l then a else a.map (·.add (l * ie.size))) (hh - l) (cap - l),?_,?_⟩
   ·simp [execOp,ho,Instr.sliceAt,Instr.slice,run_underlying h2,hc,this,E1 he1]
   ·by_cases hz':l=0∧hh=es.length
    ·obtain ⟨rfl,rfl⟩:=hz'
     simp only [and_self,if_true,List.take_length,List.drop_zero,Nat.zero_mul,Nat.sub_zero];rw [hc] at hx0;cases a with
     | none=>simpa using hx0
     | some a' =>
      have:a'.add 0=a':=by simp [Addr.add]
      simpa [this] using hx0
    ·rw [if_neg hz']
     exact cp6 (l:=l) (h:=hh) (sz:=ie.size) (m:=cap) hkk V0 E0 hr hb.1 hb.2 om_ (hsz l hl') trivial
theorem db8 {o:Oper} {c:Call} {v:V} (ho:o.op=.call c) (at1:c.callee=.builtin .len) (h:E5 P ρ o.op=some v):aq8 P g w (execOp ρc o) v:=by
 obtain ⟨callee,args,ts⟩:=c;simp only at at1;subst at1;rw [ho] at h;simp only [E5] at h;split at h
 case h_2=>simp at h
 rename_i x t ak8 hts;split at h
 case h_2=>simp at h
 rename_i i n hi hn;split at h
 case isFalse=>simp at h
 rename_i hk;cases h;obtain ⟨inf,d,z,h1,h2,h0,_,_,_,hz,_,hk4,_⟩:=P6 hi;obtain ⟨e,rfl,_⟩:=hk4 hk;have ha:args=#[x]:=by cases args;simp_all
 have ht:ts=#[t]:=by cases ts;simp_all
 subst ha;subst ht;have hx:=hρ x;cases hv:ρ x with
 | sl c es =>
  rw [hv] at hx hn;simp only [bH6,Option.some.injEq] at hn;subst hn;cases hc:ρc x<;>rw [hc] at hx<;>cases hx
  refine ⟨_,?_,.int _ _⟩;simp [execOp,ho,resolve,invoke,builtin,Builtin.len_,run_underlying h2,hc,goInt]
 | slb id m =>
  rw [hv] at hx hn;simp only [bH6,Option.some.injEq] at hn;subst hn;cases hc:ρc x<;>rw [hc] at hx<;>cases hx
  refine ⟨_,?_,.int _ _⟩;simp [execOp,ho,resolve,invoke,builtin,Builtin.len_,run_underlying h2,hc,goInt]
 | str s=>rw [hv] at hn;simp [bH6] at hn
 | _=>rw [hv] at hn;simp [bH6] at hn
theorem de6 {o:Oper} {c:Call} {v:V} (ho:o.op=.call c) (at1:c.callee=.builtin .max) (h:E5 P ρ o.op=some v):aq8 P g w (execOp ρc o) v:=by
 obtain ⟨callee,args,ts⟩:=c;simp only at at1;subst at1;rw [ho] at h;simp only [E5] at h;split at h
 case h_2=>simp at h
 rename_i k a k' b ak8;split at h
 case isFalse=>simp at h
 rename_i hk;subst hk;cases h;have hl:=congrArg List.length ak8;simp at hl;obtain ⟨x,y,rfl⟩:∃ x y,args=#[x,y]:=by
  obtain ⟨l⟩:=args
  match l,hl with
  | [x,y],_=>exact ⟨x,y,rfl⟩
 simp at ak8;have hx:=hρ x;have hy:=hρ y;rw [ak8.1] at hx;rw [ak8.2] at hy;cases hcx:ρc x<;>rw [hcx] at hx<;>cases hx
 cases hcy:ρc y<;>rw [hcy] at hy<;>cases hy
 refine ⟨_,?_,.int _ _⟩;simp [execOp,ho,resolve,invoke,builtin,Builtin.max_,hcx,hcy,Builtin.max2]
theorem df6 {o:Oper} {c:Call} {v:V} (ho:o.op=.call c) (at1:c.callee=.builtin .min) (h:E5 P ρ o.op=some v):aq8 P g w (execOp ρc o) v:=by
 obtain ⟨callee,args,ts⟩:=c;simp only at at1;subst at1;rw [ho] at h;simp only [E5] at h;split at h
 case h_2=>simp at h
 rename_i k a k' b ak8;split at h
 case isFalse=>simp at h
 rename_i hk;subst hk;cases h;have hl:=congrArg List.length ak8;simp at hl;obtain ⟨x,y,rfl⟩:∃ x y,args=#[x,y]:=by
  obtain ⟨l⟩:=args
  match l,hl with
  | [x,y],_=>exact ⟨x,y,rfl⟩
 simp at ak8;have hx:=hρ x;have hy:=hρ y;rw [ak8.1] at hx;rw [ak8.2] at hy;cases hcx:ρc x<;>rw [hcx] at hx<;>cases hx
 cases hcy:ρc y<;>rw [hcy] at hy<;>cases hy
 refine ⟨_,?_,.int _ _⟩;simp [execOp,ho,resolve,invoke,builtin,Builtin.min_,hcx,hcy,Builtin.min2]
theorem bw7 {o:Oper} {v:V} (h:E5 P ρ o.op=some v):aq8 P g w (execOp ρc o) v:=by
 cases ho:o.op with
 | move x=>rw [ho] at h;simp only [E5] at h;cases h;exact ⟨_,by simp [execOp,ho],hρ x⟩
 | assign x=>rw [ho] at h;simp only [E5] at h;cases h;exact ⟨_,by simp [execOp,ho],hρ x⟩
 | pick c a b=>exact cU8 hρ ho h
 | build t ps=>exact cB9 hρ ho h
 | nilCheck x=>exact bI2 hρ ho h
 | binOp op t x y yt=>exact cz5 hρ ho h
 | unOp op t x=>exact cW2 hρ ho h
 | convert a b x=>exact cb9 hρ ho h
 | fieldAddr s x f=>exact bz6 hρ ho h
 | field s x f=>exact cG5 hρ ho h
 | indexAddr t x i=>exact bv3 hρ ho h
 | index t x i=>exact cH4 hρ ho h
 | extract x i=>exact bZ4 hρ ho h
 | slice t x lo hi mx=>exact cH2 hρ ho h
 | makeFunc f a b=>exact bI9 hρ ho h
 | typeAssert x t0 t ok=>exact bk4 hρ ho h
 | makeInterface t x=>exact aU2 hρ ho h
 | call c =>
  obtain ⟨callee,args,ts⟩:=c;cases callee with
  | builtin b =>
   cases b with
   | len=>exact db8 hρ ho rfl h
   | max=>exact de6 hρ ho rfl h
   | min=>exact df6 hρ ho rfl h
   | _=>rw [ho] at h;simp [E5] at h
  | _=>rw [ho] at h;simp [E5] at h
 | _=>rw [ho] at h;simp [E5] at h
end
structure Eff where
 v:V
 reads:List Id
 writes:List (Id × Obj)
def u9 (h:H) (id:Id) (o:Obj):H:=fun j=>if j=id then some o else h j
def J2 (h:H):List (Id × Obj)→H
 | []=>h
 | (id,o)::l=>J2 (u9 h id o) l
def ab6:V→Bool
 | .agg _ | .tup _ | .undef=>false
 | _=>true
def ak9 (k:Nat) (es:List (List V)):List (Nat × V)→Option (List (List V))
 | []=>some es
 | (i,v)::rest =>
  match cellsOf v with
  | some cs=>if cs.length=k∧i<es.length then ak9 k (es.set i cs) rest else none
  | none=>none
def Q7 (P:Program) (ρ:Operand→V) (look:H) (nid:Id):Op→Option Eff
  | .alloc t =>
    match tyi P t,look nid with
    | some i,none=>some ⟨.ptr nid 0,[nid],[(nid,.box i.zero)]⟩
    | _,_=>none
  | .box t x =>
    if (tyi P t).any (·.frz)=true then (cellsOf (ρ x)).map fun cs=>⟨.el cs 0,[],[]⟩ else
    match cellsOf (ρ x),look nid with
    | some cs,none=>some ⟨.ptr nid 0,[nid],[(nid,.box cs)]⟩
    | _,_=>none
  | .buildSlice t len parts =>
    match tyi P t with
    | some i =>
      if i.kind=4∧i.c9≠0∧i.B9.length=i.c9∧len * i.c9≤16777216 then
        (ak9 i.c9 (List.replicate len i.B9) (parts.toList.map fun p=>(p.1,ρ p.2))).map fun es=>⟨.sl .full es,[],[]⟩
      else none
    | none=>none
  | .load t a =>
    match tyi P t,ρ a with
    | some i,.ptr id off=>(match look id with|some (.box cs)=>(af1 i.agg i.size cs off).map fun v=>⟨v,[id],[]⟩|_=>none)
    | some i,.el cs off=>(af1 i.agg i.size cs off).map fun v=>⟨v,[],[]⟩
    | _,_=>none
  | .store t a x =>
    match tyi P t,ρ a,cellsOf (ρ x) with
    | some i,.ptr id off,some xs =>
      (match look id with
      | some (.box cs) =>
        if xs.length=i.size∧off+xs.length≤cs.length∧xs.all ab6=true then some ⟨.undef,[id],[(id,.box (I2 cs off xs))]⟩ else none
      | _=>none)
    | _,_,_=>none
  | .call { callee:=.builtin .append,args:=args,argTypes:=ts } =>
    match args.toList.map ρ,ts.toList.map (tyi P) with
    | [.sl c es,.sl _ xs],[some i,some j] =>
      if i.kind=4∧j.kind=4∧i.c9≠0∧i.B9.length=i.c9∧es.all (fun e=>e.length==i.c9)=true∧xs.all (fun e=>e.length==i.c9)=true ∧
          xs.flatten.all ab6=true∧(es.length+xs.length) * i.A1≤140737488355328∧es.length+xs.length≤140737488355328 then
        (match c with
        | .own id=>(match look id with|some (.tok n k)=>if n=es.length∧k=i.c9 then some ⟨.sl (.own id) (es++xs),[id],[(id,.tok (es.length+xs.length) i.c9)]⟩ else none|_=>none)
        | .full=>(match look nid with|none=>some ⟨.sl (.own nid) (es++xs),[nid],[(nid,.tok (es.length+xs.length) i.c9)]⟩|some _=>none)
        | .any=>none)
      else none
    | _,_=>none
  | _=>none

def Sim (P:Program) (env:Nat→Option (List V)) (g:G) (w:World) (h:H) (s:Sem Next) (eff:Eff):Prop :=
 ∃ c w' g',(s.run P w=.ok (.value c) w'∨(s.run P w=.ok .skip w'∧c=undef))∧Ext g w g' w'∧Rel env g' w' (J2 h eff.writes)∧RV g' w' c eff.v
theorem Rel.lt {env:Nat→Option (List V)} {g:G} {w:World} {h:H} (r:Rel env g w h) {id:Id} {cs:List V} (hb:h id=some (.box cs)) :
  g.loc id<w.heap.size:=by
 obtain ⟨vs,⟨ty,hc⟩,_⟩:=r.box id cs hb;exact (Array.getElem?_eq_some_iff.1 hc).1
theorem Rel.cn4 {env:Nat→Option (List V)} {g:G} {w:World} {h:H} (r:Rel env g w h) {b:Nat} (hb:0<g.lim b):b<w.heap.size:=by
 rcases Nat.lt_or_ge b w.heap.size with h'|h'
 ·exact h'
 ·have:=r.C4 b h';omega
theorem ch5.lt {g:G} {w:World} {id:Id} (s:ch5 g w id):∃ a,(g.buf id).a=some a∧a.block<w.heap.size:=by
 obtain ⟨b,off,vs,h1,⟨ty,h2⟩,_⟩:=s;exact ⟨_,h1,(Array.getElem?_eq_some_iff.1 h2).1⟩
theorem bM9 {env:Nat→Option (List V)} {g:G} {w:World} {h:H} (r:Rel env g w h) {nid:Id} (hn:h nid=none) {vs:Array Value} {cs:List V}
    (hv:RVL g w vs cs) (t:TypeId) :
    ∃ g',Ext g w g' (w.alloc (.cells vs t))∧Rel env g' (w.alloc (.cells vs t)) (u9 h nid (.box cs))∧RV g' (w.alloc (.cells vs t)) (.pointer (some ⟨w.heap.size,0,none⟩)) (.ptr nid 0):=by
  have hold:∀ b,b<w.heap.size→(w.alloc (.cells vs t)).heap[b]? = w.heap[b]? := fun b hb=>Go.RowKit.Below.heap_alloc w _ b hb;have ax4:(w.alloc (.cells vs t)).heap[w.heap.size]? = some (.cells vs t (0,0)):=by show (w.heap.push _)[w.heap.size]? = _;simp
  have hdn:g.dom nid=false:=by
    cases hd:g.dom nid with
    | false=>rfl
    | true=>exact absurd hn ((r.dom nid).1 hd)
  let g' : G := { g with wr:=fun b=>if b=w.heap.size then true else g.wr b,loc:=fun id=>if id=nid then w.heap.size else g.loc id,
                         dom:=fun id=>if id=nid then true else g.dom id,top:=max g.top (nid.gen+1) }
  have hx:Ext g w g' (w.alloc (.cells vs t)):=by
    refine ⟨rfl,rfl,rfl,sp_,fun _=>Nat.le_refl _,?_,?_,?_,Nat.le_max_left _ _⟩
    · intro b o ho
      have hb:=r.cn4 (b:=b) om_;exact World.cell?_alloc_lt w _ _ hb
    · intro b hb hw
      exact ⟨hold b hb,by show (if b=w.heap.size then true else g.wr b)=false;rw [if_neg om_];exact hw⟩
    · intro id hid
      have hne:id≠nid:=by intro e;rw [e,hdn] at hid;exact Bool.noConfusion hid
      exact ⟨by show (if id=nid then true else g.dom id)=true;rw [if_neg hne];exact hid,
        by show (if id=nid then w.heap.size else g.loc id)=g.loc id;rw [if_neg hne],.inl rfl⟩
  refine ⟨g',hx,?_,?_⟩
  · have ac0:∀ id cs',u9 h nid (.box cs) id=some (.box cs')→(id=nid∧cs'=cs)∨(id≠nid∧h id=some (.box cs')):=by
      intro id cs' e;by_cases hid:id=nid
      · subst hid;simp [u9] at e;exact .inl ⟨rfl,e.symm⟩
      · simp [u9,hid] at e;exact .inr ⟨hid,e⟩
    have ae2:∀ id n k,u9 h nid (.box cs) id=some (.tok n k)→id≠nid∧h id=some (.tok n k):=by
      intro id n k e;by_cases hid:id=nid
      · subst hid;simp [u9] at e
      · simp [u9,hid] at e;exact ⟨hid,e⟩
    have bd1:∀ id,id≠nid→g'.loc id=g.loc id:=fun id hid=>by show (if id=nid then w.heap.size else g.loc id)=_;rw [if_neg hid]
    have bf3:g'.loc nid=w.heap.size:=by show (if nid=nid then w.heap.size else g.loc nid)=_;rw [if_pos rfl]
    refine ⟨?_,?_,?_,?_,?_,?_,?_,?_,?_⟩
    · intro id
      show (if id=nid then true else g.dom id)=true↔u9 h nid (.box cs) id≠none;by_cases hid:id=nid
      · simp [u9,hid]
      · simp only [u9,if_neg hid];exact r.dom id
    · intro id hid
      show id.gen<max g.top (nid.gen+1);by_cases e:id=nid
      · subst e;omega
      · simp only [u9,if_neg e] at hid
        have:=r.top id hid;omega
    · intro id cs' e
      rcases ac0 id cs' e with ⟨rfl,rfl⟩|⟨hid,e'⟩
      · refine ⟨vs,⟨t,by rw [bf3];exact ax4⟩,hv.1,(hv.mono hx).2,?_,?_⟩
        · rw [bf3];exact r.C4 _ (Nat.le_refl _)
        · rw [bf3];show (if w.heap.size=w.heap.size then true else _)=true;rw [if_pos rfl]
      · obtain ⟨vs',⟨ty,h1⟩,h2,h3,h4,h5⟩:=r.box id cs' e'
        have hlt:=r.lt e';refine ⟨vs',⟨ty,by rw [bd1 id hid,hold _ hlt];exact h1⟩,h2,fun i c v a b=>(h3 i c v a b).mono hx,by rw [bd1 id hid];exact h4,?_⟩;rw [bd1 id hid];show (if g.loc id=w.heap.size then true else g.wr (g.loc id))=true;rw [if_neg om_];exact h5
    · intro id id' c1 c2 e1 e2 e
      rcases ac0 id c1 e1 with ⟨rfl,rfl⟩|⟨hid,e1'⟩<;>rcases ac0 id' c2 e2 with ⟨rfl,rfl⟩|⟨bp8,e2'⟩
      · rfl
      · rw [bf3,bd1 id' bp8] at e;have:=r.lt e2';omega
      · rw [bf3,bd1 id hid] at e;have:=r.lt e1';omega
      · rw [bd1 id hid,bd1 id' bp8] at e;exact r.inj id id' c1 c2 e1' e2' e
    · intro id n k e
      obtain ⟨hid,e'⟩:=ae2 id n k e;obtain ⟨h1,h2,h3,hk⟩:=r.tok id n k e';refine ⟨h1,h2,fun hlt=>?_,hk⟩;obtain ⟨b,off,vs',s1,⟨ty,s2⟩,s3,s4,s5⟩:=h3 hlt;have hb:b<w.heap.size:=(Array.getElem?_eq_some_iff.1 s2).1;exact ⟨b,off,vs',s1,⟨ty,by rw [hold b hb];exact s2⟩,s3,s4,by show (if b=w.heap.size then true else g.wr b)=true;rw [if_neg om_];exact s5⟩
    · intro id id' n k c e hlt e2 a ha
      obtain ⟨hid,e'⟩:=ae2 id n k e;rcases ac0 id' c e2 with ⟨rfl,rfl⟩|⟨bp8,e2'⟩
      · rw [bf3]
        obtain ⟨_,_,h3,_⟩:=r.tok id n k e';obtain ⟨a',ha',aO0⟩:=(h3 hlt).lt;have:a=a':=by
          have h9:(g.buf id).a=some a:=ha;rw [h9] at ha';exact Option.some.inj ha'
        subst this;omega
      · rw [bd1 id' bp8];exact r.apart id id' n k c e' hlt e2' a ha
    · intro id id' n n' k k' e hlt e2 al9 a a' ha ha' hab
      exact r.T8 id id' n n' k k' (ae2 id n k e).2 hlt (ae2 id' n' k' e2).2 al9 a a' ha ha' hab
    · intro b hb
      simp only [World.size_alloc] at hb;exact r.C4 b om_
    · intro k cs' e;exact (r.glob k cs' e).mono hx
  · have:RV g' (w.alloc (.cells vs t)) (.pointer (some ⟨g'.loc nid,0,none⟩)) (.ptr nid 0) :=
      .ptr nid 0 (by show (if nid=nid then true else g.dom nid)=true;rw [if_pos rfl])
    have e:g'.loc nid=w.heap.size:=by show (if nid=nid then w.heap.size else g.loc nid)=_;rw [if_pos rfl]
    rw [e] at this;exact this

theorem aJ3 {env:Nat→Option (List V)} {g:G} {w:World} {h:H} (r:Rel env g w h) (vs:Array Value) (t:TypeId) :
    ∃ g',Ext g w g' (w.alloc (.cells vs t))∧Rel env g' (w.alloc (.cells vs t)) h∧g'.lim w.heap.size=vs.size:=by
  have hold:∀ b,b<w.heap.size→(w.alloc (.cells vs t)).heap[b]? = w.heap[b]? := fun b hb=>Go.RowKit.Below.heap_alloc w _ b hb
  let g':G:={ g with lim:=fun b=>if b=w.heap.size then vs.size else g.lim b }
  have N3:∀ b,b≠w.heap.size→g'.lim b=g.lim b:=fun b hb=>by show (if b=w.heap.size then vs.size else g.lim b)=_;rw [if_neg hb]
  have hx:Ext g w g' (w.alloc (.cells vs t)):=by
    refine ⟨rfl,rfl,rfl,sp_,?_,?_,?_,?_,Nat.le_refl _⟩
    · intro b
      by_cases hb:b=w.heap.size
      · have:=r.C4 b om_;omega
      · rw [N3 b hb];exact Nat.le_refl _
    · intro b o ho
      have hb:=r.cn4 (b:=b) om_;exact World.cell?_alloc_lt w _ _ hb
    · intro b hb hw;exact ⟨hold b hb,hw⟩
    · intro id hid;exact ⟨hid,rfl,.inl rfl⟩
  refine ⟨g',hx,?_,by show (if w.heap.size=w.heap.size then vs.size else _)=_;rw [if_pos rfl]⟩;refine ⟨r.dom,r.top,?_,r.inj,?_,r.apart,r.T8,?_,fun k cs' e=>(r.glob k cs' e).mono hx⟩
  · intro id cs' e'
    obtain ⟨vs',⟨ty,h1⟩,h2,h3,h4,h5⟩:=r.box id cs' e';have hlt:=r.lt e';exact ⟨vs',⟨ty,by show _=_;rw [hold _ hlt];exact h1⟩,h2,fun i c v a b=>(h3 i c v a b).mono hx,
      by show g'.lim (g.loc id)=0;rw [N3 _ om_];exact h4,h5⟩
  · intro id n k e'
    obtain ⟨h1,h2,h3,hk⟩:=r.tok id n k e';refine ⟨h1,h2,fun hlt=>?_,hk⟩;obtain ⟨b,off,vs',s1,⟨ty,s2⟩,s3,s4,s5⟩:=h3 hlt;have hb:b<w.heap.size:=(Array.getElem?_eq_some_iff.1 s2).1;exact ⟨b,off,vs',s1,⟨ty,by rw [hold b hb];exact s2⟩,s3,by rw [N3 b om_];exact s4,s5⟩
  · intro b hb
    simp only [World.size_alloc] at hb;rw [N3 b om_];exact r.C4 b om_

theorem B0 {h:H} {id:Id} {o:Obj}:u9 h id o id=some o:=by simp [u9]
theorem l8 {h:H} {id id':Id} {o:Obj} (hne:id'≠id):u9 h id o id'=h id':=by simp [u9,hne]
theorem bQ6 {env:Nat→Option (List V)} {g:G} {w:World} {h:H} (r:Rel env g w h) {id:Id} {cs0:List V} (h0:h id=some (.box cs0))
  {vs:Array Value} {cs:List V} (hv:RVL g w vs cs) :
  Ext g w g (w.setRow (g.loc id) vs)∧Rel env g (w.setRow (g.loc id) vs) (u9 h id (.box cs)):=by
 obtain ⟨vs0,⟨ty,hb1⟩,hb2,hb3,hb4,hb5⟩:=r.box id cs0 h0;have hold:∀ b,b≠g.loc id→(w.setRow (g.loc id) vs).heap[b]? = w.heap[b]? := fun b hb=>setRow_other w _ _ vs hb;have ax4:=setRow_heap w (g.loc id) vs0 vs ty (0,0) hb1;have hx:Ext g w g (w.setRow (g.loc id) vs):=by
  refine ⟨rfl,rfl,rfl,sp_,fun _=>Nat.le_refl _,?_,?_,fun id h=>⟨h,rfl,.inl rfl⟩,Nat.le_refl _⟩
  ·intro b o ho
   exact cell_setRow_other w _ vs _ (by intro e;simp only at e;rw [e,hb4] at ho;omega)
  ·intro b _ hw
   exact ⟨hold b (by intro e;rw [e,hb5] at hw;exact Bool.noConfusion hw),hw⟩
 have ac0:∀ id' cs',u9 h id (.box cs) id'=some (.box cs')→(id'=id∧cs'=cs)∨(id'≠id∧h id'=some (.box cs')):=by
  intro id' cs' e;by_cases hid:id'=id
  ·subst hid;simp [u9] at e;exact .inl ⟨rfl,e.symm⟩
  ·simp [u9,hid] at e;exact .inr ⟨hid,e⟩
 have cp5:∀ id' cs',u9 h id (.box cs) id'=some (.box cs')→∃ cs2,h id'=some (.box cs2):=by
  intro id' cs' e;rcases ac0 id' cs' e with ⟨rfl,rfl⟩|⟨_,e'⟩
  ·exact ⟨_,h0⟩
  ·exact ⟨_,e'⟩
 have ae2:∀ id' n k,u9 h id (.box cs) id'=some (.tok n k)→id'≠id∧h id'=some (.tok n k):=by
  intro id' n k e;by_cases hid:id'=id
  ·subst hid;simp [u9] at e
  ·simp [u9,hid] at e;exact ⟨hid,e⟩
 refine ⟨hx,?_,?_,?_,?_,?_,?_,?_,?_,fun k cs' e=>(r.glob k cs' e).mono hx⟩
 ·intro id'
  by_cases hid:id'=id
  ·subst hid;simp only [u9,if_true];rw [r.dom,h0];simp
  ·simp only [u9,if_neg hid];exact r.dom id'
 ·intro id' bp8
  by_cases hid:id'=id
  ·subst hid;exact r.top id' (by rw [h0];simp)
  ·simp only [u9,if_neg hid] at bp8;exact r.top id' bp8
 ·intro id' cs' e
  rcases ac0 id' cs' e with ⟨rfl,rfl⟩|⟨hid,e'⟩
  ·exact ⟨vs,⟨ty,ax4⟩,hv.1,(hv.mono hx).2,hb4,hb5⟩
  ·obtain ⟨vs',⟨ty',h1⟩,h2,h3,h4,h5⟩:=r.box id' cs' e'
   have hne:g.loc id'≠g.loc id:=fun e=>hid (r.inj id' id cs' cs0 e' h0 e);exact ⟨vs',⟨ty',by rw [hold _ hne];exact h1⟩,h2,fun i c v a b=>(h3 i c v a b).mono hx,h4,h5⟩
 ·intro i1 i2 c1 c2 e1 e2 e
  obtain ⟨x1,y1⟩:=cp5 i1 c1 e1;obtain ⟨x2,y2⟩:=cp5 i2 c2 e2;exact r.inj i1 i2 x1 x2 y1 y2 e
 ·intro id' n k e
  obtain ⟨hid,e'⟩:=ae2 id' n k e;obtain ⟨h1,h2,h3,hk⟩:=r.tok id' n k e';refine ⟨h1,h2,fun hlt=>?_,hk⟩;obtain ⟨b,off,vs',s1,⟨ty',s2⟩,s3,s4,s5⟩:=h3 hlt;have:=r.apart id' id n k cs0 e' (by rw [← h1] at hlt ⊢;exact hlt) h0 _ s1;exact ⟨b,off,vs',s1,⟨ty',by rw [hold b this];exact s2⟩,s3,s4,s5⟩
 ·intro i1 i2 n k c e hlt e2
  obtain ⟨x2,y2⟩:=cp5 i2 c e2;exact r.apart i1 i2 n k x2 (ae2 i1 n k e).2 hlt y2
 ·intro i1 i2 n n' k k' e hlt e2 al9
  exact r.T8 i1 i2 n n' k k' (ae2 i1 n k e).2 hlt (ae2 i2 n' k' e2).2 al9
 ·intro b hb
  simp only [size_setRow] at hb;exact r.C4 b hb
theorem Sim.bn1 {P:Program} {env:Nat→Option (List V)} {g:G} {w:World} {h:H} {s:Sem Next} {v:V} {rs:List Id} (r:Rel env g w h) (x:aq8 P g w s v) :
  Sim P env g w h s ⟨v,rs,[]⟩:=by
 obtain ⟨c,h1,h2⟩:=x;exact ⟨c,w,g,.inl h1,Ext.refl g w,r,h2⟩
theorem aw3 {g:G} {w:World} {c:Value} {v:V} (h:RV g w c v) (ho:ab6 v=true):c.oneCell'=true:=by
 cases h<;>first|rfl|simp [ab6] at ho
section
variable {P:Program} {env:Nat→Option (List V)} {g:G} {w:World} {h:H} {ρc:Operand→Value} {ρ:Operand→V} (r:Rel env g w h) (hρ:∀ x,RV g w (ρc x) (ρ x))
include r hρ
omit hρ in
theorem cw4 {o:Oper} {t:TypeId} {nid:Id} {eff:Eff} (ho:o.op=.alloc t) (he:Q7 P ρ h nid o.op=some eff):Sim P env g w h (execOp ρc o) eff:=by
 rw [ho] at he;simp only [Q7] at he;split at he
 case h_2=>simp at he
 rename_i i hi hn;cases he;obtain ⟨inf,d,z,h1,h2,h0,_,_,_,hz,_⟩:=P6 hi;obtain ⟨g',hx,hr,hv⟩:=bM9 r hn (ay6 g w z.cells) t;rw [← hz] at hr;refine ⟨_,_,g',.inl ?_,hx,hr,hv⟩;simp [execOp,ho,Instr.alloc,zeroValue,typeInfo,h1,h0,newVar,newRow]
theorem cZ8 {o:Oper} {t:TypeId} {x:Operand} {nid:Id} {eff:Eff} (ho:o.op=.box t x) (he:Q7 P ρ h nid o.op=some eff):Sim P env g w h (execOp ρc o) eff:=by
 rw [ho] at he;simp only [Q7] at he;split at he
 ·cases hc:cellsOf (ρ x) with
  | none=>rw [hc] at he;cases he
  | some cs =>
   rw [hc] at he;simp only [Option.map_some,Option.some.injEq] at he;subst he;have hcv:=as2 (hρ x) hc;obtain ⟨g',hx,hr,hl⟩:=aJ3 r (ρc x).cells t;refine ⟨.pointer (some ⟨w.heap.size,0+0,none⟩),_,g',.inl ?_,hx,hr,?_⟩
   ·simp [execOp,ho,Instr.box,newVar,newRow]
   ·refine .el w.heap.size 0 cs 0 (fun i=>(ρc x).cells[i]?.getD undef) (by rw [hl,hcv.1];omega) (fun i hi=>?_) (fun i v hv=>?_)
    ·rw [Nat.zero_add,World.cell?_alloc_new,Array.getElem?_eq_getElem (by rw [hcv.1];exact hi)];simp
    ·obtain ⟨c,hc1,hc2⟩:=(RVL.mono hx hcv).at hv
     simp only [hc1,Option.getD_some];exact hc2
 split at he
 case h_2=>simp at he
 rename_i cs hc hn;cases he;obtain ⟨g',hx,hr,hv⟩:=bM9 r hn (as2 (hρ x) hc) t;refine ⟨_,_,g',.inl ?_,hx,hr,hv⟩;simp [execOp,ho,Instr.box,newVar,newRow]
omit r hρ in
theorem aZ6 {i:TyI} {t:TypeId} (hi:tyi P t=some i) {b off:Nat} {cs:List V} {v:V} (hp:af1 i.agg i.size cs off=some v)
  {base:Nat} {cell:Nat→Value} (Y0:∀ j,j<cs.length→w.cell? ⟨b,base+j,none⟩=some (cell j))
  (hr:∀ (j:Nat) (v:V),cs[j]? = some v→RV g w (cell j) v) :
  ∃ c,(loadVar t ⟨b,base+off,none⟩).run P w=.ok c w∧RV g w c v:=by
 obtain ⟨inf,d,z,h1,h2,h0,hs,_,ha,_⟩:=P6 hi;unfold af1 at hp;split at hp
 ·simp at hp
 ·rw [ha] at hp
  cases hag:aq7 P t with
  | true =>
   simp only [hag,if_true] at hp;split at hp
   ·rename_i hl
    cases hp;have cY1:(loadCells ⟨b,base+off,none⟩ inf.size).run P w=.ok ((List.range inf.size).map fun j=>cell (off+j)).toArray w:=by
     apply run_loadCells;intro j hj;rw [ag1,Nat.add_assoc];exact Y0 (off+j) (by rw [hs] at hl;omega)
    refine ⟨.agg ((List.range inf.size).map fun j=>cell (off+j)).toArray,by simp [loadVar,as9 h2,hag,E1 h1,cY1],?_⟩;refine .agg _ _ (by simp;rw [hs] at hl ⊢;omega) fun j c v hc hv=>?_;rw [List.getElem?_take,List.getElem?_drop] at hv;split at hv
    ·rename_i hj
     simp only [List.getElem?_toArray,List.getElem?_map] at hc;rw [List.getElem?_range (by rw [← hs];exact hj)] at hc;simp at hc;subst hc;exact hr _ _ hv
    ·simp at hv
   ·simp at hp
  | false =>
   simp only [hag,Bool.false_eq_true,if_false] at hp;have hlt:off<cs.length:=by
    rcases Nat.lt_or_ge off cs.length with h'|h'
    ·exact h'
    ·simp [List.getElem?_eq_none h'] at hp
   exact ⟨cell off,by simp [loadVar,as9 h2,hag,Y0 off hlt],hr _ _ hp⟩
theorem cQ5 {o:Oper} {t:TypeId} {x:Operand} {nid:Id} {eff:Eff} (ho:o.op=.load t x) (he:Q7 P ρ h nid o.op=some eff):Sim P env g w h (execOp ρc o) eff:=by
  rw [ho] at he;simp only [Q7] at he;have hx:=hρ x;split at he
  · rename_i i id off hi hv
    split at he
    case h_2=>simp at he
    rename_i cs hb;cases hp:af1 i.agg i.size cs off with
    | none=>simp [hp] at he
    | some v =>
      simp [hp] at he;subst he;rw [hv] at hx;cases hc:ρc x<;>rw [hc] at hx<;>cases hx
      obtain ⟨vs,⟨ty,hb1⟩,hb2,hb3,_,_⟩:=r.box id cs hb;obtain ⟨c,h1,h2⟩:=aZ6 (P:=P) (g:=g) (w:=w) hi hp (b:=g.loc id) (base:=0) (cell:=fun j=>vs[j]?.getD undef)
        (by intro j hj;simp [World.cell?,hb1,show j<vs.size by omega])
        (by
          intro j v hv;obtain ⟨c,hc1,hc2⟩:=(show RVL g w vs cs from ⟨hb2,hb3⟩).at hv;simp only [hc1,Option.getD_some];exact hc2)
      rw [Nat.zero_add] at h1;exact Sim.bn1 r ⟨c,by simp [execOp,ho,Instr.loadAt,Instr.sureAddr,hc,h1],h2⟩
  · rename_i i cs off hi hv
    cases hp:af1 i.agg i.size cs off with
    | none=>simp [hp] at he
    | some v =>
      simp [hp] at he;subst he;rw [hv] at hx;cases hc:ρc x<;>rw [hc] at hx<;>cases hx
      rename_i b base cell hl E0 hrr;obtain ⟨c,h1,h2⟩:=aZ6 (P:=P) (g:=g) (w:=w) hi hp (b:=b) (base:=base) (cell:=cell) E0 hrr;exact Sim.bn1 r ⟨c,by simp [execOp,ho,Instr.loadAt,Instr.sureAddr,hc,h1],h2⟩
  · simp at he

omit r hρ in
theorem bx3 {vs:Array Value} {cs:List V} {nw:Array Value} {new:List V} {off:Nat} (h1:RVL g w vs cs) (h2:RVL g w nw new) (hl:off+new.length≤cs.length) :
  RVL g w (vs.toList.take off++nw.toList++vs.toList.drop (off+nw.toList.length)).toArray (I2 cs off new):=by
 have hs:∀ (new:List V) (off:Nat) (cs:List V),off+new.length≤cs.length→I2 cs off new=cs.take off++new++cs.drop (off+new.length):=by
  intro new
  induction new with
  | nil=>intro off cs _;simp [I2]
  | cons v new ih =>
   intro off cs hl;simp only [List.length_cons] at hl;rw [I2,ih (off+1) (cs.set off v) (by simp;omega)];have e:cs.set off v=cs.take off++v::cs.drop (off+1):=by rw [List.set_eq_take_append_cons_drop,if_pos om_]
   have el:(cs.take off).length=off:=by simp;omega
   have t1:(cs.take off++v::cs.drop (off+1)).take (off+1)=cs.take off++[v]:=by
    have:=List.take_length_add_append (l₁:=cs.take off) (l₂:=v::cs.drop (off+1)) 1;rw [el] at this;rw [this];simp
   have t2:(cs.take off++v::cs.drop (off+1)).drop (off+1+new.length)=cs.drop (off+(new.length+1)):=by
    have:=List.drop_length_add_append (l₁:=cs.take off) (l₂:=v::cs.drop (off+1)) (1+new.length);rw [el] at this;rw [show off+1+new.length=off+(1+new.length) by omega,this,show 1+new.length=new.length+1 by omega];simp [Nat.add_assoc,Nat.add_comm 1]
   rw [e,t1,t2];simp
 rw [hs new off cs hl];have e2:=h2.1;refine ⟨by simp [h1.1,e2],fun i c v hc hv=>?_⟩;have hl2:nw.toList.length=new.length:=by simpa using e2
 rw [hl2] at hc;simp only [List.getElem?_toArray] at hc;rw [List.append_assoc] at hc hv;by_cases c1:i<off
 ·rw [List.getElem?_append_left (by simp [h1.1];omega),List.getElem?_take,if_pos c1] at hc
  rw [List.getElem?_append_left (by simp;omega),List.getElem?_take,if_pos c1] at hv;exact h1.2 i c v (by simpa using hc) hv
 ·rw [List.getElem?_append_right (by simp;omega)] at hc hv
  have ea:(vs.toList.take off).length=off:=by simp [h1.1];omega
  have eb:(cs.take off).length=off:=by simp;omega
  rw [ea] at hc;rw [eb] at hv;by_cases c2:i - off<new.length
  ·rw [List.getElem?_append_left om_] at hc hv
   exact h2.2 _ c v (by simpa using hc) hv
  ·rw [List.getElem?_append_right om_,List.getElem?_drop] at hc hv
   rw [hl2] at hc;exact h1.2 _ c v (by simpa using hc) hv
theorem cI0 {o:Oper} {t:TypeId} {x y:Operand} {nid:Id} {eff:Eff} (ho:o.op=.store t x y) (he:Q7 P ρ h nid o.op=some eff):Sim P env g w h (execOp ρc o) eff:=by
 rw [ho] at he;simp only [Q7] at he;have hx:=hρ x;split at he
 case h_2=>simp at he
 rename_i i id off xs hi hv hcx;split at he
 case h_2=>simp at he
 rename_i cs hb;split at he
 case isFalse=>simp at he
 rename_i hk;cases he;obtain ⟨inf,d,z,h1,h2,h0,hs,_,ha,_⟩:=P6 hi;rw [hv] at hx;cases hc:ρc x<;>rw [hc] at hx<;>cases hx
 obtain ⟨vs,⟨ty,hb1⟩,hb2,hb3,_,_⟩:=r.box id cs hb;have hy:=as2 (hρ y) hcx;have bo8:∀ v∈(ρc y).cells.toList,v.oneCell'=true:=by
  intro v hv;obtain ⟨j,hj,e⟩:=List.mem_iff_getElem.1 hv;have hj':j<xs.length:=by rw [← hy.1];simpa using hj
  have hxs:xs[j]? = some xs[j]:=by simp [hj']
  have hcs:(ρc y).cells[j]? = some v:=by
   have:(ρc y).cells.toList[j]? = some v:=by rw [List.getElem?_eq_getElem hj,e]
   simpa using this
  have hrv:=hy.2 j v xs[j] hcs hxs;have:=hk.2.2;rw [List.all_eq_true] at this;exact aw3 hrv (this _ (List.getElem_mem hj'))
 have hst:=run_storeCells_at (P:=P) (g.loc id) off ty (ρc y).cells.toList 0 vs w hb1 (by have:=hy.1;simp;omega) bo8;have ax4:=bx3 (off:=off) ⟨hb2,hb3⟩ hy hk.2.1;obtain ⟨hx',hr'⟩:=bQ6 r hb ax4;refine ⟨undef,_,g,.inr ⟨?_,rfl⟩,hx',hr',.undef _⟩;simp only [Nat.add_zero] at hst;have e1:(ρc y).cells.size=inf.size:=by rw [hy.1,hk.1,hs]
 simp [execOp,ho,Instr.storeAt,Instr.sureAddr,hc,storeVar,E1 h1,e1];simp at hst;rw [e1] at hst;rw [hst];simp
end
theorem cC8 {h:H} {id:Id} {o:Obj} (e:h id=some o):u9 h id o=h:=by
 funext j;unfold u9;split
 ·rename_i hj;rw [hj,e]
 ·rfl
theorem grow {env:Nat→Option (List V)} {g:G} {w:World} {h:H} (r:Rel env g w h) {id:Id} {nn cap k:Nat}
    (hid:h id=none∨∃ n0 k0,h id=some (.tok n0 k0)∧n0<nn) {arr:Array Value} (elem:TypeId) (aO1:arr.size=cap * k) (hle:nn≤cap) :
    ∃ g',Ext g w g' (w.drew.alloc (.cells arr elem))∧Rel env g' (w.drew.alloc (.cells arr elem)) (u9 h id (.tok nn k))∧g'.dom id=true ∧
      g'.buf id=⟨some ⟨w.heap.size,0,none⟩,nn,cap,k⟩∧g'.lim w.heap.size=nn * k:=by
  have hold:∀ b,b<w.heap.size→(w.drew.alloc (.cells arr elem)).heap[b]? = w.heap[b]? := fun b hb=>Go.RowKit.Below.heap_alloc w.drew _ b hb;have ax4:(w.drew.alloc (.cells arr elem)).heap[w.heap.size]? = some (.cells arr elem (0,0)):=by show (w.heap.push _)[w.heap.size]? = _;simp
  let g' : G := { g with lim:=fun b=>if b=w.heap.size then nn * k else g.lim b,wr:=fun b=>if b=w.heap.size then true else g.wr b,
                         buf:=fun i=>if i=id then ⟨some ⟨w.heap.size,0,none⟩,nn,cap,k⟩ else g.buf i,
                         dom:=fun i=>if i=id then true else g.dom i,top:=max g.top (id.gen+1) }
  have N3:∀ b,b≠w.heap.size→g'.lim b=g.lim b:=fun b hb=>by show (if b=w.heap.size then _ else g.lim b)=_;rw [if_neg hb]
  have hwr:∀ b,b≠w.heap.size→g'.wr b=g.wr b:=fun b hb=>by show (if b=w.heap.size then _ else g.wr b)=_;rw [if_neg hb]
  have R3:∀ i,i≠id→g'.buf i=g.buf i:=fun i hi=>by show (if i=id then _ else g.buf i)=_;rw [if_neg hi]
  have R0:g'.buf id=⟨some ⟨w.heap.size,0,none⟩,nn,cap,k⟩:=by show (if id=id then _ else g.buf id)=_;rw [if_pos rfl]
  have hx : Ext g w g' (w.drew.alloc (.cells arr elem)):=by
    refine ⟨rfl,rfl,rfl,sp_,?_,?_,?_,?_,Nat.le_max_left _ _⟩
    · intro b
      by_cases hb:b=w.heap.size
      · have:=r.C4 b om_;omega
      · rw [N3 b hb];exact Nat.le_refl _
    · intro b o ho
      have hb:=r.cn4 (b:=b) om_;exact World.cell?_alloc_lt w.drew _ _ hb
    · intro b hb hw
      exact ⟨hold b hb,by rw [hwr b om_];exact hw⟩
    · intro i hi
      by_cases e:i=id
      · subst e
        have hne:=(r.dom i).1 hi;rcases hid with hid|⟨n0,k0,hid,hlt⟩
        · exact absurd hid hne
        · refine ⟨by show (if i=i then true else _)=true;rw [if_pos rfl],rfl,.inr ?_⟩
          rw [R0,(r.tok i n0 k0 hid).1];exact hlt
      · exact ⟨by show (if i=id then true else g.dom i)=true;rw [if_neg e];exact hi,rfl,.inl (R3 i e)⟩
  have ac0:∀ i cs,u9 h id (.tok nn k) i=some (.box cs)→i≠id∧h i=some (.box cs):=by
    intro i cs e;by_cases hi:i=id
    · subst hi;simp [u9] at e
    · simp [u9,hi] at e;exact ⟨hi,e⟩
  have ae2:∀ i n k',u9 h id (.tok nn k) i=some (.tok n k')→(i=id∧n=nn∧k'=k)∨(i≠id∧h i=some (.tok n k')):=by
    intro i n k' e;by_cases hi:i=id
    · subst hi;simp [u9] at e;exact .inl ⟨rfl,e.1.symm,e.2.symm⟩
    · simp [u9,hi] at e;exact .inr ⟨hi,e⟩
  refine ⟨g',hx,?_,by show (if id=id then true else _)=true;rw [if_pos rfl],R0,by show (if w.heap.size=w.heap.size then _ else _)=_;rw [if_pos rfl]⟩;refine ⟨?_,?_,?_,?_,?_,?_,?_,?_,fun k cs' e=>(r.glob k cs' e).mono hx⟩
  · intro i
    show (if i=id then true else g.dom i)=true↔u9 h id (.tok nn k) i≠none;by_cases hi:i=id
    · simp [u9,hi]
    · simp only [u9,if_neg hi];exact r.dom i
  · intro i hi
    show i.gen<max g.top (id.gen+1);by_cases e:i=id
    · subst e;omega
    · simp only [u9,if_neg e] at hi
      have:=r.top i hi;omega
  · intro i cs e
    obtain ⟨hi,e'⟩:=ac0 i cs e;obtain ⟨vs',⟨ty,h1⟩,h2,h3,h4,h5⟩:=r.box i cs e';have hlt:=r.lt e';exact ⟨vs',⟨ty,by show _=_;rw [hold _ hlt];exact h1⟩,h2,fun i c v a b=>(h3 i c v a b).mono hx,
      by rw [N3 _ (show g.loc i≠_ by omega)];exact h4,by rw [hwr _ (show g.loc i≠_ by omega)];exact h5⟩
  · intro i1 i2 c1 c2 e1 e2 e
    exact r.inj i1 i2 c1 c2 (ac0 i1 c1 e1).2 (ac0 i2 c2 e2).2 e
  · intro i n k' e
    rcases ae2 i n k' e with ⟨rfl,rfl,rfl⟩|⟨hi,e'⟩
    · rw [R0]
      refine ⟨rfl,hle,fun _=>⟨w.heap.size,0,arr,by rw [R0],⟨elem,ax4⟩,by rw [R0];simp;omega,by rw [R0];simp;show (if w.heap.size=w.heap.size then _ else _)=_;rw [if_pos rfl],by show (if w.heap.size=w.heap.size then true else _)=true;rw [if_pos rfl]⟩,rfl⟩
    · obtain ⟨h1,h2,h3,hk⟩:=r.tok i n k' e'
      rw [R3 i hi];refine ⟨h1,h2,fun hlt=>?_,hk⟩;obtain ⟨b,off,vs',s1,⟨ty,s2⟩,s3,s4,s5⟩:=h3 hlt;have hb:b<w.heap.size:=(Array.getElem?_eq_some_iff.1 s2).1;exact ⟨b,off,vs',by rw [R3 i hi];exact s1,⟨ty,by rw [hold b hb];exact s2⟩,by rw [R3 i hi];exact s3,by rw [R3 i hi,N3 b om_];exact s4,by rw [hwr b om_];exact s5⟩
  · intro i i' n k' c e hlt e2 a ha
    obtain ⟨hi',e2'⟩:=ac0 i' c e2;have hl:=r.lt e2';rcases ae2 i n k' e with ⟨rfl,rfl,rfl⟩|⟨hi,e'⟩
    · rw [R0] at ha;cases ha;show w.heap.size≠g.loc i';omega
    · rw [R3 i hi] at ha hlt;exact r.apart i i' n k' c e' hlt e2' a ha
  · intro i i' n n' k1 k2 e hlt e2 al9 a a' ha ha' hab
    rcases ae2 i n k1 e with ⟨rfl,rfl,rfl⟩|⟨hi,e'⟩<;>rcases ae2 i' n' k2 e2 with ⟨rfl,rfl,rfl⟩|⟨hi',e2'⟩
    · rfl
    · rw [R0] at ha;cases ha
      rw [R3 i' hi'] at ha' al9;obtain ⟨_,_,h3,_⟩:=r.tok i' n' k2 e2';obtain ⟨x,hx1,hx2⟩:=(h3 al9).lt;rw [ha'] at hx1;cases hx1;simp only at hab;omega
    · rw [R0] at ha';cases ha'
      rw [R3 i hi] at ha hlt;obtain ⟨_,_,h3,_⟩:=r.tok i n k1 e';obtain ⟨x,hx1,hx2⟩:=(h3 hlt).lt;rw [ha] at hx1;cases hx1;simp only at hab;omega
    · rw [R3 i hi] at ha hlt;rw [R3 i' hi'] at ha' al9
      exact r.T8 i i' n n' k1 k2 e' hlt e2' al9 a a' ha ha' hab
  · intro b hb
    simp only [World.size_alloc,World.size_drew] at hb;rw [N3 b om_];exact r.C4 b om_

theorem df3 {env:Nat→Option (List V)} {g:G} {w:World} {h:H} (r:Rel env g w h) {id:Id} (hid:h id=none) (a:Option Addr) (nn k:Nat) :
  ∃ g',Ext g w g' w∧Rel env g' w (u9 h id (.tok nn k))∧g'.dom id=true∧g'.buf id=⟨a,nn,nn,k⟩∧g'.lim=g.lim:=by
 have hdn:g.dom id=false:=by
  cases hd:g.dom id with
  | false=>rfl
  | true=>exact absurd hid ((r.dom id).1 hd)
 let g':G:={ g with buf:=fun i=>if i=id then ⟨a,nn,nn,k⟩ else g.buf i,dom:=fun i=>if i=id then true else g.dom i,top:=max g.top (id.gen+1) }
 have R3:∀ i,i≠id→g'.buf i=g.buf i:=fun i hi=>by show (if i=id then _ else g.buf i)=_;rw [if_neg hi]
 have R0:g'.buf id=⟨a,nn,nn,k⟩:=by show (if id=id then _ else g.buf id)=_;rw [if_pos rfl]
 have hx:Ext g w g' w:=by
  refine ⟨rfl,rfl,rfl,Nat.le_refl _,fun _=>Nat.le_refl _,fun _ _ _=>rfl,fun _ _ h=>⟨rfl,h⟩,?_,Nat.le_max_left _ _⟩;intro i hi;have e:i≠id:=by intro e;rw [e,hdn] at hi;exact Bool.noConfusion hi
  exact ⟨by show (if i=id then true else g.dom i)=true;rw [if_neg e];exact hi,rfl,.inl (R3 i e)⟩
 have ac0:∀ i cs,u9 h id (.tok nn k) i=some (.box cs)→i≠id∧h i=some (.box cs):=by
  intro i cs e;by_cases hi:i=id
  ·subst hi;simp [u9] at e
  ·simp [u9,hi] at e;exact ⟨hi,e⟩
 have ae2:∀ i n k',u9 h id (.tok nn k) i=some (.tok n k')→(i=id∧n=nn∧k'=k)∨(i≠id∧h i=some (.tok n k')):=by
  intro i n k' e;by_cases hi:i=id
  ·subst hi;simp [u9] at e;exact .inl ⟨rfl,e.1.symm,e.2.symm⟩
  ·simp [u9,hi] at e;exact .inr ⟨hi,e⟩
 refine ⟨g',hx,?_,by show (if id=id then true else _)=true;rw [if_pos rfl],R0,rfl⟩;refine ⟨?_,?_,?_,?_,?_,?_,?_,r.C4,fun k cs' e=>(r.glob k cs' e).mono hx⟩
 ·intro i
  show (if i=id then true else g.dom i)=true↔u9 h id (.tok nn k) i≠none;by_cases hi:i=id
  ·simp [u9,hi]
  ·simp only [u9,if_neg hi];exact r.dom i
 ·intro i hi
  show i.gen<max g.top (id.gen+1);by_cases e:i=id
  ·subst e;omega
  ·simp only [u9,if_neg e] at hi
   have:=r.top i hi;omega
 ·intro i cs e
  obtain ⟨hi,e'⟩:=ac0 i cs e;obtain ⟨vs',h1,h2,h3,h4,h5⟩:=r.box i cs e';exact ⟨vs',h1,h2,fun i c v a b=>(h3 i c v a b).mono hx,h4,h5⟩
 ·intro i1 i2 c1 c2 e1 e2 e
  exact r.inj i1 i2 c1 c2 (ac0 i1 c1 e1).2 (ac0 i2 c2 e2).2 e
 ·intro i n k' e
  rcases ae2 i n k' e with ⟨rfl,rfl,rfl⟩|⟨hi,e'⟩
  ·rw [R0]
   exact ⟨rfl,Nat.le_refl _,fun hlt=>absurd hlt (Nat.lt_irrefl _),rfl⟩
  ·obtain ⟨h1,h2,h3,hk⟩:=r.tok i n k' e'
   rw [R3 i hi];refine ⟨h1,h2,fun hlt=>?_,hk⟩;obtain ⟨b,off,vs',s1,s2,s3,s4,s5⟩:=h3 hlt;exact ⟨b,off,vs',by rw [R3 i hi];exact s1,s2,by rw [R3 i hi];exact s3,by rw [R3 i hi];exact s4,s5⟩
 ·intro i i' n k' c e hlt e2 a' ha
  obtain ⟨hi',e2'⟩:=ac0 i' c e2;rcases ae2 i n k' e with ⟨rfl,rfl,rfl⟩|⟨hi,e'⟩
  ·rw [R0] at hlt;exact absurd hlt (Nat.lt_irrefl _)
  ·rw [R3 i hi] at ha hlt;exact r.apart i i' n k' c e' hlt e2' a' ha
 ·intro i i' n n' k1 k2 e hlt e2 al9 a1 a2 ha ha' hab
  rcases ae2 i n k1 e with ⟨rfl,rfl,rfl⟩|⟨hi,e'⟩<;>rcases ae2 i' n' k2 e2 with ⟨rfl,rfl,rfl⟩|⟨hi',e2'⟩
  ·rfl
  ·rw [R0] at hlt;exact absurd hlt (Nat.lt_irrefl _)
  ·rw [R0] at al9;exact absurd al9 (Nat.lt_irrefl _)
  ·rw [R3 i hi] at ha hlt;rw [R3 i' hi'] at ha' al9
   exact r.T8 i i' n n' k1 k2 e' hlt e2' al9 a1 a2 ha ha' hab
theorem advance {env:Nat→Option (List V)} {g:G} {w:World} {h:H} (r:Rel env g w h) {id:Id} {n m k:Nat} (hid:h id=some (.tok n k)) (hm:0<m)
    {b off cap:Nat} (aD2:g.buf id=⟨some ⟨b,off,none⟩,n,cap,k⟩) (aT7:n+m≤cap) {vs:Array Value} (hvs:aH8 w b vs) (cq4:off+cap * k≤vs.size)
    (hl:g.lim b=off+n * k) (hw:g.wr b=true) {new:Array Value} (hsz:new.size=vs.size) (ab4:∀ i,i<off+n * k→new[i]? = vs[i]?) :
    ∃ g',Ext g w g' (w.setRow b new)∧Rel env g' (w.setRow b new) (u9 h id (.tok (n+m) k))∧g'.dom id=true ∧
      g'.buf id=⟨some ⟨b,off,none⟩,n+m,cap,k⟩∧g'.lim b=off+(n+m) * k:=by
  obtain ⟨ty,hb1⟩:=hvs;have hold:∀ b',b'≠b→(w.setRow b new).heap[b']? = w.heap[b']? := fun b' hb=>setRow_other w _ _ new hb;have ax4:=setRow_heap w b vs new ty (0,0) hb1;have dr3:b<w.heap.size:=(Array.getElem?_eq_some_iff.1 hb1).1;have aK2:g.dom id=true:=(r.dom id).2 (by rw [hid];simp)
  let g' : G := { g with lim:=fun b'=>if b'=b then off+(n+m) * k else g.lim b',
                         buf:=fun i=>if i=id then ⟨some ⟨b,off,none⟩,n+m,cap,k⟩ else g.buf i }
  have N3:∀ b',b'≠b→g'.lim b'=g.lim b':=fun b' hb=>by show (if b'=b then _ else g.lim b')=_;rw [if_neg hb]
  have cp1:g'.lim b=off+(n+m) * k:=by show (if b=b then _ else g.lim b)=_;rw [if_pos rfl]
  have R3:∀ i,i≠id→g'.buf i=g.buf i:=fun i hi=>by show (if i=id then _ else g.buf i)=_;rw [if_neg hi]
  have R0:g'.buf id=⟨some ⟨b,off,none⟩,n+m,cap,k⟩:=by show (if id=id then _ else g.buf id)=_;rw [if_pos rfl]
  have hmul:(n+m) * k=n * k+m * k:=Nat.add_mul _ _ _;have hx:Ext g w g' (w.setRow b new):=by
    refine ⟨rfl,rfl,rfl,sp_,?_,?_,?_,?_,Nat.le_refl _⟩
    · intro b'
      by_cases hb:b'=b
      · subst hb;rw [cp1,hl];omega
      · rw [N3 b' hb];exact Nat.le_refl _
    · intro b' o ho
      by_cases hb:b'=b
      · subst hb
        rw [cell_setRow_same w b' o vs new ty (0,0) hb1,ab4 o om_];simp [World.cell?,hb1]
      · exact cell_setRow_other w _ new _ hb
    · intro b' _ hw'
      exact ⟨hold b' (by intro e;rw [e,hw] at hw';exact Bool.noConfusion hw'),hw'⟩
    · intro i hi
      refine ⟨hi,rfl,?_⟩;by_cases e:i=id
      · subst e;right;rw [R0,aD2];show n<n+m;omega
      · exact .inl (R3 i e)
  have ac0:∀ i cs,u9 h id (.tok (n+m) k) i=some (.box cs)→i≠id∧h i=some (.box cs):=by
    intro i cs e;by_cases hi:i=id
    · subst hi;simp [u9] at e
    · simp [u9,hi] at e;exact ⟨hi,e⟩
  have ae2:∀ i n' k',u9 h id (.tok (n+m) k) i=some (.tok n' k')→(i=id∧n'=n+m∧k'=k)∨(i≠id∧h i=some (.tok n' k')):=by
    intro i n' k' e;by_cases hi:i=id
    · subst hi;simp [u9] at e;exact .inl ⟨rfl,e.1.symm,e.2.symm⟩
    · simp [u9,hi] at e;exact .inr ⟨hi,e⟩
  have cI7:n<(g.buf id).cap:=by rw [aD2];show n<cap;omega
  have hne:∀ i cs,h i=some (.box cs)→g.loc i≠b:=fun i cs e e2=>r.apart id i n k cs hid cI7 e ⟨b,off,none⟩ (by rw [aD2]) e2.symm;refine ⟨g',hx,?_,aK2,R0,cp1⟩;refine ⟨?_,?_,?_,?_,?_,?_,?_,?_,fun k cs' e=>(r.glob k cs' e).mono hx⟩
  · intro i
    by_cases hi:i=id
    · subst hi;simp [u9];exact aK2
    · simp only [u9,if_neg hi];exact r.dom i
  · intro i hi
    by_cases e:i=id
    · subst e;exact r.top i (by rw [hid];simp)
    · simp only [u9,if_neg e] at hi;exact r.top i hi
  · intro i cs e
    obtain ⟨hi,e'⟩:=ac0 i cs e;obtain ⟨vs',⟨ty',h1⟩,h2,h3,h4,h5⟩:=r.box i cs e';have:=hne i cs e';exact ⟨vs',⟨ty',by show _=_;rw [hold _ this];exact h1⟩,h2,fun i c v a b=>(h3 i c v a b).mono hx,by rw [N3 _ this];exact h4,h5⟩
  · intro i1 i2 c1 c2 e1 e2 e
    exact r.inj i1 i2 c1 c2 (ac0 i1 c1 e1).2 (ac0 i2 c2 e2).2 e
  · intro i n' k' e
    rcases ae2 i n' k' e with ⟨rfl,rfl,rfl⟩|⟨hi,e'⟩
    · rw [R0]
      exact ⟨rfl,aT7,fun _=>⟨b,off,new,by rw [R0],⟨ty,ax4⟩,by rw [R0,hsz];exact cq4,by rw [R0,cp1],hw⟩,rfl⟩
    · obtain ⟨h1,h2,h3,hk⟩:=r.tok i n' k' e'
      rw [R3 i hi];refine ⟨h1,h2,fun hlt=>?_,hk⟩;obtain ⟨b',off',vs',s1,⟨ty',s2⟩,s3,s4,s5⟩:=h3 hlt;have hb':b'≠b:=fun e2=>hi (r.T8 i id n' n k' k e' hlt hid cI7 _ _ s1 (by rw [aD2]) e2);exact ⟨b',off',vs',by rw [R3 i hi];exact s1,⟨ty',by rw [hold b' hb'];exact s2⟩,by rw [R3 i hi];exact s3,by rw [R3 i hi,N3 b' hb'];exact s4,s5⟩
  · intro i i' n' k' c e hlt e2 a ha
    obtain ⟨hi',e2'⟩:=ac0 i' c e2;rcases ae2 i n' k' e with ⟨rfl,rfl,rfl⟩|⟨hi,e'⟩
    · rw [R0] at ha;cases ha;exact fun e=>hne i' c e2' e.symm
    · rw [R3 i hi] at ha hlt;exact r.apart i i' n' k' c e' hlt e2' a ha
  · intro i i' n1 n2 k1 k2 e hlt e2 al9 a a' ha ha' hab
    rcases ae2 i n1 k1 e with ⟨rfl,rfl,rfl⟩|⟨hi,e'⟩<;>rcases ae2 i' n2 k2 e2 with ⟨rfl,rfl,rfl⟩|⟨hi',e2'⟩
    · rfl
    · rw [R0] at ha;cases ha
      rw [R3 i' hi'] at ha' al9;exact r.T8 i i' n n2 _ k2 hid cI7 e2' al9 _ a' (by rw [aD2]) ha' hab
    · rw [R0] at ha';cases ha'
      rw [R3 i hi] at ha hlt;exact r.T8 i i' n1 n k1 _ e' hlt hid cI7 a _ ha (by rw [aD2]) hab
    · rw [R3 i hi] at ha hlt;rw [R3 i' hi'] at ha' al9
      exact r.T8 i i' n1 n2 k1 k2 e' hlt e2' al9 a a' ha ha' hab
  · intro b' hb
    simp only [size_setRow] at hb;rw [N3 b' om_];exact r.C4 b' hb


theorem bh9 (n:Nat):∀ (rounds c:Nat),c≤n+(n+768) / 4→Builtin.growBy n rounds c≤n+(n+768) / 4
 | 0,c,h=>by simpa [Builtin.growBy] using h
 | rounds+1,c,h=>by
  unfold Builtin.growBy;split
  ·exact h
  ·exact bh9 n rounds _ om_
theorem aX0 (n c:Nat) (h:c<n):Builtin.nextslicecap n c≤2 * n:=by
 unfold Builtin.nextslicecap;split
 ·omega
 ·split
  ·omega
  ·have:=bh9 n 4 c om_;omega
theorem aC3 {P:Program} {g:G} {w:World} {a:Option Addr} {cap k:Nat} {es:List (List V)} {cell:Nat→Value}
  (E0:es≠[]→∃ b off,a=some ⟨b,off,none⟩∧off+es.length * k≤g.lim b∧∀ i,i<es.length * k→w.cell? ⟨b,off+i,none⟩=some (cell i))
  (w0:World) (hw:∀ x,w0.cell? x=w.cell? x) :
  (Builtin.firstCells k es.length (.slice a es.length cap)).run P w0=.ok ((List.range (es.length * k)).map cell).toArray w0:=by
 cases hes:es with
 | nil =>
  cases a with
  | none=>simp [Builtin.firstCells]
  | some a=>simp [Builtin.firstCells,loadCells,loadCellsFrom]
 | cons e0 es0 =>
  obtain ⟨b,off,rfl,hl,hc⟩:=E0 (by rw [hes];simp);rw [← hes];simp only [Builtin.firstCells];apply run_loadCells;intro j hj;rw [ag1,hw];exact hc j hj
theorem Z7:∀ (es:List (List V)) (k:Nat),(∀ e∈es,e.length=k)→es.flatten.length=es.length * k
 | [],k,_=>by simp
 | e::es,k,hk=>by
  rw [List.flatten_cons,List.length_append,Z7 es k (fun x hx=>hk x (by simp [hx])),hk e sp_,List.length_cons,Nat.add_mul];omega
def aO6 (a:Option Addr) (k:Nat) (vs:List Value):Sem Unit :=
 match a with
 | some a=>storeCells (a.add k) vs
 | none=>pure ()
theorem bf8 (z:Array Value) (n:Nat):(Builtin.zeroCells z n).size=n * z.size:=by simp [Builtin.zeroCells]
section
variable {P:Program} {env:Nat→Option (List V)} {g:G} {w:World} {h:H} {ρc:Operand→Value} {ρ:Operand→V} (r:Rel env g w h) (hρ:∀ x,RV g w (ρc x) (ρ x))
theorem aD0 {g':G} {w':World} {es xs:List (List V)} {k cap b off:Nat} {cs cx:Nat→Value} {id:Id}
  (hk1:∀ e∈es,e.length=k) (hk2:∀ e∈xs,e.length=k) (V0:es.length+xs.length≤cap)
  (hl:off+(es.length+xs.length) * k≤g'.lim b)
  (h1:∀ i,i<es.length * k→w'.cell? ⟨b,off+i,none⟩=some (cs i))
  (h2:∀ i,i<xs.length * k→w'.cell? ⟨b,off+(es.length * k+i),none⟩=some (cx i))
  (r1:∀ (i:Nat) (v:V),es.flatten[i]? = some v→RV g' w' (cs i) v) (r2:∀ (i:Nat) (v:V),xs.flatten[i]? = some v→RV g' w' (cx i) v)
  (hd:g'.dom id=true) (hb:g'.buf id=⟨some ⟨b,off,none⟩,es.length+xs.length,cap,k⟩) :
  RV g' w' (.slice (some ⟨b,off,none⟩) (es.length+xs.length) cap) (.sl (.own id) (es++xs)):=by
 have hlen:(es++xs).length=es.length+xs.length:=List.length_append;have hfl:=Z7 es k hk1;rw [← hlen] at hl V0 hb ⊢;refine .sl _ cap _ (es++xs) k (fun i=>if i<es.length * k then cs i else cx (i - es.length * k)) ?_ V0 (fun _=>⟨b,off,rfl,hl,?_⟩) ?_ ⟨hd,by rw [hb];exact Nat.le_refl _,fun _=>hb⟩
 ·intro e he
  rcases List.mem_append.1 he with h|h
  ·exact hk1 e h
  ·exact hk2 e h
 ·intro i hi
  rw [hlen,Nat.add_mul] at hi;by_cases c:i<es.length * k
  ·simp only [c,if_true];exact h1 i c
  ·simp only [c,if_false]
   have:=h2 (i - es.length * k) om_;rw [show es.length * k+(i - es.length * k)=i by omega] at this;exact this
 ·intro i v hv
  rw [List.flatten_append] at hv;by_cases c:i<es.length * k
  ·rw [List.getElem?_append_left om_] at hv
   simp only [c,if_true];exact r1 i v hv
  ·rw [List.getElem?_append_right om_,hfl] at hv
   simp only [c,if_false];exact r2 _ v hv
include r hρ in
theorem cq2 {o:Oper} {c:Call} {nid:Id} {eff:Eff} (ho:o.op=.call c) (at1:c.callee=.builtin .append) (he:Q7 P ρ h nid o.op=some eff) :
    Sim P env g w h (execOp ρc o) eff:=by
  obtain ⟨callee,args,ts⟩:=c;simp only at at1;subst at1;rw [ho] at he;simp only [Q7] at he;split at he
  case h_2=>simp at he
  rename_i c es c2 xs i j ak8 hts;split at he
  case isFalse=>simp at he
  rename_i hk;obtain ⟨hk1,hk2,hk3,hk4,hk5,hk6,hk7,hk8,hk9⟩:=hk;have hl:=congrArg List.length ak8;have hl2:=congrArg List.length hts;simp at hl hl2;obtain ⟨x,y,rfl⟩:∃ x y,args=#[x,y]:=by
    obtain ⟨l⟩:=args
    match l,hl with
    | [x,y],_=>exact ⟨x,y,rfl⟩
  obtain ⟨t,t2,rfl⟩:∃ x y,ts=#[x,y]:=by
    obtain ⟨l⟩:=ts
    match l,hl2 with
    | [x,y],_=>exact ⟨x,y,rfl⟩
  simp at ak8 hts;obtain ⟨inf,d,z,i1,i2,i0,is,ib,ia,iz,_,ik4,_,_,_,_,_,iez⟩:=P6 hts.1;obtain ⟨e,rfl,hes,heb,_⟩:=ik4 hk1;obtain ⟨inf2,d2,z2,j1,j2,j0,_,_,_,_,_,jk4,_⟩:=P6 hts.2;obtain ⟨e2,rfl,_⟩:=jk4 hk2;obtain ⟨ie,de,he1,he2,he3⟩:=S0 (P:=P) (t:=e) (by rw [← hes];exact hk3);have hez:=(iez e (.inl rfl)).2 ie he1;have hsz:ie.size=i.c9:=by rw [he3,hes]
  obtain ⟨ze,hze,cd9⟩:∃ ze,ie.zero=some ze∧ze.cells.size=i.c9:=by
    cases hz0:ie.zero with
    | none=>rw [hz0] at hez;rw [hez] at hk4;simp at hk4;exact absurd hk4.symm hk3
    | some ze=>rw [hz0] at hez;rw [hez] at hk4;exact ⟨ze,rfl,by simpa using hk4⟩
  have bC3:ie.bytes=i.A1:=by rw [heb];simp [bytesOf,he1]
  have hx:=hρ x;have hy:=hρ y;rw [ak8.1] at hx;rw [ak8.2] at hy;cases hcx:ρc x<;>rw [hcx] at hx<;>cases hx
  rename_i a cap k cs hke hrs bN4 bt4 bL8;cases hcy:ρc y<;>rw [hcy] at hy<;>cases hy
  rename_i a2 cap2 k2 cx hkx hrx bT1 cJ7 dl0;have bp5:∀ e∈es,e.length=i.c9:=by
    rw [List.all_eq_true] at hk5;intro e he;simpa using hk5 e he
  have cA3:∀ e∈xs,e.length=i.c9:=by
    rw [List.all_eq_true] at hk6;intro e he;simpa using hk6 e he
  have aL7:es≠[]→∃ b off,a=some ⟨b,off,none⟩∧off+es.length * i.c9≤g.lim b∧∀ j,j<es.length * i.c9→w.cell? ⟨b,off+j,none⟩=some (cs j):=by
    intro hne;have:k=i.c9:=by
      cases es with
      | nil=>exact absurd rfl hne
      | cons e0 _=>rw [← hke e0 sp_,bp5 e0 sp_]
    rw [← this];exact bN4 hne
  have bE4:xs≠[]→∃ b off,a2=some ⟨b,off,none⟩∧off+xs.length * i.c9≤g.lim b∧∀ j,j<xs.length * i.c9→w.cell? ⟨b,off+j,none⟩=some (cx j):=by
    intro hne;have:k2=i.c9:=by
      cases xs with
      | nil=>exact absurd rfl hne
      | cons e0 _=>rw [← hkx e0 sp_,cA3 e0 sp_]
    rw [← this];exact bT1 hne
  have hfx:=Z7 xs i.c9 cA3;have bo8:∀ v∈(((List.range (xs.length * i.c9)).map cx).toArray).toList,v.oneCell'=true:=by
    intro v hv;simp only [List.mem_map,List.mem_range] at hv;obtain ⟨q,hq,rfl⟩:=hv;have hq':q<xs.flatten.length:=by omega
    rw [List.all_eq_true] at hk7;exact aw3 (hrx q _ (List.getElem?_eq_getElem hq')) (hk7 _ (List.getElem_mem hq'))
  have hF1:=fun w0 hw=>aC3 (P:=P) (cap:=cap) aL7 w0 hw;have hF2:=fun w0 hw=>aC3 (P:=P) (cap:=cap2) bE4 w0 hw;have cQ4:=fun (w0:World) hw=>by
    have:=hF1 w0 hw;rw [← hsz] at this;exact this
  have bY0:=fun (w0:World) hw=>by
    have:=hF2 w0 hw;rw [← hsz] at this;exact this
  have hmul:(es.length+xs.length) * i.c9=es.length * i.c9+xs.length * i.c9:=Nat.add_mul _ _ _;have bv4:∀ id,(h id=none∨∃ n0 k0,h id=some (.tok n0 k0)∧n0<es.length+xs.length)→cap<es.length+xs.length →
      Sim P env g w h (execOp ρc o) ⟨.sl (.own id) (es++xs),[id],[(id,.tok (es.length+xs.length) i.c9)]⟩:=by
    intro id hid hlt;have hnc:=aX0 (es.length+xs.length) cap hlt;have bV1:es.length+xs.length≤es.length+xs.length+w.tape w.drawn (.appendCap (es.length+xs.length) cap e) % (9223372036854775808 - (es.length+xs.length)):=Nat.le_add_right _ _;generalize hq:w.tape w.drawn (.appendCap (es.length+xs.length) cap e) % (9223372036854775808 - (es.length+xs.length))=q at bV1
    let arr:Array Value:=((List.range (es.length * ie.size)).map cs).toArray++((List.range (xs.length * ie.size)).map cx).toArray++Builtin.zeroCells ze.cells q
    have aO1:arr.size=(es.length+xs.length+q) * i.c9:=by
      simp only [arr,Array.size_append,bf8,cd9,hsz];simp;rw [Nat.add_mul,hmul]
    obtain ⟨g',hx',hr',hd',hb',hl'⟩:=grow r hid e aO1 bV1;have E0:(execOp ρc o).run P w=.ok (.value (.slice (some ⟨w.heap.size,0,none⟩) (es.length+xs.length) (es.length+xs.length+q))) (w.drew.alloc (.cells arr e)):=by
      have b1:¬ ((9223372036854775807:Int)<(es.length:Int)+(xs.length:Int)∧ie.bytes=0):=by omega
      have b2:¬ (281474976710656<Builtin.nextslicecap (es.length+xs.length) cap * ie.bytes):=by
        rw [bC3];have:Builtin.nextslicecap (es.length+xs.length) cap * i.A1≤2 * (es.length+xs.length) * i.A1:=Nat.mul_le_mul_right _ hnc;rw [Nat.mul_assoc] at this;omega
      have b3:¬ (es.length+xs.length≤cap):=by omega
      have f1:=cQ4 w.drew (fun _=>rfl);have f2:=bY0 w.drew (fun _=>rfl);simp [execOp,ho,resolve,invoke,builtin,Builtin.append_,run_underlying i2,run_underlying j2,E1 he1,hcx,hcy,Builtin.lenOf,typeInfo,he1,b3,Question.forced,Question.cut];rw [if_neg b1,if_neg b2,f1];simp only [Result.andThen_ok];rw [f2];simp [zeroValue,typeInfo,he1,hze,newRow,hq,arr]
    refine ⟨_,_,g',.inl E0,hx',hr',?_⟩;refine aD0 (cs:=cs) (cx:=cx) bp5 cA3 bV1 (by rw [hl'];omega) ?_ ?_ (fun i v hv=>(hrs i v hv).mono hx') (fun i v hv=>(hrx i v hv).mono hx') hd' hb'
    · intro q hq
      show (w.drew.alloc _).cell? ⟨w.drew.heap.size,0+_,none⟩=_;rw [Nat.zero_add,World.cell?_alloc_new];simp only [arr,hsz];rw [Array.getElem?_append_left (by simp;omega),Array.getElem?_append_left (by simp;omega)];simp [hq]
    · intro q hq
      show (w.drew.alloc _).cell? ⟨w.drew.heap.size,0+_,none⟩=_;rw [Nat.zero_add,World.cell?_alloc_new];simp only [arr,hsz];rw [Array.getElem?_append_left (by simp;omega),Array.getElem?_append_right sp_];simp [hq]
  have hin:es.length+xs.length≤cap→∀ w',(aO6 a (es.length * ie.size) ((List.range (xs.length * ie.size)).map cx)).run P w=.ok () w' →
      (execOp ρc o).run P w=.ok (.value (.slice a (es.length+xs.length) cap)) w':=by
    intro hle w' hst;have f2:=bY0 w (fun _=>rfl);simp [execOp,ho,resolve,invoke,builtin,Builtin.append_,run_underlying i2,run_underlying j2,E1 he1,hcx,hcy,Builtin.lenOf,hle];rw [f2];cases a with
    | none=>simp [aO6] at hst;simp [hst]
    | some a=>simp only [aO6] at hst;simp [hst]
  have bX9:xs=[]→(aO6 a (es.length * ie.size) ((List.range (xs.length * ie.size)).map cx)).run P w=.ok () w:=by
    intro e;subst e;cases a<;>simp [aO6,storeCells]
  have hsl:=RV.sl (g:=g) (w:=w) a cap c es k cs hke bt4 bN4 hrs bL8;cases c with
  | any=>simp at he
  | full =>
    simp only at he;split at he
    case h_2=>simp at he
    rename_i hn;cases he;by_cases hx0:xs=[]
    · have hh:=hin (by rw [hx0];simpa using bt4) w (bX9 hx0)
      subst hx0;have hc':cap=es.length:=bL8;obtain ⟨g',hx',hr',hd',hb',hl'⟩:=df3 r hn a es.length i.c9;refine ⟨_,_,g',.inl hh,hx',by simpa [J2] using hr',?_⟩;simp only [List.append_nil,List.length_nil,Nat.add_zero];exact .sl a cap _ es i.c9 cs bp5 bt4 (fun hne=>by obtain ⟨b,off,h1,h2,h3⟩:=aL7 hne;exact ⟨b,off,h1,by rw [hl'];exact h2,h3⟩)
        (fun i v hv=>(hrs i v hv).mono hx') ⟨hd',by rw [hb'];exact Nat.le_refl _,fun _=>by rw [hb',hc']⟩
    · have hc':cap=es.length:=bL8
      have:0<xs.length:=List.length_pos_iff.2 hx0;exact bv4 nid (.inl hn) om_
  | own id =>
    simp only at he;split at he
    case h_2=>simp at he
    rename_i n hn;split at he
    case isFalse=>simp at he
    rename_i hne;cases he;obtain ⟨hne,dk9⟩:=hne;subst hne;subst dk9;obtain ⟨t1,t2',t3,t4⟩:=r.tok id _ _ hn;obtain ⟨c1,c2',c3⟩:=bL8;have R3:=c3 t1.symm;rw [R3] at t4;simp only at t4;by_cases hx0:xs=[]
    · have hh:=hin (by rw [hx0];simpa using bt4) w (bX9 hx0)
      subst hx0;refine ⟨_,_,g,.inl hh,Ext.refl g w,?_,?_⟩
      · simp only [J2,List.length_nil,Nat.add_zero];rw [cC8 hn];exact r
      · simpa using hsl
    · have cG7:0<xs.length:=List.length_pos_iff.2 hx0
      by_cases hle:es.length+xs.length≤cap
      · have cZ2:(g.buf id).cap=cap:=by rw [R3]
        obtain ⟨b,off,vs,s1,s2,s3,s4,s5⟩:=t3 om_;rw [R3] at s1 s3 s4;simp only at s1 s3 s4;subst s1;subst t4;obtain ⟨ty,s2'⟩:=s2;have hst:=run_storeCells_at (P:=P) b (off+es.length * i.c9) ty ((List.range (xs.length * i.c9)).map cx) 0 vs w s2'
          (by
            have:(es.length+xs.length) * i.c9≤cap * i.c9:=Nat.mul_le_mul_right _ hle;rw [hmul] at this;simp;omega) (by simpa using bo8)
        simp only [Nat.add_zero,List.length_map,List.length_range] at hst;generalize hnv:(vs.toList.take (off+es.length * i.c9)++(List.range (xs.length * i.c9)).map cx++vs.toList.drop (off+es.length * i.c9+xs.length * i.c9)).toArray=new at hst;have aT7:off+es.length * i.c9+xs.length * i.c9≤vs.size:=by
          have:(es.length+xs.length) * i.c9≤cap * i.c9:=Nat.mul_le_mul_right _ hle;rw [hmul] at this;omega
        have dm1:new.size=vs.size:=by rw [← hnv];simp;omega
        have ab4:∀ q,q<off+es.length * i.c9→new[q]? = vs[q]? := by
          intro q hq;rw [← hnv,List.append_assoc];simp only [List.getElem?_toArray];rw [List.getElem?_append_left (by simp;omega),List.getElem?_take,if_pos hq];simp
        have bd4:∀ q,q<xs.length * i.c9→new[off+(es.length * i.c9+q)]? = some (cx q):=by
          intro q hq;have el:(vs.toList.take (off+es.length * i.c9)).length=off+es.length * i.c9:=by simp;omega
          rw [← hnv,List.append_assoc];simp only [List.getElem?_toArray];rw [List.getElem?_append_right om_,el,List.getElem?_append_left (by simp;omega)];rw [show off+(es.length * i.c9+q) - (off+es.length * i.c9)=q by omega];simp [hq]
        obtain ⟨g',hx',hr',hd',hb',hl'⟩:=advance r hn cG7 R3 hle ⟨ty,s2'⟩ s3 s4 s5 dm1 ab4;refine ⟨_,_,g',.inl (hin hle _ ?_),hx',hr',?_⟩
        · simp only [aO6,ag1,hsz]
          simpa using hst
        · refine aD0 (cs:=cs) (cx:=cx) bp5 cA3 hle (by rw [hl'];exact Nat.le_refl _) ?_ ?_ (fun i v hv=>(hrs i v hv).mono hx') (fun i v hv=>(hrx i v hv).mono hx') hd' hb'
          · intro q hq
            rw [cell_setRow_same w b _ vs new ty (0,0) s2',ab4 _ om_];have hne:es≠[]:=by intro e;subst e;simp at hq
            obtain ⟨b2,off2,e1,_,e3⟩:=aL7 hne;cases e1;have:=e3 q hq;simpa [World.cell?,s2'] using this
          · intro q hq
            rw [cell_setRow_same w b _ vs new ty (0,0) s2'];exact bd4 q hq
      · exact bv4 id (.inr ⟨_,_,hn,om_⟩) om_
end
theorem bj4:∀ (new:List V) (off:Nat) (cs:List V),off+new.length≤cs.length→I2 cs off new=cs.take off++new++cs.drop (off+new.length):=by
 intro new
 induction new with
 | nil=>intro off cs _;simp [I2]
 | cons v new ih =>
  intro off cs hl;simp only [List.length_cons] at hl;rw [I2,ih (off+1) (cs.set off v) (by simp;omega)];have e:cs.set off v=cs.take off++v::cs.drop (off+1):=by rw [List.set_eq_take_append_cons_drop,if_pos om_]
  have el:(cs.take off).length=off:=by simp;omega
  have t1:(cs.take off++v::cs.drop (off+1)).take (off+1)=cs.take off++[v]:=by
   have:=List.take_length_add_append (l₁:=cs.take off) (l₂:=v::cs.drop (off+1)) 1;rw [el] at this;rw [this];simp
  have t2:(cs.take off++v::cs.drop (off+1)).drop (off+1+new.length)=cs.drop (off+(new.length+1)):=by
   have:=List.drop_length_add_append (l₁:=cs.take off) (l₂:=v::cs.drop (off+1)) (1+new.length);rw [el] at this;rw [show off+1+new.length=off+(1+new.length) by omega,this,show 1+new.length=new.length+1 by omega];simp [Nat.add_assoc,Nat.add_comm 1]
  rw [e,t1,t2];simp
theorem cl7 {es:List (List V)} {k i:Nat} {cs:List V} (hk:∀ e∈es,e.length=k) (hi:i<es.length) (hc:cs.length=k) :
    I2 es.flatten (i * k) cs=(es.set i cs).flatten:=by
  have hb:(i+1) * k≤es.length * k:=Nat.mul_le_mul_right _ om_;rw [Nat.add_mul,Nat.one_mul] at hb;rw [bj4 _ _ _ (by rw [Z7 es k hk,hc];omega),List.set_eq_take_append_cons_drop,if_pos hi,List.flatten_append,List.flatten_cons,
    aM2 es k i hk,aN2 es k (i+1) hk,hc,Nat.add_mul,Nat.one_mul]
  simp

theorem bs8 {g:G} {w:World} {k:Nat}:∀ (cparts:List (Nat × Value)) (parts:List (Nat × V)) (vs:Array Value) (es out:List (List V)),
    parts.length=cparts.length→(∀ (i:Nat) (p:Nat × V) (q:Nat × Value),parts[i]? = some p→cparts[i]? = some q→p.1=q.1∧RV g w q.2 p.2) →
    (∀ e∈es,e.length=k)→RVL g w vs es.flatten→ak9 k es parts=some out →
    ∃ ws,Instr.fill (fun i=>some (i * k,k)) vs cparts=some ws∧RVL g w ws out.flatten∧(∀ e∈out,e.length=k)∧out.length=es.length:=by
  intro cparts
  induction cparts with
  | nil =>
    intro parts vs es out hl _ hk h1 h2;have:parts=[]:=by simpa using hl
    subst this;simp [ak9] at h2;subst h2;exact ⟨vs,rfl,h1,hk,rfl⟩
  | cons q cparts ih =>
    intro parts vs es out hl hr hk h1 h2;cases parts with
    | nil=>simp at hl
    | cons p parts =>
      obtain ⟨i,v⟩:=p;obtain ⟨i',c⟩:=q;obtain ⟨e,hv⟩:=hr 0 _ _ rfl rfl;simp at e hv;subst e;simp only [ak9] at h2;split at h2
      case h_2=>simp at h2
      rename_i cs hc;split at h2
      case isFalse=>simp at h2
      rename_i hlen;have hcc:=as2 hv hc;have hsp:=aY3 cs c.cells.toList (i * k) vs es.flatten h1 (by simpa using hcc);rw [cl7 hk hlen.2 hlen.1] at hsp;have:=ih parts _ _ out (by simpa using hl) (fun j p q hp hq=>hr (j+1) p q (by simpa using hp) (by simpa using hq))
        (by
          intro e he;rcases List.mem_or_eq_of_mem_set he with h|h
          · exact hk e h
          · rw [h];exact hlen.1) hsp h2
      obtain ⟨ws,hw,hws,hk',hl'⟩:=this;refine ⟨ws,?_,hws,hk',by simpa using hl'⟩;have hfl:=Z7 es k hk;have hb:(i+1) * k≤es.length * k:=Nat.mul_le_mul_right _ om_;rw [Nat.add_mul,Nat.one_mul] at hb;simp only [Instr.fill];rw [if_neg (by simp [hcc.1,h1.1,hlen.1];have:=hfl;simp at this;omega)];rw [← Array.foldl_toList,Array.toList_zipIdx];exact hw

section
variable {P:Program} {env:Nat→Option (List V)} {g:G} {w:World} {h:H} {ρc:Operand→Value} {ρ:Operand→V} (r:Rel env g w h) (hρ:∀ x,RV g w (ρc x) (ρ x))
include r hρ
theorem bo3 {o:Oper} {t:TypeId} {len:Nat} {parts:Array (Nat × Operand)} {nid:Id} {eff:Eff} (ho:o.op=.buildSlice t len parts)
  (he:Q7 P ρ h nid o.op=some eff):Sim P env g w h (execOp ρc o) eff:=by
 rw [ho] at he;simp only [Q7] at he;split at he
 case h_2=>simp at he
 rename_i i hi;split at he
 case isFalse=>simp at he
 rename_i hk;obtain ⟨hk1,hk3,hk4,hk5⟩:=hk;cases hf:ak9 i.c9 (List.replicate len i.B9) (parts.toList.map fun p=>(p.1,ρ p.2)) with
 | none=>simp [hf] at he
 | some out =>
  simp [hf] at he;subst he;obtain ⟨inf,d,z,i1,i2,i0,is,ib,ia,iz,_,ik4,_,_,_,_,_,iez⟩:=P6 hi;obtain ⟨e,rfl,hes,heb,_⟩:=ik4 hk1;obtain ⟨ie,de,he1,he2,he3⟩:=S0 (P:=P) (t:=e) (by rw [← hes];exact hk3);have hez:=(iez e (.inl rfl)).2 ie he1;have hsz:ie.size=i.c9:=by rw [he3,hes]
  obtain ⟨ze,hze,di1,cd9⟩:∃ ze,ie.zero=some ze∧i.B9=ze.cells.toList.map aU0∧ze.cells.size=i.c9:=by
   cases hz0:ie.zero with
   | none=>rw [hz0] at hez;rw [hez] at hk4;simp at hk4;exact absurd hk4.symm hk3
   | some ze=>rw [hz0] at hez;exact ⟨ze,rfl,hez,by rw [hez] at hk4;simpa using hk4⟩
  have cT1:∀ e∈List.replicate len i.B9,e.length=i.c9:=by
   intro e he;rw [List.mem_replicate] at he;rw [he.2];exact hk4
  have bj7:∀ (j:Nat) (p:Nat × V) (q:Nat × Value),(parts.toList.map fun p=>(p.1,ρ p.2))[j]? = some p →
    (parts.map fun p=>(p.1,ρc p.2)).toList[j]? = some q→p.1=q.1∧RV g w q.2 p.2:=by
   intro j p q hp hq;simp only [List.getElem?_map,Array.toList_map] at hp hq;cases hh:parts.toList[j]? with
   | none=>simp [hh] at hp
   | some x =>
    simp [hh] at hp hq;subst hp;subst hq;exact ⟨rfl,hρ _⟩
  have hzero:∀ zz:Array Value,(len * i.c9=0∨zz=ze.cells)→RVL g w ((Array.range (len * i.c9)).map (zz[· % zz.size]!)) (List.replicate len i.B9).flatten:=by
   intro zz hzz;have hfl:=Z7 (List.replicate len i.B9) i.c9 cT1;simp only [List.length_replicate] at hfl;refine RVL.mk (by rw [hfl];simp) fun q v hv=>?_;have hq:q<len * i.c9:=by
    rw [← hfl];exact (List.getElem?_eq_some_iff.1 hv).1
   rcases hzz with h0|rfl
   ·omega
   ·have cw5:q % i.c9<i.c9:=Nat.mod_lt _ (Nat.pos_of_ne_zero hk3)
    refine ⟨ze.cells[q % i.c9]'(by rw [cd9];exact cw5),?_,?_⟩
    ·simp [hq,cd9,cw5]
    ·have hdiv:q / i.c9<len:=Nat.div_lt_of_lt_mul (by rw [Nat.mul_comm];exact hq)
     have:=bU4 (List.replicate len i.B9) i.c9 (q / i.c9) (q % i.c9) i.B9 (i.B9[q % i.c9]'(by rw [hk4];exact cw5)) cT1 (by simp [hdiv]) (by simp [hk4,cw5]);rw [Nat.mul_comm,Nat.div_add_mod] at this;rw [this] at hv;cases hv;simp only [di1,List.getElem_map,Array.getElem_toList];exact bm8 g w _
  have main:∀ zz:Array Value,(len * i.c9=0∨zz=ze.cells)→∃ ws,Instr.fill (fun j=>some (j * i.c9,i.c9)) ((Array.range (len * i.c9)).map (zz[· % zz.size]!)) (parts.map fun p=>(p.1,ρc p.2)).toList=some ws ∧
    RVL g w ws out.flatten∧(∀ e∈out,e.length=i.c9)∧out.length=len:=by
   intro zz hzz;have:=bs8 (g:=g) (w:=w) (k:=i.c9) (parts.map fun p=>(p.1,ρc p.2)).toList (parts.toList.map fun p=>(p.1,ρ p.2)) _ _ out sp_ bj7 cT1 (hzero zz hzz) hf;simpa using this
  obtain ⟨ws,hw1,hw2,hw3,hw4⟩:=main (if len * i.c9=0 then #[] else ze.cells) (by split<;>simp_all);obtain ⟨g',hx',hr',hl'⟩:=aJ3 r ws e;refine ⟨.slice (some ⟨w.heap.size,0,none⟩) len len,w.alloc (.cells ws e),g',.inl ?_,hx',hr',?_⟩
  ·have hb:¬ (16777216<len * i.c9):=by omega
   by_cases h0:len * i.c9=0
   ·rw [if_pos h0] at hw1
    simp [execOp,ho,Instr.buildSlice,run_underlying i2,E1 he1,hsz,h0];simp [h0] at hw1;rw [hw1];simp [newRow]
   ·rw [if_neg h0] at hw1
    simp at hw1;simp [execOp,ho,Instr.buildSlice,run_underlying i2,E1 he1,hsz,hb,zeroValue,typeInfo,he1,hze];rw [if_neg h0,hw1];simp [newRow]
  ·rw [← hw4]
   have aE5:=hw2.1;rw [Z7 out i.c9 hw3] at aE5;refine .sl _ _ .full out i.c9 (fun q=>ws[q]?.getD undef) hw3 (Nat.le_refl _) (fun _=>⟨w.heap.size,0,rfl,by rw [hl',aE5];omega,fun q hq=>?_⟩) (fun q v hv=>?_) rfl
   ·rw [Nat.zero_add,World.cell?_alloc_new]
    rw [Array.getElem?_eq_getElem om_];simp
   ·obtain ⟨c,hc1,hc2⟩:=(hw2.mono hx').at hv
    simp only [hc1,Option.getD_some];exact hc2
end
theorem br1 {P:Program} {env:Nat→Option (List V)} {g:G} {w:World} {h:H} {ρc:Operand→Value} {ρ:Operand→V} (r:Rel env g w h)
  (hρ:∀ x,RV g w (ρc x) (ρ x)) {o:Oper} {nid:Id} {eff:Eff} (he:Q7 P ρ h nid o.op=some eff):Sim P env g w h (execOp ρc o) eff:=by
 cases ho:o.op with
 | alloc t=>exact cw4 r ho he
 | box t x=>exact cZ8 r hρ ho he
 | buildSlice t n ps=>exact bo3 r hρ ho he
 | load t x=>exact cQ5 r hρ ho he
 | store t x y=>exact cI0 r hρ ho he
 | call c =>
  obtain ⟨callee,args,ts⟩:=c;cases callee with
  | builtin b =>
   cases b with
   | append=>exact cq2 r hρ ho rfl he
   | _=>rw [ho] at he;simp [Q7] at he
  | _=>rw [ho] at he;simp [Q7] at he
 | _=>rw [ho] at he;simp [Q7] at he
def aB7 (P:Program) (ρ:Operand→V) (h:H) (nid:Id) (op:Op):Option Eff :=
 match E5 P ρ op with
 | some v=>some ⟨v,[],[]⟩
 | none=>Q7 P ρ h nid op
theorem aX1 {P:Program} {env:Nat→Option (List V)} {g:G} {w:World} {h:H} {ρc:Operand→Value} {ρ:Operand→V} (r:Rel env g w h)
  (hρ:∀ x,RV g w (ρc x) (ρ x)) {o:Oper} {nid:Id} {eff:Eff} (he:aB7 P ρ h nid o.op=some eff):Sim P env g w h (execOp ρc o) eff:=by
 unfold aB7 at he;split at he
 ·rename_i v hv
  cases he;exact Sim.bn1 r (bw7 hρ hv)
 ·exact br1 r hρ he
mutual
def H2:V→V
 | .undef=>.undef
 | .bool b=>.bool b
 | .int k n=>.int k n
 | .str s=>.str s
 | .agg cs=>.agg (C7 cs)
 | .tup vs=>.tup (C7 vs)
 | .sl _ es=>.sl .any (B2 es)
 | .ptr id off=>.ptr id off
 | .slb id n=>.slb id n
 | .el cs off=>.el (C7 cs) off
 | .T9=>.T9
 | .fn f a b=>.fn f (C7 a) (C7 b)
 | .U9=>.U9
 | .iface t v=>.iface t (H2 v)
 | .E7=>.E7
def C7:List V→List V
 | []=>[]
 | v::vs=>H2 v::C7 vs
def B2:List (List V)→List (List V)
 | []=>[]
 | v::vs=>C7 v::B2 vs
end
theorem ao3:∀ l:List V,C7 l=l.map H2
 | []=>by simp [C7]
 | v::vs=>by simp [C7,ao3 vs]
theorem H6:∀ l:List (List V),B2 l=l.map C7
 | []=>by simp [B2]
 | v::vs=>by simp [B2,H6 vs]
theorem U1 (l:List V):(C7 l).length=l.length:=by rw [ao3];simp
theorem ag8 {l:List V} {i:Nat} {v:V} (h:(C7 l)[i]? = some v):∃ u,l[i]? = some u∧v=H2 u:=by
 rw [ao3,List.getElem?_map] at h;cases hh:l[i]? with
 | none=>simp [hh] at h
 | some u=>simp [hh] at h;exact ⟨u,rfl,h.symm⟩
theorem bq7 (es:List (List V)):(B2 es).flatten=C7 es.flatten:=by
 rw [H6,ao3,List.map_flatten];congr 1;apply List.map_congr_left;intro l _;rw [ao3]
theorem RV.H2 {g:G} {w:World} {c:Value} {v:V} (h:RV g w c v):RV g w c (H2 v):=by
 induction h with
 | undef c=>exact .undef c
 | bool b=>exact .bool b
 | int k n=>exact .int k n
 | str s=>exact .str s
 | agg vs cs h _ ih =>
  rw [GoAbs.H2];refine .agg vs _ (by rw [U1];exact h) fun i c v hc hv=>?_;obtain ⟨u,hu,rfl⟩:=ag8 hv;exact ih i c u hc hu
 | tup vs cs h _ ih =>
  rw [GoAbs.H2];refine .tup vs _ (by rw [U1];exact h) fun i c v hc hv=>?_;obtain ⟨u,hu,rfl⟩:=ag8 hv;exact ih i c u hc hu
 | sl a cap c es k cell hk V0 E0 _ hc ih =>
  rw [GoAbs.H2];have hl:(B2 es).length=es.length:=by rw [H6];simp
  rw [← hl];refine .sl a cap .any _ k cell ?_ (by rw [hl];exact V0) ?_ ?_ trivial
  ·intro e he
   rw [H6] at he;obtain ⟨e0,h0,rfl⟩:=List.mem_map.1 he;rw [U1];exact hk e0 h0
  ·intro hne
   rw [hl];exact E0 (by intro e;subst e;exact hne rfl)
  ·intro i v hv
   rw [bq7] at hv;obtain ⟨u,hu,rfl⟩:=ag8 hv;exact ih i u hu
 | ptr id off h=>exact .ptr id off h
 | slb id n cap h h2=>exact .slb id n cap h h2
 | el b off cs o cell hl E0 _ ih =>
  rw [GoAbs.H2];refine .el b off _ o cell (by rw [U1];exact hl) (by rw [U1];exact E0) fun i v hv=>?_;obtain ⟨u,hu,rfl⟩:=ag8 hv;exact ih i u hu
 | T9=>exact .T9
 | fn f fs cs fs' cs' h1 h2 _ _ ih1 ih2 =>
  rw [GoAbs.H2];refine .fn f fs cs _ _ (by rw [U1];exact h1) (by rw [U1];exact h2) (fun i c v hc hv=>?_) (fun i c v hc hv=>?_)
  ·obtain ⟨u,hu,rfl⟩:=ag8 hv;exact ih1 i c u hc hu
  ·obtain ⟨u,hu,rfl⟩:=ag8 hv;exact ih2 i c u hc hu
 | U9=>exact .U9
 | iface t c v _ ih=>exact .iface t c _ ih
 | E7=>exact .E7
theorem RVL.H2 {g:G} {w:World} {vs:Array Value} {cs:List V} (h:RVL g w vs cs):RVL g w vs (C7 cs) :=
  ⟨by rw [U1];exact h.1,fun i c v hc hv=>by
    obtain ⟨u,hu,rfl⟩:=ag8 hv;exact (h.2 i c u hc hu).H2⟩

def aa3 (P : Program) (f : FuncId) : Prop := ∃ fn, P.funcs[f]? = some fn ∧ fn.body.isSome = true ∧ (fn.name == "runtime.NumGoroutine") = false
def Ret (P:Program) (env:Nat→Option (List V)) (f:FuncId) (args:List V) (h:H) (v:V) (h':H):Prop :=
 aa3 P f∧∀ g w (vs:Array Value),Rel env g w h→RVL g w vs args →
  Calls P f vs w fun e w'=>∃ c g',e=.returned c∧Ext g w g' w'∧Rel env g' w' h'∧RV g' w' c v
def Pure (P:Program) (env:Nat→Option (List V)) (f:FuncId) (args:List V) (v:V):Prop:=∀ h,Ret P env f args h v h
def av (env:Nat→Option (List V)) (tm:Nat→V):Operand→V
 | .tmp t=>tm t
 | .const c=>toV c
 | .global k=>match env k with|some cs=>.el cs 0|none=>.undef
 | .func f=>.fn (.func f) [] []
def upd (tm:Nat→V) (d:Option Nat) (v:V):Nat→V :=
 match d with
 | some d=>fun t=>if t=d then v else tm t
 | none=>tm
def bX8 (P:Program) (t:TypeId) (name:String):Option FuncId :=
  match P.info? t,P.underlying t with
  | some i,some d =>
    (match d with
    | .pointer _=>none
    | _=>(match i.methods.find? (·.name==name) with
      | some m=>if m.path.size=0 then (match m.func with|some (f,false)=>some f|_=>none) else none
      | none=>none))
  | _,_=>none

def db9 (P:Program) (ρ:Operand→V) (c:Call) (k:FuncId) (args:List V):Prop :=
 (∃ x first captured,c.callee=.value x∧ρ x=.fn (.func k) first captured∧args=first++c.args.toList.map ρ++captured) ∨
 (∃ x name t v,c.callee=.invoke x name∧ρ x=.iface t v∧bX8 P t name=some k∧args=v::c.args.toList.map ρ)
def bQ1 (P:Program) (env:Nat→Option (List V)) (ρ:Operand→V) (h:H) (c:Call) (eff:Eff):Prop :=
 ∃ k args,db9 P ρ c k args∧(∀ p∈eff.writes,p.1∈eff.reads) ∧
  ∀ h2:H,(∀ id∈eff.reads,h2 id=h id)→Ret P env k (C7 args) h2 eff.v (J2 h2 eff.writes)
def Stp (P:Program) (env:Nat→Option (List V)) (ρ:Operand→V) (h:H) (nid:Id) (op:Op) (eff:Eff):Prop :=
 aB7 P ρ h nid op=some eff∨∃ c,op=.call c∧bQ1 P env ρ h c eff
structure St where
 tm:Nat→V
 h:H
def St.put (σ:St) (d:Option Nat) (e:Eff):St:=⟨upd σ.tm d e.v,J2 σ.h e.writes⟩
structure K1 (env:Nat→Option (List V)) (n:Nat) (g:G) (w:World) (a:Act) (σ:St):Prop where
 rel:Rel env g w σ.h
 tm:∀ t,RV g w (a.tmps.getD t undef) (σ.tm t)
 size:n≤a.tmps.size
 defers:a.defers=[]
theorem bt5 {env:Nat→Option (List V)} {n:Nat} {g:G} {w:World} {a:Act} {σ:St} (r:K1 env n g w a σ) (x:Operand):RV g w (a.eval x) (av env σ.tm x):=by
 cases x with
 | tmp t=>exact r.tm t
 | const c=>exact cT7 g w c
 | global k =>
  simp only [av];split
  ·rename_i cs h;exact r.rel.glob k cs h
  ·exact .undef _
 | func f=>exact .fn _ _ _ _ _ rfl rfl sp_ sp_
theorem K1.put {env:Nat→Option (List V)} {n:Nat} {g:G} {w:World} {a:Act} {σ:St} (r:K1 env n g w a σ) {g':G} {w':World} (x:Ext g w g' w')
  {d:Option Nat} (hd:∀ t,d=some t→t<n) {c:Value} {v:V} {h':H} (hr:Rel env g' w' h') (hv:RV g' w' c v):K1 env n g' w' (a.put d c) ⟨upd σ.tm d v,h'⟩:=by
 cases d with
 | none=>exact ⟨hr,fun t=>(r.tm t).mono x,r.size,r.defers⟩
 | some d =>
  have hlt:=hd d rfl;have hs:=r.size;refine ⟨hr,fun t=>?_,by simpa [Act.put] using r.size,r.defers⟩;simp only [Act.put,upd];by_cases e:t=d
  ·subst e
   simp only [if_true];have:(a.tmps.setIfInBounds t c).getD t undef=c:=by
    simp [Array.getElem?_setIfInBounds];rw [if_pos om_];simp
   rw [this];exact hv
  ·rw [if_neg e]
   have:(a.tmps.setIfInBounds d c).getD t undef=a.tmps.getD t undef:=by
    simp [Array.getElem?_setIfInBounds_ne (Ne.symm e)]
   rw [this];exact (r.tm t).mono x
theorem aR4 {P:Program} {env:Nat→Option (List V)} {g:G} {w:World} {h:H} {ρc:Operand→Value} {ρ:Operand→V} (r:Rel env g w h) (hρ:∀ x,RV g w (ρc x) (ρ x))
    {o:Oper} {c:Call} {eff:Eff} (hc:o.op=.call c) (hs:bQ1 P env ρ h c eff) :
    ∃ k vs,(execOp ρc o).run P w=.ok (.enter k vs) w∧Calls P k vs w fun e w'=>∃ cv g',e=.returned cv∧Ext g w g' w'∧Rel env g' w' (J2 h eff.writes)∧RV g' w' cv eff.v:=by
  obtain ⟨k,args,hl,aJ4,cy0⟩:=hs;obtain ⟨⟨fn,f1,f2,f3⟩,cy0⟩:=cy0 h (fun _ _=>rfl)
  have f3' : ¬ (fn.name = "runtime.NumGoroutine") := by simpa using f3
  have f2':fn.body≠none:=by intro e;simp [e] at f2
  have app:∀ {x1 x2:Array Value} {y1 y2:List V},RVL g w x1 y1→RVL g w x2 y2→RVL g w (x1++x2) (y1++y2):=by
    intro x1 x2 y1 y2 h1 h2;refine ⟨by simp [h1.1,h2.1],fun i c v hc hv=>?_⟩;by_cases hi:i<y1.length
    · rw [Array.getElem?_append_left (by rw [h1.1];exact hi)] at hc
      rw [List.getElem?_append_left hi] at hv;exact h1.2 i c v hc hv
    · rw [Array.getElem?_append_right (by rw [h1.1];omega),h1.1] at hc
      rw [List.getElem?_append_right om_] at hv;exact h2.2 _ c v hc hv
  have hB:RVL g w (c.args.map ρc) (c.args.toList.map ρ):=aI6 (fun x=>hρ x) c.args;rcases hl with ⟨x,first,captured,hx,hf,rfl⟩|⟨x,name,t,v,hx,hf,hm,rfl⟩
  · have hfx:=hρ x
    rw [hf] at hfx;cases hcx:ρc x<;>rw [hcx] at hfx<;>cases hfx
    rename_i fs cs l1 r1 l2 r2;have hA:RVL g w fs first:=⟨l1,as_⟩
    have hC:RVL g w cs captured:=⟨as_,as_⟩;refine ⟨k,fs++c.args.map ρc++cs,?_,cy0 g w _ r (app (app hA hB) hC).H2⟩;simp [execOp,hc,resolve,hx,hcx,Deferred.ofValue,invoke,callFunc,f1,f3',f2']
  · have hfx:=hρ x
    rw [hf] at hfx;generalize hcx:ρc x=cx at hfx;cases hfx with|iface _ u _ hr=>?_
    have hA:RVL g w #[u] [v]:=⟨rfl,fun i a b h1 h2=>by
      match i with
      | 0=>simp at h1 h2;subst h1;subst h2;exact hr
      | i+1=>simp at h2⟩
    refine ⟨k,#[u]++c.args.map ρc,?_,cy0 g w _ r (app hA hB).H2⟩;unfold bX8 at hm;split at hm
    case h_2=>cases hm
    rename_i inf d hi hd;have bz4:∃ m,inf.methods.find? (·.name==name)=some m∧m.path.size=0∧m.func=some (k,false)∧∀ e,d≠.pointer e:=by
      split at hm
      · cases hm
      · rename_i hnp
        split at hm
        case h_2=>cases hm
        rename_i m hmf;split at hm
        case isFalse=>cases hm
        rename_i hp;split at hm
        case h_2=>cases hm
        rename_i f hfm;cases hm;exact ⟨m,hmf,hp,hfm,fun e he=>hnp e he⟩
    obtain ⟨m,h1,h2,h3,h4⟩:=bz4;have cZ4:m.path.toList=[]:=by
      have:m.path.toList.length=0:=by simpa using h2
      exact List.length_eq_zero_iff.1 this
    have hrecv:∀ wr:Option String,(receiverAt t (.val u) false wr).run P w=.ok u w:=by
      intro wr;unfold receiverAt;simp only [Sem.run_bind,run_underlying hd,Result.andThen_ok];cases d<;>first|(exact absurd rfl (h4 _))|simp [Place.get]
    have de0:∀ fuel,(method (fuel+1) t u name).run P w=.ok (k,u) w:=by
      intro fuel;simp [method,typeInfo,hi,h1,cZ4,follow,h3,hrecv]
    have cK5:∃ q,P.types.size+Made.depth=q+1:=⟨P.types.size+(Made.depth - 1),by simp [Made.depth]⟩;obtain ⟨q,hq⟩:=cK5;have e0:(#[Value.iface t u]++Array.map ρc c.args)[0]? = some (Value.iface t u):=by rw [Array.getElem?_append_left sp_];rfl
    have e1:(Array.map ρc c.args).extract 0 c.args.size=Array.map ρc c.args:=by
      have:=Array.extract_size (xs:=Array.map ρc c.args);simp
    simp [execOp,hc,resolve,hx,hcx,invoke,callMethod,e0,hq,de0,callFunc,f1,f3',f2',e1]

theorem cV3 {P:Program} {env:Nat→Option (List V)} {n:Nat} {g:G} {w:World} {a:Act} {σ:St} {nid:Id} {o:Oper} {eff:Eff}
  (hs:Stp P env (av env σ.tm) σ.h nid o.op eff) (r:K1 env n g w a σ) (hd:∀ t,o.dst=some t→t<n) {next:Act→World→Prop} {Q:Exit→Act→World→Prop}
  (hn:∀ g' a' w',Ext g w g' w'→K1 env n g' w' a' (σ.put o.dst eff)→next a' w'):o.wp P a w next Q:=by
 rcases hs with hs|⟨c,hc,hs⟩
 ·obtain ⟨cv,w',g',E0,hx,hr,hv⟩:=aX1 r.rel (fun x=>bt5 r x) hs
  have:=hn g' (a.put o.dst cv) w' hx (r.put hx hd hr hv);rcases E0 with E0|⟨E0,rfl⟩
  ·simpa only [Oper.wp,E0,Oper.upon_value] using this
  ·simpa only [Oper.wp,E0,Oper.upon_skip] using this
 ·obtain ⟨k,vs,E0,aI0⟩:=aR4 r.rel (fun x=>bt5 r x) hc hs
  simp only [Oper.wp,E0,Oper.upon_enter];refine aI0.mono ?_;rintro e w' ⟨cv,g',rfl,hx',hr',hv'⟩;exact hn g' _ w' hx' (r.put hx' hd hr' hv')
theorem be0 {ρ ρ':Operand→V} (ps:Array (Nat × Operand)) (h:∀ x∈((ps.toList.map (·.2)).toArray),ρ x=ρ' x) :
  (ps.toList.map fun p=>(p.1,ρ p.2))=(ps.toList.map fun p=>(p.1,ρ' p.2)) :=
 List.map_congr_left fun p hp=>by rw [h p.2 (by simp;exact ⟨p.1,by simpa using hp⟩)]
theorem br6 {P:Program} {ρ ρ':Operand→V} {op:Op} (h:∀ x∈op.operands,ρ x=ρ' x):E5 P ρ op=E5 P ρ' op:=by
  cases op<;>simp only [E5]<;>simp only [Op.operands] at h
  case move x=>rw [h x sp_]
  case assign x=>rw [h x sp_]
  case pick c a b=>rw [h a sp_,h b sp_,h c sp_]
  case build t ps=>rw [be0 ps h]
  case nilCheck x=>rw [h x sp_]
  case binOp op t x y yt=>rw [h x sp_,h y sp_]
  case unOp op t x=>rw [h x sp_]
  case convert a b x=>rw [h x sp_]
  case fieldAddr s x f=>rw [h x sp_]
  case field s x f=>rw [h x sp_]
  case indexAddr t x i=>rw [h x sp_,h i sp_]
  case index t x i=>rw [h x sp_,h i sp_]
  case extract x i=>rw [h x sp_]
  case slice t x lo hi mx =>
    rw [h x sp_];have e1:lo.map ρ=lo.map ρ':=by cases lo with|none=>rfl|some z=>simp [h z sp_]
    have e2:hi.map ρ=hi.map ρ':=by cases hi with|none=>rfl|some z=>simp [h z sp_]
    have e3:mx.map ρ=mx.map ρ':=by cases mx with|none=>rfl|some z=>simp [h z sp_]
    rw [e1,e2,e3]
  case makeFunc f a b =>
    have e1:a.toList.map ρ=a.toList.map ρ':=List.map_congr_left fun x hx=>h x (by simp at hx;simp [hx]);have e2:b.toList.map ρ=b.toList.map ρ':=List.map_congr_left fun x hx=>h x (by simp at hx;simp [hx]);rw [e1,e2]
  case makeInterface t x=>rw [h x sp_]
  case typeAssert x t0 t ok=>rw [h x sp_]
  case call c =>
    obtain ⟨callee,args,ts⟩:=c;have e:args.toList.map ρ=args.toList.map ρ':=List.map_congr_left fun x hx=>h x (by simp at hx;simp [Call.operands,hx]);cases callee with
    | builtin b =>
      cases b<;>simp only [E5]
      case len =>
        split
        · rename_i x t ha ht
          rw [h x (by have:x∈args.toList:=by rw [ha];simp
                      simp at this;simp [Call.operands,this])]
        · rfl
      all_goals (first|rfl|rw [e])
    | _=>simp only [E5]

theorem bt9 {P:Program} {ρ ρ':Operand→V} {op:Op} {h h':H} {nid:Id} {eff:Eff} (ho:∀ x∈op.operands,ρ x=ρ' x)
  (he:Q7 P ρ h nid op=some eff) (hh:∀ id∈eff.reads,h' id=h id):Q7 P ρ' h' nid op=some eff:=by
 cases op<;>simp only [Q7] at he ⊢<;>simp only [Op.operands] at ho
 case alloc t =>
  split at he
  case h_2=>simp at he
  rename_i i hi hn;cases he;have:=hh nid sp_;rw [hn] at this;simp [hi,this]
 case box t x =>
  rw [ho x sp_] at he;split at he
  ·rename_i hz;rw [if_pos hz];exact he
  rename_i hz;rw [if_neg hz];split at he
  case h_2=>simp at he
  rename_i cs hc hn;cases he;have:=hh nid sp_;rw [hn] at this;simp [hc,this]
 case buildSlice t n ps=>rw [be0 ps ho] at he;exact he
 case load t x =>
  rw [ho x sp_] at he;split at he
  ·rename_i i id off hi hv
   split at he
   case h_2=>simp at he
   rename_i cs hb;cases hp:af1 i.agg i.size cs off with
   | none=>simp [hp] at he
   | some v =>
    simp [hp] at he;subst he;have:=hh id sp_;rw [hb] at this;simp [hi,hv,this,hp]
  ·exact he
  ·simp at he
 case store t x y =>
  rw [ho x sp_,ho y sp_] at he;split at he
  case h_2=>simp at he
  rename_i i id off xs hi hv hcx;split at he
  case h_2=>simp at he
  rename_i cs hb;split at he
  case isFalse=>simp at he
  rename_i hk;cases he;have:=hh id sp_;rw [hb] at this;simp only [hi,hv,hcx,this];rw [if_pos hk]
 case call c =>
  obtain ⟨callee,args,ts⟩:=c;have e:args.toList.map ρ=args.toList.map ρ':=List.map_congr_left fun x hx=>ho x (by simp at hx;simp [Call.operands,hx]);cases callee with
  | builtin b =>
   cases b<;>simp only [Q7] at he ⊢
   case append =>
    rw [e] at he;split at he
    case h_2=>simp at he
    rename_i c es c2 xs i j ak8 hts;split at he
    case isFalse=>simp at he
    rename_i hk;rw [if_pos hk];cases c with
    | any=>simp at he
    | full =>
     simp only at he ⊢;split at he
     case h_2=>simp at he
     rename_i hn;cases he;have:=hh nid sp_;rw [hn] at this;simp [this]
    | own id =>
     simp only at he ⊢;split at he
     case h_2=>simp at he
     rename_i n k hn;split at he
     case isFalse=>simp at he
     rename_i hne;cases he;have:=hh id sp_;rw [hn] at this;simp [this,hne]
   all_goals cases he
  | _=>cases he
 all_goals cases he
theorem aD8 {P:Program} {env:Nat→Option (List V)} {ρ ρ':Operand→V} {op:Op} {h h':H} {nid:Id} {eff:Eff} (ho:∀ x∈op.operands,ρ x=ρ' x)
  (he:Stp P env ρ h nid op eff) (hh:∀ id∈eff.reads,h' id=h id):Stp P env ρ' h' nid op eff:=by
 rcases he with he|⟨c,rfl,k,args,hl,h3,h4⟩
 ·left
  unfold aB7 at he ⊢;rw [← br6 ho];split at he
  ·exact he
  ·exact bt9 ho he hh
 ·right
  have e:c.args.toList.map ρ=c.args.toList.map ρ':=List.map_congr_left fun x hx=>ho x (by simp at hx;simp [Op.operands,Call.operands,hx]);refine ⟨c,rfl,k,args,?_,h3,fun h2' hh2=>h4 h2' fun id hid=>(hh2 id hid).trans (hh id hid)⟩;rcases hl with ⟨x,first,captured,h1,h2,h5⟩|⟨x,name,t,v,h1,h2,h5,h6⟩
  ·exact .inl ⟨x,first,captured,h1,by rw [← ho x (by simp [Op.operands,Call.operands,h1])];exact h2,by rw [← e];exact h5⟩
  ·exact .inr ⟨x,name,t,v,h1,by rw [← ho x (by simp [Op.operands,Call.operands,h1])];exact h2,h5,by rw [← e];exact h6⟩
theorem au6 {P:Program} {env:Nat→Option (List V)} {ρ:Operand→V} {op:Op} {h:H} {nid:Id} {eff:Eff} (he:Stp P env ρ h nid op eff) :
  ∀ p∈eff.writes,p.1∈eff.reads:=by
 rcases he with he|⟨c,rfl,k,args,hl,h3,h4⟩
 ·unfold aB7 at he
  cases hp:E5 P ρ op with
  | some v=>rw [hp] at he;cases he;simp
  | none =>
   rw [hp] at he;simp only at he;clear hp;cases op<;>simp only [Q7] at he
   case call c =>
    obtain ⟨callee,args,ts⟩:=c;cases callee with
    | builtin b =>
     cases b<;>simp only [Q7] at he
     case append =>
      split at he
      case h_2=>simp at he
      split at he
      case isFalse=>simp at he
      split at he
      ·split at he
       ·split at he
        ·cases he;simp
        ·simp at he
       ·simp at he
      ·split at he
       ·cases he;simp
       ·simp at he
      ·simp at he
     all_goals cases he
    | _=>cases he
   case buildSlice =>
    split at he
    ·split at he
     ·rename_i i _ _
      simp only [Option.map_eq_some_iff] at he;obtain ⟨es,_,rfl⟩:=he;simp
     ·simp at he
    ·simp at he
   case box =>
    split at he
    ·simp only [Option.map_eq_some_iff] at he
     obtain ⟨es,_,rfl⟩:=he;simp
    ·split at he
     ·cases he;simp
     ·simp at he
   case load =>
    split at he
    ·split at he
     ·simp only [Option.map_eq_some_iff] at he
      obtain ⟨es,_,rfl⟩:=he;simp
     ·simp at he
    ·simp only [Option.map_eq_some_iff] at he
     obtain ⟨es,_,rfl⟩:=he;simp
    ·simp at he
   case store =>
    split at he
    ·split at he
     ·split at he
      ·cases he;simp
      ·simp at he
     ·simp at he
    ·simp at he
   all_goals (first|(cases he;done)|(split at he<;>first|(cases he;simp;done)|(simp at he;done)))
 ·exact h3
def ap4 (ops:Array Oper) (o:Oper) (tm:Nat→V):Option Bool :=
 match o.guard with
 | none=>some true
 | some (j,want) =>
  match (ops[j]?).bind (·.dst) with
  | some t=>(match tm t with | .bool b=>some (b==want) | .tup []=>some false|_=>none)
  | none=>none
theorem ap0 {env:Nat→Option (List V)} {n:Nat} {g:G} {w:World} {a:Act} {σ:St} (r:K1 env n g w a σ) {ops:Array Oper} {o:Oper} {b:Bool}
  (h:ap4 ops o σ.tm=some b):Region.wanted o (yielded ops a.tmps)=b:=by
 unfold ap4 at h;unfold Region.wanted;cases hg:o.guard with
 | none=>rw [hg] at h;simpa using h
 | some x =>
  obtain ⟨j,want⟩:=x;rw [hg] at h;simp only at h ⊢;unfold yielded;cases ht:(ops[j]?).bind (·.dst) with
  | none=>rw [ht] at h;simp at h
  | some t =>
   rw [ht] at h;simp only at h;split at h
   ·rename_i b' hb
    have hr:=r.tm t;rw [hb] at hr;have I8:a.tmps[t]? = some (.bool b'):=by
     cases hh:a.tmps[t]? with
     | none =>
      have:a.tmps.getD t undef=undef:=by simp [hh]
      rw [this] at hr;cases hr
     | some c =>
      have:a.tmps.getD t undef=c:=by simp [hh]
      rw [this] at hr;cases hr;rfl
    simp only [Option.bind_some,I8];cases h;cases b'<;>cases want<;>rfl
   ·rename_i hb
    have hr:=r.tm t;rw [hb] at hr;cases h;generalize hcc:a.tmps.getD t undef=cc at hr;cases hr;rename_i cs hs _;cases hh:a.tmps[t]? with
    | none=>simp [hh]
    | some c =>
     have:a.tmps.getD t undef=c:=by simp [hh]
     rw [hcc] at this;subst this;simp [hh]
   ·simp at h
def ct3 (P:Program) (env:Nat→Option (List V)) (ops:Array Oper) (gen reg:Nat) (x:Nat × Option Eff) (σ σ':St):Prop :=
 ∃ o,ops[x.1]? = some o ∧
  match x.2 with
  | some e=>ap4 ops o σ.tm=some true∧Stp P env (av env σ.tm) σ.h ⟨gen,reg,x.1⟩ o.op e∧σ'=σ.put o.dst e
  | none=>ap4 ops o σ.tm=some false∧σ'=⟨upd σ.tm o.dst (.tup []),σ.h⟩
inductive af8 (P:Program) (env:Nat→Option (List V)) (ops:Array Oper) (gen reg:Nat):List (Nat × Option Eff)→St→St→Prop where
 | nil (σ:St):af8 P env ops gen reg [] σ σ
 | cons (x:Nat × Option Eff) (l:List (Nat × Option Eff)) (σ σ1 σ2:St) (h:ct3 P env ops gen reg x σ σ1) (t:af8 P env ops gen reg l σ1 σ2):af8 P env ops gen reg (x::l) σ σ2
def aG5:Option Eff→Option Eff→Prop
 | some a,some b=>(∀ p∈a.writes,p.1 ∉ b.reads)∧(∀ p∈b.writes,p.1 ∉ a.reads)
 | _,_=>True
theorem av4:∀ (ws:List (Id × Obj)) (h:H) (id:Id),(∀ p∈ws,p.1≠id)→J2 h ws id=h id
 | [],h,id,_=>rfl
 | (i,o)::ws,h,id,hn=>by
  rw [J2,av4 ws _ id fun p hp=>hn p (by simp [hp])];exact l8 (fun e=>hn (i,o) sp_ e.symm)
theorem bY8 {h:H} {i j:Id} {a b:Obj} (hn:i≠j):u9 (u9 h i a) j b=u9 (u9 h j b) i a:=by
 funext k
 simp only [u9];by_cases h1:k=j
 ·subst h1;simp [Ne.symm hn]
 ·simp [h1]
theorem aR5:∀ (ws:List (Id × Obj)) (h:H) (i:Id) (o:Obj),(∀ p∈ws,p.1≠i)→J2 (u9 h i o) ws=u9 (J2 h ws) i o
 | [],h,i,o,_=>rfl
 | (j,x)::ws,h,i,o,hn=>by
  rw [J2,J2,bY8 (Ne.symm (hn (j,x) sp_)),aR5 ws _ i o fun p hp=>hn p (by simp [hp])]
theorem aQ8:∀ (a b:List (Id × Obj)) (h:H),(∀ p∈a,∀ q∈b,p.1≠q.1)→J2 (J2 h a) b=J2 (J2 h b) a
 | [],b,h,_=>rfl
 | (i,o)::a,b,h,hn=>by
  rw [J2,aQ8 a b _ (fun p hp q hq=>hn p (by simp [hp]) q hq),aR5 b h i o (fun q hq=>Ne.symm (hn (i,o) sp_ q hq)),J2]
theorem aL3 {tm:Nat→V} {d e:Option Nat} {u v:V} (h:∀ t,d=some t→e≠some t):upd (upd tm d u) e v=upd (upd tm e v) d u:=by
 cases d with
 | none=>rfl
 | some d =>
  cases e with
  | none=>rfl
  | some e =>
   have hne:d≠e:=fun x=>h d rfl (by rw [x])
   funext t
   simp only [upd];by_cases h1:t=e
   ·subst h1;simp [Ne.symm hne]
   ·simp [h1]
theorem bk5 {env:Nat→Option (List V)} {tm:Nat→V} {d:Option Nat} {v:V} {x:Operand} (h:∀ t,d=some t→x≠.tmp t):av env (upd tm d v) x=av env tm x:=by
 cases d with
 | none=>rfl
 | some d =>
  cases x with
  | tmp t =>
   have:t≠d:=fun e=>h d rfl (by rw [e]);simp [av,upd,this]
  | _=>rfl
theorem ad9 {ops:Array Oper} {o:Oper} {tm:Nat→V} {d:Option Nat} {v:V} (h:∀ t,d=some t→t ∉ o.looksAt ops):ap4 ops o (upd tm d v)=ap4 ops o tm:=by
 unfold ap4;cases hg:o.guard with
 | none=>rfl
 | some x =>
  obtain ⟨j,want⟩:=x;simp only;cases ht:(ops[j]?).bind (·.dst) with
  | none=>rfl
  | some t =>
   cases d with
   | none=>rfl
   | some d =>
    have:t≠d:=fun e=>h d rfl (by subst e;simp [Oper.looksAt,hg,ht]);simp [upd,this]
theorem aH9 {ops:Array Oper} {o:Oper} {t:Nat} (h:t ∉ o.looksAt ops):∀ x∈o.op.operands,x≠.tmp t:=by
 intro x hx e;subst e;exact h (List.mem_append_left _ (List.mem_filterMap.2 ⟨.tmp t,by simpa using hx,rfl⟩))
section
variable {P:Program} {env:Nat→Option (List V)} {ops:Array Oper} {gen reg:Nat}
theorem swap {x y:Nat × Option Eff} {l:List (Nat × Option Eff)} {σ σe:St} {ox oy:Oper} (hox:ops[x.1]? = some ox) (hoy:ops[y.1]? = some oy)
  (hap:oy.apart ops ox=true) (hin:aG5 y.2 x.2) (h:af8 P env ops gen reg (y::x::l) σ σe):af8 P env ops gen reg (x::y::l) σ σe:=by
 obtain ⟨a1,a2,a3⟩:=Oper.apart_spec hap;cases h with
 | cons _ _ _ σ1 _ hy t =>
  cases t with
  | cons _ _ _ σ2 _ hx t =>
   obtain ⟨iy,ey⟩:=y;obtain ⟨ix,ex⟩:=x;obtain ⟨oy',cV7,hy⟩:=hy;obtain ⟨ox',cQ6,hx⟩:=hx;simp only at hox hoy cV7 cQ6 hy hx hin;rw [hoy] at cV7;cases cV7;rw [hox] at cQ6;cases cQ6;cases ey with
   | none =>
    obtain ⟨gy,rfl⟩:=hy;cases ex with
    | none =>
     obtain ⟨gx,rfl⟩:=hx;refine .cons _ _ _ ⟨upd σ.tm ox.dst (.tup []),σ.h⟩ _ ⟨ox,hox,?_,rfl⟩ (.cons _ _ _ _ _ ⟨oy,hoy,?_,rfl⟩ ?_)
     ·rw [← gx];exact (ad9 a1).symm
     ·rw [← gy];exact ad9 a3
     ·simp only at t ⊢;rw [aL3 (fun t h1 h2=>a2 t h2 h1)];exact t
    | some ex =>
     obtain ⟨gx,sx,rfl⟩:=hx;refine .cons _ _ _ (σ.put ox.dst ex) _ ⟨ox,hox,?_,?_,rfl⟩ (.cons _ _ _ _ _ ⟨oy,hoy,?_,rfl⟩ ?_)
     ·rw [← gx];exact (ad9 a1).symm
     ·exact aD8 (fun x hx=>bk5 (fun t ht=>aH9 (a1 t ht) x hx)) sx (fun _ _=>rfl)
     ·rw [← gy];exact ad9 a3
     ·simp only [St.put] at t ⊢;rw [aL3 (fun t h1 h2=>a2 t h2 h1)];exact t
   | some ey =>
    obtain ⟨gy,sy,rfl⟩:=hy;cases ex with
    | none =>
     obtain ⟨gx,rfl⟩:=hx;refine .cons _ _ _ ⟨upd σ.tm ox.dst (.tup []),σ.h⟩ _ ⟨ox,hox,?_,rfl⟩ (.cons _ _ _ _ _ ⟨oy,hoy,?_,?_,rfl⟩ ?_)
     ·rw [← gx];exact (ad9 a1).symm
     ·rw [← gy];exact ad9 a3
     ·exact aD8 (fun x hx=>(bk5 (fun t ht=>aH9 (a3 t ht) x hx)).symm) sy (fun _ _=>rfl)
     ·simp only [St.put] at t ⊢;rw [aL3 (fun t h1 h2=>a2 t h2 h1)];exact t
    | some ex =>
     obtain ⟨gx,sx,rfl⟩:=hx;obtain ⟨i1,i2⟩:=hin;have wx:=au6 sx;have wy:=au6 sy;refine .cons _ _ _ (σ.put ox.dst ex) _ ⟨ox,hox,?_,?_,rfl⟩ (.cons _ _ _ _ _ ⟨oy,hoy,?_,?_,rfl⟩ ?_)
     ·rw [← gx];exact (ad9 a1).symm
     ·refine aD8 (fun x hx=>bk5 (fun t ht=>aH9 (a1 t ht) x hx)) sx (fun id hid=>?_)
      exact (av4 _ _ _ fun p hp e=>i1 p hp (by rw [e];exact hid)).symm
     ·rw [← gy];exact ad9 a3
     ·refine aD8 (fun x hx=>(bk5 (fun t ht=>aH9 (a3 t ht) x hx)).symm) sy (fun id hid=>?_)
      exact av4 _ _ _ fun p hp e=>i2 p hp (by rw [e];exact hid)
     ·simp only [St.put] at t ⊢
      rw [aL3 (fun t h1 h2=>a2 t h2 h1),aQ8 _ _ _ (fun p hp q hq e=>i2 p hp (by rw [e];exact wy q hq))];exact t
theorem pull {x:Nat × Option Eff} {ox:Oper} (hox:ops[x.1]? = some ox):∀ (pre post:List (Nat × Option Eff)) (σ σe:St),
  (∀ y∈pre,∃ oy,ops[y.1]? = some oy∧oy.apart ops ox=true∧aG5 y.2 x.2) →
  af8 P env ops gen reg (pre++x::post) σ σe→af8 P env ops gen reg (x::(pre++post)) σ σe
 | [],post,σ,σe,_,h=>h
 | y::pre,post,σ,σe,hy,h=>by
  obtain ⟨oy,h1,h2,h3⟩:=hy y sp_;cases h with
  | cons _ _ _ σ1 _ hs t =>
   have:=pull hox pre post σ1 σe (fun z hz=>hy z (by simp [hz])) t;exact swap hox h1 h2 h3 (.cons _ _ _ _ _ hs this)
end
def cN8 (ops:List Oper):List Nat :=
 ops.foldl (fun acc o=>acc++[o.after.toList.foldl (fun s e=>if Region.binds .any e then s ||| (1 <<< e.on) ||| acc.getD e.on 0 else s) 0]) []
def bO7 (ops:Array Oper) (tab:List Nat):Bool :=
  (List.range ops.size).all fun j=>(List.range ops.size).all fun i=>!(tab.getD j 0).testBit i ||
    (match ops[j]? with
    | some o=>o.after.any fun e=>Region.binds .any e&&decide (e.on<j)&&(e.on==i||(tab.getD e.on 0).testBit i)
    | none=>false)

def bl1 (ops:Array Oper) (i j:Nat):Bool:=((cN8 ops.toList).getD j 0).testBit i
def au3 (ops:Array Oper):Bool :=
  let tab:=cN8 ops.toList
  bO7 ops tab &&
  ((List.range ops.size).all fun j=>match ops[j]? with
    | some o=>(o.after.all fun e=>!Region.binds .any e||decide (e.on<j)) &&
      ((List.range j).all fun i=>(tab.getD j 0).testBit i||(match ops[i]? with|some p=>p.apart ops o|none=>false))
    | none=>false)


def aw9 (n:Nat) (ops:Array Oper):Bool:=ops.all fun o=>match o.dst with|some t=>decide (t<n)|none=>true
theorem an4 {n:Nat} {ops:Array Oper} (h:aw9 n ops=true) {i:Nat} {o:Oper} (ho:ops[i]? = some o):∀ t,o.dst=some t→t<n:=by
 intro t ht;obtain ⟨hi,e⟩:=Array.getElem?_eq_some_iff.1 ho;unfold aw9 at h;rw [Array.all_eq_true] at h;have:=h i hi;rw [e,ht] at this;simpa using this
section
variable {P:Program} {env:Nat→Option (List V)} {ops:Array Oper} {gen reg n:Nat} (hn:aw9 n ops=true)
include hn
theorem bc0 {x:Nat × Option Eff} {σ σ':St} (h:ct3 P env ops gen reg x σ σ') {g:G} {w:World} {a:Act} (r:K1 env n g w a σ)
  {K:Act→World→Prop} {Q:Exit→Act→World→Prop} (hk:∀ g' a' w',Ext g w g' w'→K1 env n g' w' a' σ'→K a' w'):wpOp P ops Q x.1 K a w:=by
 obtain ⟨o,ho,h⟩:=h;unfold wpOp;rw [ho];simp only;cases hx:x.2 with
 | some e =>
  rw [hx] at h;obtain ⟨hg,hs,rfl⟩:=h;rw [ap0 r hg];simp only [if_true];exact .inl (cV3 hs r (an4 hn ho) hk)
 | none =>
  rw [hx] at h;obtain ⟨hg,rfl⟩:=h;rw [ap0 r hg];simp only [Bool.false_eq_true,if_false];exact hk g _ w (Ext.refl g w) (r.put (Ext.refl g w) (an4 hn ho) r.rel (.tup _ _ rfl sp_))
theorem aO4:∀ (l:List (Nat × Option Eff)) {σ σe:St} (h:af8 P env ops gen reg l σ σe) {g:G} {w:World} {a:Act} (r:K1 env n g w a σ)
  {Q:Exit→Act→World→Prop} (hk:∀ g' a' w',Ext g w g' w'→K1 env n g' w' a' σe→Q .normal a' w'),wpOps P ops Q (l.map (·.1)) a w
 | [],_,_,.nil _,g,w,a,r,Q,hk=>hk g a w (Ext.refl g w) r
 | x::l,_,_,.cons _ _ _ σ1 _ hs t,g,w,a,r,Q,hk=>by
  rw [List.map_cons,wpOps_cons];exact bc0 hn hs r fun g' a' w' hx r'=>aO4 l t r' fun g2 a2 w2 hx2 r2=>hk g2 a2 w2 (hx.trans hx2) r2
end
theorem aG0 {ops:Array Oper} {tab:List Nat} (ht:bO7 ops tab=true) {listed:Array Bool}
  (hc:∀ j o,ops[j]? = some o→listed.getD j false=true→∀ e∈o.after,Region.binds .any e=true→listed.getD e.on false=true) :
  ∀ (j:Nat) (o:Oper),ops[j]? = some o→(∀ e∈o.after,Region.binds .any e=true→listed.getD e.on false=true) →
   ∀ i,i<ops.size→(tab.getD j 0).testBit i=true→listed.getD i false=true:=by
 intro j
 induction j using Nat.strongRecOn with
 | _ j ih =>
  intro o ho hd i hi hb;have hj:j<ops.size:=(Array.getElem?_eq_some_iff.1 ho).1;unfold bO7 at ht;rw [List.all_eq_true] at ht;have h1:=ht j (by simpa using hj);rw [List.all_eq_true] at h1;have h2:=h1 i (by simpa using hi);rw [hb,ho] at h2;simp only [Bool.not_true,Bool.false_or] at h2;rw [Array.any_eq_true] at h2;obtain ⟨q,hq,h3⟩:=h2;simp only [Bool.and_eq_true,Bool.or_eq_true,decide_eq_true_eq,beq_iff_eq] at h3;obtain ⟨⟨h4,h5⟩,h6⟩:=h3;have hm:o.after[q]∈o.after:=Array.getElem_mem hq;have hl:=hd _ hm h4;rcases h6 with h6|h6
  ·rw [← h6];exact hl
  ·have hlt:(o.after[q]).on<ops.size:=by omega
   exact ih _ h5 ops[(o.after[q]).on] (Array.getElem?_eq_getElem hlt) (hc _ _ (Array.getElem?_eq_getElem hlt) hl) i hi h6
theorem aA2 {ops:Array Oper} (h:au3 ops=true) :
  bO7 ops (cN8 ops.toList)=true∧∀ j o,ops[j]? = some o→(∀ e∈o.after,Region.binds .any e=true→e.on<j) ∧
   ∀ i p,i<j→ops[i]? = some p→bl1 ops i j=true∨p.apart ops o=true:=by
 unfold au3 at h;simp only [Bool.and_eq_true] at h;obtain ⟨h1,h2⟩:=h;refine ⟨h1,fun j o ho=>?_⟩;have hj:j<ops.size:=(Array.getElem?_eq_some_iff.1 ho).1;rw [List.all_eq_true] at h2;have h3:=h2 j (by simpa using hj);rw [ho] at h3;simp only [Bool.and_eq_true] at h3;obtain ⟨h4,h5⟩:=h3;refine ⟨fun e he hb=>?_,fun i p hi hp=>?_⟩
 ·rw [Array.all_eq_true_iff_forall_mem] at h4
  have:=h4 e he;rw [hb] at this;simpa using this
 ·rw [List.all_eq_true] at h5
  have:=h5 i (by simpa using hi);rw [hp] at this;simpa [bl1] using this
def af0 (ops:Array Oper) (x y:Nat × Option Eff):Prop:=bl1 ops x.1 y.1=true∨aG5 x.2 y.2
section
variable {P:Program} {env:Nat→Option (List V)} {ops:Array Oper} {gen reg n:Nat} (hn:aw9 n ops=true) (hok:au3 ops=true)
include hn hok
theorem ca3 {Q:Exit→Act→World→Prop} {σe:St} {g0:G} {w0:World} (hk:∀ g' a' w',Ext g0 w0 g' w'→K1 env n g' w' a' σe→Q .normal a' w') :
    ∀ (fuel:Nat) (l:List (Nat × Option Eff)) (listed:Array Bool) (σ:St) (g:G) (w:World) (a:Act),l.length≤fuel→listed.size=ops.size →
      (∀ i,(∃ x∈l,x.1=i)↔(i<ops.size∧listed.getD i true=false))→l.Pairwise (fun x y=>x.1<y.1)→l.Pairwise (af0 ops) →
      (∀ j o,ops[j]? = some o→listed.getD j false=true→∀ e∈o.after,Region.binds .any e=true→listed.getD e.on false=true) →
      af8 P env ops gen reg l σ σe→Ext g0 w0 g w→K1 env n g w a σ→wpAny P .any ops Q fuel listed a w:=by
  obtain ⟨ht,hsp⟩:=aA2 hok;have bK0:∀ (l:List (Nat × Option Eff)) (listed:Array Bool),listed.size=ops.size→(∀ i,(∃ x∈l,x.1=i)↔(i<ops.size∧listed.getD i true=false)) →
      l.Pairwise (fun x y=>x.1<y.1)→l≠[]→Region.ready .any ops listed≠[]:=by
    intro l listed hsz hm hp hne;cases l with
    | nil=>exact absurd rfl hne
    | cons x l =>
      have hx:=(hm x.1).1 ⟨x,sp_,rfl⟩;have:x.1∈Region.ready .any ops listed:=by
        rw [mem_ready];refine ⟨hx.2,ops[x.1]'hx.1,Array.getElem?_eq_getElem hx.1,fun e he hb=>?_⟩;have hlt:=(hsp x.1 _ (Array.getElem?_eq_getElem hx.1)).1 e he hb;cases hq:listed.getD e.on false with
        | true=>rfl
        | false =>
          have aE5:e.on<listed.size:=by omega
          have:listed.getD e.on true=false:=by
            simp [aE5] at hq ⊢;exact hq
          obtain ⟨y,hy,e1⟩:=(hm e.on).2 ⟨om_,this⟩;rcases List.mem_cons.1 hy with rfl|hy
          · omega
          · have:=(List.pairwise_cons.1 hp).1 y hy;omega
      intro e;rw [e] at this;simp at this
  intro fuel
  induction fuel with
  | zero =>
    intro l listed σ g w a hl hsz hm hp hpo hc hch hx r;have:l=[]:=List.eq_nil_of_length_eq_zero om_;subst this;cases hch;refine ⟨?_,hk g a w hx r⟩;apply List.eq_nil_iff_forall_not_mem.2;intro i hi;rw [mem_ready] at hi;obtain ⟨h1,o,ho,_⟩:=hi;obtain ⟨x,hx',_⟩:=(hm i).2 ⟨(Array.getElem?_eq_some_iff.1 ho).1,h1⟩;simp at hx'
  | succ fuel ih =>
    intro l listed σ g w a hl hsz hm hp hpo hc hch hx r;refine ⟨fun hr=>?_,fun i hi=>?_⟩
    · by_cases hne:l=[]
      · subst hne;cases hch;exact hk g a w hx r
      · exact absurd hr (bK0 l listed hsz hm hp hne)
    · have hi':=mem_ready.1 hi
      obtain ⟨h1,o,ho,hd⟩:=hi';have bM1:i<ops.size:=(Array.getElem?_eq_some_iff.1 ho).1;obtain ⟨x,hxl,rfl⟩:=(hm i).2 ⟨bM1,h1⟩;obtain ⟨pre,post,rfl⟩:=List.append_of_mem hxl;have bz5:=pull (P:=P) (env:=env) (gen:=gen) (reg:=reg) ho pre post σ σe (fun y hy=>by
        have hy':=(hm y.1).1 ⟨y,by simp [hy],rfl⟩;have hlt:y.1<x.1:=(List.pairwise_append.1 hp).2.2 y hy x sp_;have hpk:af0 ops y x:=(List.pairwise_append.1 hpo).2.2 y hy x sp_;have aQ7:bl1 ops y.1 x.1≠true:=by
          intro hb;have:=aG0 ht hc x.1 o ho hd y.1 hy'.1 hb;have h2:=hy'.2;have aE5:y.1<listed.size:=by rw [hsz];exact hy'.1
          simp [aE5] at this h2;rw [this] at h2;exact Bool.noConfusion h2
        refine ⟨ops[y.1]'hy'.1,Array.getElem?_eq_getElem hy'.1,?_,?_⟩
        · exact ((hsp x.1 o ho).2 y.1 _ hlt (Array.getElem?_eq_getElem hy'.1)).resolve_left aQ7
        · exact hpk.resolve_left aQ7) hch
      cases bz5 with
      | cons _ _ _ σ1 _ hs t =>
        refine bc0 hn hs r fun g' a' w' hx' r'=>?_;have aJ4:(pre++post).Sublist (pre++x::post):=List.Sublist.append_left (List.sublist_cons_self x post) pre;refine ih (pre++post) (listed.setIfInBounds x.1 true) σ1 g' w' a' (by simp at hl ⊢;omega) (by simpa using hsz) ?_ (hp.sublist aJ4) (hpo.sublist aJ4) ?_ t (hx.trans hx') r'
        · intro i
          constructor
          · rintro ⟨y,hy,rfl⟩
            have hy2:=(hm y.1).1 ⟨y,aJ4.subset hy,rfl⟩;have hne:x.1≠y.1:=by
              rcases List.mem_append.1 hy with hy|hy
              · have:=(List.pairwise_append.1 hp).2.2 y hy x sp_;omega
              · have:=(List.pairwise_cons.1 (List.pairwise_append.1 hp).2.1).1 y hy;omega
            exact ⟨hy2.1,by rw [getD_set_ne true hne];exact hy2.2⟩
          · rintro ⟨hi1,hi2⟩
            have hne:x.1≠i:=by
              intro e;subst e;have:x.1<listed.size:=by rw [hsz];exact bM1
              simp [this] at hi2
            rw [getD_set_ne true hne] at hi2;obtain ⟨y,hy,rfl⟩:=(hm i).2 ⟨hi1,hi2⟩;rcases List.mem_append.1 hy with hy|hy
            · exact ⟨y,by simp [hy],rfl⟩
            · rcases List.mem_cons.1 hy with rfl|hy
              · exact absurd rfl hne
              · exact ⟨y,by simp [hy],rfl⟩
        · intro j o' ho' hj e he hb
          by_cases hjx:x.1=j
          · subst hjx
            rw [ho] at ho';cases ho';exact getD_set_true (hd e he hb)
          · rw [getD_set_ne false hjx] at hj
            exact getD_set_true (hc j o' ho' hj e he hb)

theorem aK0 {l:List (Nat × Option Eff)} {σ σe:St} (hm:P.follows .mixedOrders=true) (hl:l.map (·.1)=List.range ops.size) (hpo:l.Pairwise (af0 ops))
  (hch:af8 P env ops gen reg l σ σe) {g:G} {w:World} {a:Act} (r:K1 env n g w a σ) {Q:Exit→Act→World→Prop}
  (hk:∀ g' a' w',Ext g w g' w'→K1 env n g' w' a' σe→Q .normal a' w') {id:Nat}:(Code.region id ops true).wp P Q a w:=by
 have hx:Ext g w g { w with drawn:=w.drawn+1 } :=
  ⟨rfl,rfl,rfl,Nat.le_refl _,fun _=>Nat.le_refl _,fun _ _ _=>rfl,fun _ _ h=>⟨rfl,h⟩,fun _ h=>⟨h,rfl,.inl rfl⟩,Nat.le_refl _⟩
 have b7:Rel env g { w with drawn:=w.drawn+1 } σ.h:=by
  have q:=r.rel;refine ⟨q.dom,q.top,fun id cs e=>?_,q.inj,fun id n k e=>?_,q.apart,q.T8,q.C4,fun k cs e=>(q.glob k cs e).mono hx⟩
  ·obtain ⟨vs,h1,h2,h3,h4,h5⟩:=q.box id cs e
   exact ⟨vs,h1,h2,fun i c v x y=>(h3 i c v x y).mono hx,h4,h5⟩
  ·obtain ⟨h1,h2,h3,h4⟩:=q.tok id n k e
   exact ⟨h1,h2,h3,h4⟩
 refine wp_region_any hm (ca3 hn hok (g0:=g) (w0:=w) hk ops.size l _ σ g _ a ?_ sp_ ?_ ?_ hpo ?_ hch hx ⟨b7,fun t=>(r.tm t).mono hx,r.size,r.defers⟩)
 ·have:=congrArg List.length hl;simp at this;omega
 ·intro i
  have:(∃ x∈l,x.1=i)↔i∈l.map (·.1):=by simp
  rw [this,hl,List.mem_range];constructor
  ·intro h;exact ⟨h,by simp [h]⟩
  ·exact fun h=>h.1
 ·have:(l.map (·.1)).Pairwise (·<·):=by rw [hl];exact List.pairwise_lt_range
  rw [List.pairwise_map] at this;exact this
 ·intro j o ho hj
  have hjl:j<ops.size:=(Array.getElem?_eq_some_iff.1 ho).1;simp [hjl] at hj
end
end GoAbs
