/-
 The abstract layer: what the abstract layer is, and that its operations are followed.
-/
import Derived.WalkKit
import Derived.Maps.RangeWalk
import Derived.Orders
set_option linter.unusedSimpArgs false
set_option linter.unusedVariables false
set_option linter.unusedSectionVars false
namespace GoAbs
open Go
theorem l_ {p : Prop} (a : p := by assumption) : p := a
theorem a_ {p : Prop} (a : p := by omega) : p := a
theorem b_ {p : Prop} (a : p := by simp) : p := a
set_option linter.defProp false
def B2:=@Bool.false_eq_true
def w7:=@Nat.le_refl
def D9:=@List.mem_cons
def E0:=@List.map_cons
def B7:=@List.map_nil
def Z3:=@Array.getElem?_eq_some_iff
def K0:=@List.not_mem_nil
def W4:=@List.getElem?_eq_getElem
def M9:=@Bool.not_false
def H9:=@not_false_eq_true
def E7:=@Bool.not_true
def A3:=@Bool.and_eq_true
def L1:=@beq_iff_eq
def Q7:=@List.mem_of_getElem?
def F2:=@List.getElem?_eq_some_iff
def G4:=@List.foldr_cons
def J1:=@List.length_cons
def F8:=@List.length_append
def I7:=@List.foldr_nil
def y6:=@List.drop_length
def r6:=@if_false
def L2:=@List.take_length
def p7:=@if_true
def J6:=@Bool.false_and
def G5:=@List.mem_map
def J7:=@Bool.true_and
def S6:=@Option.some.injEq
def R9:=@List.cons_append
def Q3:=@List.nil_append
def Q8:=@List.mem_append
def S0:=@List.length_nil
def Q9:=@run_underlying
def U0:=@List.map_append
def ak6:=@List.take_of_length_le
def D1:=@or_false
def aa7:=@Option.getD_some
def aA1:=@List.getElem?_append_right
def R0:=@Nat.lt_or_ge
def ad1:=@beq_self_eq_true
def ad2:=@List.all_eq_true
def aA2:=@List.getElem?_append_left
def S1:=@Nat.le_trans
def ae6:=@List.length_take
def ah5:=@of_decide_eq_true
def ah6:=@List.getElem?_map
def ae7:=@List.append_nil
def y9:=@if_neg
def aL6:=@Array.getElem?_append_left
def L6:=@and_self
def B8:=@if_pos
def aA3:=@Nat.lt_of_lt_of_le
def ao2:=@List.length_map
def aG0:=@Array.replicate_zero
def aG1:=@Array.replicate_succ
def aR1:=@List.length_eq_zero_iff
def aW1:=@Array.getElem?_eq_getElem
def aA4:=@Int.toNat_natCast
def aG2:=@List.map_congr_left
def aG3:=@List.append_toArray
def bd8:=@Go.RowKit.Below.heap_alloc
def aC4:=@List.append_assoc
def aG4:=@List.size_toArray
def aG5:=@List.push_toArray
def aW2:=@World.cell?_alloc_new
def aA5:=@Prod.mk.injEq
def aL7:=@List.cons.injEq
def aG6:=@Bool.and_false
def E8:=@ne_eq
def bd9:=@bne_eq_false_iff_eq
def aW3:=@decide_eq_true_eq
def aG7:=@callsIn_of_wp
def be0:=@List.zip_nil_right
def be1:=@List.zip_cons_cons
def be2:=@List.getElem?_take
def bo4:=@Nat.mul_le_mul_right
def bo5:=@Bool.or_eq_false_iff
def bN0:=@List.getD_eq_getElem?_getD
def be3:=@List.zip_nil_left
def ag3:=@and_true
def aL8:=@Nat.add_assoc
def bN1:=@List.drop_eq_getElem_cons
def ci9:=@List.eq_nil_of_length_eq_zero
def bN2:=@List.getElem?_cons_succ
def aR2:=@Bool.or_false
def aL9:=@results_none
def aM0:=@Bool.true_or
def bo6:=@List.flatten_cons
def bC6:=@List.getElem?_range
def bo7:=@forall_eq_or_imp
def bo8:=@List.getElem_mem
def bC7:=@List.pairwise_cons
def aR3:=@List.map_map
def aW4:=@Bool.false_or
def bN3:=@List.pairwise_append
def bo9:=@Option.map_some
def bC8:=@List.take_add_one
def bp0:=@Bool.or_eq_true
def aW5:=@bodyPost_ret
def aW6:=@Nat.zero_add
def aW7:=@Bool.or_true
def ag2:=@true_and
def az9:=@Nat.zero_le
def bB7:=@List.getElem?_cons_zero
def an4:=@forall_eq
def aQ6:=@List.drop_zero
def aZ0:=@Nat.min_eq_left
def bB8:=@List.getElem?_toArray
def bB9:=@Classical.choose_spec
def bU9:=@Array.getElem?_append_right
def aQ7:=@List.all_cons
def an5:=@eq_false
def bj4:=@List.mem_flatten
def aK7:=@Int.le_refl
def aQ8:=@Nat.add_zero
def aQ9:=@List.all_nil
def aA0:=@wpIn_mono
def bV0:=@decide_eq_false_iff_not
def bC0:=@Nat.eq_zero_or_pos
def cw3:=@List.set_eq_take_append_cons_drop
def aZ1:=@List.any_cons
def bV1:=@List.length_eq_one_iff
def aR0:=@Nat.add_mul
def bC1:=@List.length_range
def bC2:=@World.size_alloc
def bC3:=@Nat.le_of_not_lt
def bj5:=@Bool.and_true
def bV2:=@List.drop_succ_cons
def bV3:=@Option.isSome_some
def bV4:=@Option.isSome_none
def bj6:=@List.any_nil
def bj7:=@Bool.or_self
def bC4:=@List.mem_range
def bV5:=@bne_self_eq_false
def cw4:=@Bool.eq_false_or_eq_true
def cw5:=@Classical.axiomOfChoice
def bC5:=@Nat.succ_mul
def bV6:=@Nat.le_max_left
def cw6:=@List.take_append_drop
def cw7:=@List.getElem?_eq_none
def bV7:=@List.foldl_cons
def cw8:=@List.mem_of_mem_take
def cw9:=@List.mem_append_left
def bV8:=@decide_eq_true
def bV9:=@Nat.mul_le_mul
def cx0:=@List.take_succ_cons
def cx1:=@List.length_pos_iff
structure Id where
 gen:Nat
 reg:Nat
 op:Nat
 deriving DecidableEq
inductive Cap where
 | any
 | full
 | own (id:Id)
inductive V where
 | undef
 | bool (b:Bool)
 | int (k:IntKind) (n:Int)
 | str (s:ByteArray)
 | agg (cs:List V)
 | tup (vs:List V)
 | sl (c:Cap) (es:List (List V))
 | ptr (id:Id) (off:Nat)
 | slb (id:Id) (n:Nat)
 | slr (id:Id) (n cap:Nat)
 | mpr (id:Id)
 | el (cs:List V) (off:Nat)
 | nd (cs:List V) (ok:Bool) (off:Nat)
 | U3
 | fn (f:Fn) (first captured:List V)
 | V7
 | iface (t:TypeId) (v:V)
 | L3
inductive Obj where
 | box (cs:List V)
 | tok (n k:Nat)
 | map (l:List Int)
abbrev H:=Id->Option Obj
structure Buf where
 a:Option Addr
 n:Nat
 cap:Nat
 k:Nat
structure G where
 lim:Nat->Nat
 wr:Nat->Bool
 loc:Id->Nat
 buf:Id->Buf
 dom:Id->Bool
 top:Nat
 nd:Nat->Option Bool
def bW4 (g:G) (a:Option Addr) (len cap k:Nat):Cap->Prop
 | .any=>True
 | .full=>cap=len
 | .own id=>g.dom id=true/\len<=(g.buf id).n/\(len=(g.buf id).n->g.buf id=⟨a,len,cap,k⟩)
def dG3 (w:World) (b n:Nat) (ok:Bool):Prop:=n=7/\∃ vs ty f,w.heap[b]? = some (.cells vs ty (0,0))/\vs[7]? = some (.bool f)/\(f=true->ok=true)
def dG4 (w w':World) (b:Nat):Prop:=∃ vs ty,w.heap[b]? = some (.cells vs ty (0,0))/\7<vs.size/\w'.heap[b]? = some (.cells (vs.setIfInBounds 7 (.bool true)) ty (0,0))
def al2 (o:Option Go.Obj) (l:List Int):Prop :=
 ∃ es clock P k e,o=some (.map es clock)/\Program.underlying P k=some (.int .i64)/\Program.underlying P e=some .bool/\Go.WideElems.Fit P k (plainElem (H:=Unit) P e) es clock /\
  (∀ x:Int,Maps.has (.map ((es.toList.map (Go.WideElems.rg P k (plainElem (H:=Unit) P e))).foldr DataW.insert [])) (.int .i64 x)=true↔x∈l)/\l.Pairwise (·<·)
def opn:Go.Obj->Bool
 | .cells _ _ _=>true
 | .map _ _=>true
 | _=>false
inductive RV (g:G) (w:World):Value->V->Prop where
  | undef (c:Value):RV g w c .undef
  | bool (b:Bool):RV g w (.bool b) (.bool b)
  | int (k:IntKind) (n:Int):RV g w (.int k n) (.int k n)
  | str (s:ByteArray):RV g w (.string s) (.str s)
  | agg (vs:Array Value) (cs:List V) (h:vs.size=cs.length)
      (r:∀ (i:Nat) (c:Value) (v:V),vs[i]? = some c->cs[i]? = some v->RV g w c v):RV g w (.agg vs) (.agg cs)
  | tup (vs:Array Value) (cs:List V) (h:vs.size=cs.length)
      (r:∀ (i:Nat) (c:Value) (v:V),vs[i]? = some c->cs[i]? = some v->RV g w c v):RV g w (.tuple vs) (.tup cs)
  | sl (a:Option Addr) (cap:Nat) (c:Cap) (es:List (List V)) (k:Nat) (cell:Nat->Value)
      (hk:∀ e∈es,e.length=k) (aa3:es.length<=cap)
      (F5:es≠[]->∃ b off,a=some ⟨b,off,none⟩/\off+es.length * k<=g.lim b /\
        ∀ i,i<es.length * k->w.cell? ⟨b,off+i,none⟩=some (cell i))
      (hr:∀ (i:Nat) (v:V),es.flatten[i]? = some v->RV g w (cell i) v)
      (hc:bW4 g a es.length cap k c):RV g w (.slice a es.length cap) (.sl c es)
  | ptr (id:Id) (off:Nat) (h:g.dom id=true):RV g w (.pointer (some ⟨g.loc id,off,none⟩)) (.ptr id off)
  | slb (id:Id) (n cap:Nat) (h:g.dom id=true) (hc:n<=cap):RV g w (.slice (some ⟨g.loc id,0,none⟩) n cap) (.slb id n)
  | slr (id:Id) (n cap:Nat) (h:g.dom id=true) (hc:n<=cap):RV g w (.slice (some ⟨g.loc id,0,none⟩) n cap) (.slr id n cap)
  | mpr (id:Id) (h:g.dom id=true):RV g w (.map (some (g.loc id))) (.mpr id)
  | el (b off:Nat) (cs:List V) (o:Nat) (cell:Nat->Value) (hl:off+cs.length<=g.lim b)
      (F5:∀ i,i<cs.length->w.cell? ⟨b,off+i,none⟩=some (cell i))
      (hr:∀ (i:Nat) (v:V),cs[i]? = some v->RV g w (cell i) v):RV g w (.pointer (some ⟨b,off+o,none⟩)) (.el cs o)
  | nd (b:Nat) (cs:List V) (ok:Bool) (o:Nat) (cell:Nat->Value) (hok:g.nd b=some ok) (hl:cs.length<=g.lim b)
      (F5:∀ i,i<cs.length->w.cell? ⟨b,i,none⟩=some (cell i))
      (hr:∀ (i:Nat) (v:V),cs[i]? = some v->RV g w (cell i) v) (hf:dG3 w b cs.length ok):RV g w (.pointer (some ⟨b,o,none⟩)) (.nd cs ok o)
  | U3:RV g w (.pointer none) .U3
  | fn (f:Fn) (fs cs:Array Value) (fs' cs':List V) (h1:fs.size=fs'.length) (h2:cs.size=cs'.length)
      (r1:∀ (i:Nat) (c:Value) (v:V),fs[i]? = some c->fs'[i]? = some v->RV g w c v)
      (r2:∀ (i:Nat) (c:Value) (v:V),cs[i]? = some c->cs'[i]? = some v->RV g w c v):RV g w (.func f fs cs) (.fn f fs' cs')
  | V7:RV g w .nilFunc .V7
  | iface (t:TypeId) (c:Value) (v:V) (r:RV g w c v):RV g w (.iface t c) (.iface t v)
  | L3:RV g w .nilIface .L3

structure Ext (g:G) (w:World) (g':G) (w':World):Prop where
 os:w'.os=w.os
 tape:w'.tape=w.tape
 output:w'.output=w.output
 size:w.heap.size<=w'.heap.size
 lim:∀ b,g.lim b<=g'.lim b
 cells:∀ b o,o<g.lim b->w'.cell? ⟨b,o,none⟩=w.cell? ⟨b,o,none⟩
 wr:(∀ b,b<w.heap.size->g.wr b=false->w'.heap[b]? = w.heap[b]? /\ g'.wr b=false) /\
  ∀ b ok vs ty,w.heap[b]? = some (.cells vs ty (0,0))->g.nd b=some ok->(w'.heap[b]? = w.heap[b]? \/ (ok=true/\dG4 w w' b))/\g'.nd b=some ok
 dom:∀ id,g.dom id=true->g'.dom id=true/\g'.loc id=g.loc id/\(g'.buf id=g.buf id\/(g.buf id).n<(g'.buf id).n)
 top:g.top<=g'.top
theorem Ext.refl (g:G) (w:World):Ext g w g w :=
 ⟨rfl,rfl,rfl,w7 _,fun _=>w7 _,fun _ _ _=>rfl,⟨fun _ _ h=>⟨rfl,h⟩,fun _ _ _ _ _ h=>⟨.inl rfl,h⟩⟩,fun _ h=>⟨h,rfl,.inl rfl⟩,w7 _⟩
theorem Ext.trans {g1 g2 g3:G} {w1 w2 w3:World} (a:Ext g1 w1 g2 w2) (b:Ext g2 w2 g3 w3):Ext g1 w1 g3 w3 where
  os:=b.os.trans a.os
  tape:=b.tape.trans a.tape
  output:=b.output.trans a.output
  size:=S1 a.size b.size
  lim:=fun x=>S1 (a.lim x) (b.lim x)
  cells:=fun x o h=>(b.cells x o (aA3 h (a.lim x))).trans (a.cells x o h)
  wr := ⟨fun x hx h=>by
    obtain ⟨h1,h2⟩:=a.wr.1 x hx h;obtain ⟨h3,h4⟩:=b.wr.1 x (aA3 hx a.size) h2
    grind,fun x ok vs0 ty0 hx h=>by
    obtain ⟨h1,h2⟩:=a.wr.2 x ok vs0 ty0 hx h;have hx2:∃ vs1 ty1,w2.heap[x]? = some (.cells vs1 ty1 (0,0)):=by
      rcases h1 with h1|⟨_,vs,ty,_,_,u3⟩
      · grind
      · exact ⟨_,_,u3⟩
    obtain ⟨vs1,ty1,hx2⟩:=hx2;obtain ⟨h3,h4⟩:=b.wr.2 x ok vs1 ty1 hx2 h2;refine ⟨?_,h4⟩;rcases h1 with h1|⟨o1,vs,ty,u1,u2,u3⟩
    · rcases h3 with h3|⟨o3,vs,ty,v1,v2,v3⟩
      · grind
      · exact .inr ⟨o3,vs,ty,by rw [<- h1];exact v1,v2,v3⟩
    · rcases h3 with h3|⟨o3,vs',ty',v1,v2,v3⟩
      · exact .inr ⟨o1,vs,ty,u1,u2,by rw [h3];exact u3⟩
      · rw [u3] at v1
        obtain ⟨rfl,rfl,_⟩:=v1;exact .inr ⟨o1,vs,ty,u1,u2,by rw [v3];simp⟩⟩
  dom:=fun id h=>by
    obtain ⟨h1,h2,h3⟩:=a.dom id h;obtain ⟨h4,h5,h6⟩:=b.dom id h1
    grind
  top:=S1 a.top b.top

variable {g g':G} {w w':World} {a:Option Addr} {cap k:Nat}
theorem bW4.mono (x:Ext g w g' w') {len:Nat} {c:Cap} (h:bW4 g a len cap k c) :
  bW4 g' a len cap k c:=by
 cases c with
 | any=>trivial
 | full=>exact h
 | own id =>
  obtain ⟨h1,h2,h3⟩:=h;obtain ⟨h4,_,h5⟩:=x.dom id h1;refine ⟨h4,?_,fun e=>?_⟩
  all_goals grind
variable {c:Value} {v:V}
theorem RV.mono (x:Ext g w g' w') (h:RV g w c v):RV g' w' c v:=by
 induction h with
 | undef c=>exact .undef c
 | bool b=>exact .bool b
 | int k n=>exact .int k n
 | str s=>exact .str s
 | agg vs cs h _ ih=>exact .agg vs cs h ih
 | tup vs cs h _ ih=>exact .tup vs cs h ih
 | sl a cap c es k cell hk aa3 F5 _ hc ih =>
  refine .sl a cap c es k cell hk aa3 (fun hne=>?_) ih (hc.mono x);obtain ⟨b,off,rfl,hl,ac8⟩:=F5 hne;exact ⟨b,off,rfl,S1 hl (x.lim b),fun i hi=>(x.cells b _ a_).trans (ac8 i hi)⟩
 | ptr id off h =>
  obtain ⟨h1,h2,_⟩:=x.dom id h
  grind [ptr]
 | slb id n cap h hc =>
  obtain ⟨h1,h2,_⟩:=x.dom id h
  grind [slb]
 | slr id n cap h hc =>
  obtain ⟨h1,h2,_⟩:=x.dom id h
  grind [slr]
 | mpr id h =>
  obtain ⟨h1,h2,_⟩:=x.dom id h
  grind [mpr]
 | el b off cs o cell hl F5 _ ih =>
  exact .el b off cs o cell (S1 hl (x.lim b)) (fun i hi=>(x.cells b _ a_).trans (F5 i hi)) ih
 | nd b cs ok o cell hok hl F5 _ hf ih =>
  obtain ⟨e7,vs,ty,f,u1,u3,u4⟩:=hf;obtain ⟨a1,a2⟩:=x.wr.2 b ok vs ty u1 hok;refine .nd b cs ok o cell a2 (S1 hl (x.lim b)) (fun i hi=>(x.cells b _ a_).trans (F5 i hi)) ih ?_;rcases a1 with a1|⟨o1,vs',ty',v1,v2,v3⟩
  ·exact ⟨e7,vs,ty,f,a1.trans u1,u3,u4⟩
  ·exact ⟨e7,_,_,true,v3,by simp [v2],fun _=>o1⟩
 | U3=>exact .U3
 | fn f fs cs fs' cs' h1 h2 _ _ ih1 ih2=>grind [fn]
 | V7=>exact .V7
 | iface t c v _ ih=>exact .iface t c v ih
 | L3=>exact .L3
def bN6 (w:World) (b:Nat) (vs:Array Value):Prop:=∃ ty,w.heap[b]? = some (.cells vs ty (0,0))
def cF9 (g:G) (b:Nat):Prop:=g.wr b=true/\g.nd b=none
def cS8 (g:G) (w:World) (id:Id):Prop :=
 ∃ b off vs,(g.buf id).a=some ⟨b,off,none⟩/\bN6 w b vs/\off+(g.buf id).cap * (g.buf id).k<=vs.size /\
  g.lim b=off+(g.buf id).n * (g.buf id).k/\cF9 g b
structure Rel (env:Nat->Option (List V)) (g:G) (w:World) (h:H):Prop where
 dom:∀ id,g.dom id=true↔h id≠none
 top:∀ id,h id≠none->id.gen<g.top
 box:∀ id cs,h id=some (.box cs)->∃ vs,bN6 w (g.loc id) vs/\cs.length<=vs.size /\
  (∀ (i:Nat) (c:Value) (v:V),vs[i]? = some c->cs[i]? = some v->RV g w c v)/\g.lim (g.loc id)=0/\cF9 g (g.loc id)
 inj:∀ id id' cs cs',h id=some (.box cs)->h id'=some (.box cs')->g.loc id=g.loc id'->id=id'
 tok:∀ id n k,h id=some (.tok n k)->(g.buf id).n=n/\n<=(g.buf id).cap/\(n<(g.buf id).cap->cS8 g w id)/\(g.buf id).k=k
 apart:∀ id id' n k cs,h id=some (.tok n k)->n<(g.buf id).cap->h id'=some (.box cs)->∀ a,(g.buf id).a=some a->a.block≠g.loc id'
 U9:∀ id id' n n' k k',h id=some (.tok n k)->n<(g.buf id).cap->h id'=some (.tok n' k')->n'<(g.buf id').cap ->
  ∀ a a',(g.buf id).a=some a->(g.buf id').a=some a'->a.block=a'.block->id=id'
 map:∀ id l,h id=some (.map l)->al2 (w.heap[g.loc id]?) l/\g.wr (g.loc id)=true/\∀ id' l',h id'=some (.map l')->g.loc id=g.loc id'->id=id'
 B3:∀ b,w.heap.size<=b->g.lim b=0
 glob:∀ k cs,env k=some cs->RV g w (.pointer (some ⟨k,0,none⟩)) (.el cs 0)
variable {b:Nat} {l:List Int} {vs:Array Value}
theorem al2.cells (h:al2 (w.heap[b]?) l) {ty:TypeId} {x:Nat × Nat} {c:Nat} (hc:w.heap[c]? = some (.cells vs ty x)):b≠c:=by
 rintro rfl;obtain ⟨es,clock,P,k,e,h1,_⟩:=h;rw [h1] at hc;cases hc
theorem al2.lt (h:al2 (w.heap[b]?) l):b<w.heap.size:=by
 obtain ⟨es,clock,P,k,e,h1,_⟩:=h
 grind
variable {h h':H}
theorem Rel.bp3 {env:Nat->Option (List V)} (r:Rel env g w h)
  (hh:∀ id l,h' id=some (.map l)->h id=some (.map l)/\(al2 (w.heap[g.loc id]?) l->g'.loc id=g.loc id/\w'.heap[g.loc id]? = w.heap[g.loc id]? /\ (g.wr (g.loc id)=true->g'.wr (g.loc id)=true))) :
  ∀ id l,h' id=some (.map l)->al2 (w'.heap[g'.loc id]?) l/\g'.wr (g'.loc id)=true/\∀ id' l',h' id'=some (.map l')->g'.loc id=g'.loc id'->id=id':=by
 intro id l e;obtain ⟨h1,h2⟩:=hh id l e;obtain ⟨m1,m2,m3⟩:=r.map id l h1;obtain ⟨a1,a2,a3⟩:=h2 m1;rw [a1,a2];refine ⟨m1,a3 m2,fun id' l' e' q=>?_⟩;obtain ⟨h1',h2'⟩:=hh id' l' e';rw [(h2' (r.map id' l' h1').1).1] at q;exact m3 id' l' h1' q
end GoAbs
namespace GoAbs
open Go Go.WideElems
theorem bc5:∀ (a b:List Int),a.Nodup->(∀ x∈a,x∈b)->a.length<=b.length
  | [],_,_,_=>az9 _
  | x :: a,b,hn,hs=>by
    have h:=bc5 a (b.erase x) (List.nodup_cons.1 hn).2 (fun y hy=>by
      have hne:y≠x:=by rintro rfl;exact (List.nodup_cons.1 hn).1 hy
      exact (List.mem_erase_of_ne hne).2 (hs y (by simp [hy])))
    grind

variable {P:Program} {k e:TypeId}
theorem dy2 {P':Program} {k' e':TypeId} (hk:P.underlying k=some (.int .i64)) (he:P.underlying e=some .bool) (hk':P'.underlying k'=some (.int .i64)) (he':P'.underlying e'=some .bool) (x:MapEntry) :
  rd P k (plainElem (H:=Unit) P e) x=rd P' k' (plainElem (H:=Unit) P' e') x:=by
 have h1:keyOf P k x.key=keyOf P' k' x.key:=by cases x.key<;>simp [keyOf,mapKey,hk,hk']
 have h2:plainElem (H:=Unit) P e x.val=plainElem (H:=Unit) P' e' x.val:=by simp [plainElem,he,he']
 simp only [rd,h1,h2]
variable {w:World} {b:Nat} {l:List Int}
theorem al2.owns (hk:P.underlying k=some (.int .i64)) (he:P.underlying e=some .bool) (h:al2 (w.heap[b]?) l) :
  ∃ D,w.ownsMap P k (plainElem (H:=Unit) P e) b l.length D/\(∀ x:Int,Maps.has D (.int .i64 x)=true↔x∈l):=by
 obtain ⟨es,clock,P',k',e',h1,h2,h3,F,h5,h6⟩:=h;have hrd:=fun x=>dy2 h2 h3 hk he x;have hrg:rg P' k' (plainElem (H:=Unit) P' e')=rg P k (plainElem (H:=Unit) P e):=by funext x;simp only [rg,hrd]
 have F':Fit P k (plainElem (H:=Unit) P e) es clock:=⟨F.size,F.stamped,fun x hx=>by rw [<- hrd];exact F.reads x hx⟩;rw [hrg] at h5;have K:Maps.Keyed P k:=Maps.int_keyed hk;have o:w.ownsMap P k (plainElem (H:=Unit) P e) b es.size (.map ((es.toList.map (rg P k (plainElem (H:=Unit) P e))).foldr DataW.insert [])):=⟨es,clock,h1,F',w7 _,rfl⟩;refine ⟨_,o.mono ?_,h5⟩;obtain ⟨L,e1,e2,e3⟩:=o.entries K;cases e1;have hlen:es.size=((es.toList.map (rg P k (plainElem (H:=Unit) P e))).foldr DataW.insert []).length:=by rw [length_sorted];simp
 rw [hlen];have hint:∀ p∈((es.toList.map (rg P k (plainElem (H:=Unit) P e))).foldr DataW.insert []),∃ x:Int,p.1=.int .i64 x:=by
  intro p hp;obtain ⟨x,hx,rfl⟩:=G5.1 (mem_sorted.1 hp);obtain ⟨y,hy⟩:=F'.reads x hx;rw [rg_of hy];obtain ⟨n,_,a2,_⟩:=Maps.keyOf_int_inv hk (rd_key hy);exact ⟨n,a2⟩
 have:=bc5 (((es.toList.map (rg P k (plainElem (H:=Unit) P e))).foldr DataW.insert []).map fun p=>match p.1 with | .int _ x=>x|_=>0) l ?_ ?_
 ·simpa using this
 ·refine List.pairwise_map.2 (e2.imp_of_mem fun {p q} hp hq hne e=>hne ?_)
  grind
 ·intro x hx
  obtain ⟨p,hp,rfl⟩:=G5.1 hx;obtain ⟨a,ha⟩:=hint p hp;rw [ha];refine (h5 a).1 ?_;exact List.any_eq_true.2 ⟨p,hp,by grind [Lit.sameKey]⟩
theorem al2.cD1 (hk:P.underlying k=some (.int .i64)) (he:P.underlying e=some .bool) {n:Nat} {D:DataW Unit}
  (o:w.ownsMap P k (plainElem (H:=Unit) P e) b n D) (hD:∀ x:Int,Maps.has D (.int .i64 x)=true↔x∈l) (hl:l.Pairwise (·<·)):al2 (w.heap[b]?) l:=by
 obtain ⟨es,clock,h1,F,_,rfl⟩:=o;exact ⟨es,clock,P,k,e,h1,hk,he,F,hD,hl⟩
theorem al2.sorted {o:Option Go.Obj} (h:al2 o l):l.Pairwise (·<·):=by
 obtain ⟨_,_,_,_,_,_,_,_,_,_,h6⟩:=h;exact h6
def V2 (n:Int):List Int->List Int
 | []=>[n]
 | x::xs=>if n<x then n::x::xs else if n=x then x::xs else x::V2 n xs
theorem az4 {n x:Int}:∀ {l:List Int},x∈V2 n l↔x=n\/x∈l
 | []=>by simp [V2]
 | y::l=>by
  rw [V2];split
  ·simp
  ·split
   ·grind
   ·simp only [D9,az4 (l:=l)]
    grind
theorem aq7 {n:Int}:∀ {l:List Int},l.Pairwise (·<·)->(V2 n l).Pairwise (·<·)
 | [],_=>by simp [V2]
 | y::l,h=>by
  rw [V2];obtain ⟨h1,h2⟩:=bC7.1 h;split
  ·grind [List.pairwise_cons]
  ·split
   ·exact h
   ·refine bC7.2 ⟨fun z hz=>?_,aq7 h2⟩
    grind [az4]
variable {t:TypeId}
theorem al2.update (ht:P.underlying t=some (.map k e)) (hk:P.underlying k=some (.int .i64)) (he:P.underlying e=some .bool)
  (h:al2 (w.heap[b]?) l) {n:Int} (hn : -4611686018427387904<=n/\n<=4611686018427387903) (hl:l.length<140737488355328) (v:Bool) :
  ∃ w',(Instr.mapUpdate t (.map (some b)) (.int .i64 n) (.bool v)).run P w=.ok () w'/\al2 (w'.heap[b]?) (V2 n l)/\w.grownBy w' (some b):=by
 have K:Maps.Keyed P k:=Maps.int_keyed hk;obtain ⟨D,o,hD⟩:=h.owns hk he;have dW4:keyOf P k (.int .i64 n)=some (.int .i64 n):=by
  have:(Lit.int .i64 n).wf=true:=by simp [Lit.wf,IntKind.min,IntKind.max,IntKind.signed,IntKind.bits]<;>omega
  simp [keyOf,mapKey,hk,this]
 obtain ⟨w',h1,h2,h3⟩:=o.update K ht (by unfold maxLen;omega) dW4 (plainElem_bool (H:=Unit) he v);refine ⟨w',h1,al2.cD1 hk he h2 (fun x=>?_) (aq7 h.sorted),h3⟩;rw [az4];by_cases hx:x=n
 ·subst hx
  simp only [true_or,iff_true];exact Maps.has_put_same o.isMap (K.key dW4) _
 grind [Maps.has_put_other]
structure TyI where
 size:Nat
 bytes:Nat
 agg:Bool
 zero:List V
 fields:List (Nat × Nat × Bool)
 fok:Bool
 kind:Nat
 bs9:Nat
 n7:Nat
 ah7:Nat
 db0:Bool
 T7:List V
 ik:Option IntKind
 frz:Bool
def bj1:Value->V
 | .bool b=>.bool b
 | .int k n=>.int k n
 | .string s=>.str s
 | .pointer none=>.U3
 | .slice a len cap=>if a=none/\len=0/\cap=0 then .sl .full [] else .undef
 | .nilFunc=>.V7
 | .nilIface=>.L3
 | .func f first captured=>if first.size=0/\captured.size=0 then .fn f [] [] else .undef
 | _=>.undef
def toV:Value->V
 | .agg cs=>.agg (cs.toList.map bj1)
 | v=>bj1 v
def aK4 (P:Program) (t:TypeId):Nat :=
 match P.info? t,P.underlying t with
 | some i,some _=>i.size
 | _,_=>0
def bytesOf (P:Program) (t:TypeId):Nat:=((P.info? t).map (·.bytes)).getD 0
def aD7 (P:Program) (t:TypeId):Bool :=
 match P.underlying t with
 | some (.struct _)|some (.array _ _)=>true
 | _=>false
def tyi (P : Program) (t:TypeId):Option TyI :=
  match P.info? t,P.underlying t with
  | some i,some d =>
    match i.zero with
    | some z =>
      some { size:=i.size,bytes:=i.bytes,agg:=aD7 P t,zero:=z.cells.toList.map bj1,
             fields:=(match d with | .struct fs=>fs.toList.map fun f=>(f.offset,aK4 P f.type,aD7 P f.type)|_=>[]),
             fok:=(match d with | .struct fs=>fs.toList.all fun f=>aK4 P f.type != 0|_=>false),
             kind:=(match d with | .bool=>1 | .int _=>2 | .struct _=>3 | .slice _=>4 | .array _ _=>5 | .string=>6 | .pointer _=>7 | .interface _=>8|_=>0),
             bs9:=(match d with | .array n _=>n|_=>0),
             n7:=(match d with | .slice e | .array _ e=>aK4 P e|_=>0),
             ah7:=(match d with | .slice e | .array _ e=>bytesOf P e|_=>0),
             db0:=(match d with | .slice e | .array _ e=>aD7 P e|_=>false),
             T7:=(match d with | .slice e | .array _ e=>(match P.info? e with|some j=>(match j.zero with|some z=>z.cells.toList.map bj1|none=>[])|none=>[])|_=>[]),
             ik:=(match d with | .int k=>some k|_=>none),
             frz:=(match d with | .struct _=>z.cells.any (fun c=>match c with | .pointer none=>true | .nilIface=>true|_=>false)|_=>false) }
    | none=>none
  | _,_=>none

def cellsOf:V->Option (List V)
 | .undef=>none
 | .agg cs=>some cs
 | .tup _=>none
 | v=>some [v]
def af8 (agg:Bool) (size:Nat) (cs:List V) (off:Nat):Option V :=
 if size=0 then none else if agg then (if off+size<=cs.length then some (.agg ((cs.drop off).take size)) else none) else cs[off]?
def G8 (cs:List V) (off:Nat):List V->List V
 | []=>cs
 | v::vs=>G8 (cs.set off v) (off+1) vs
def aO6 (fields:List (Nat × Nat)) (cs:List V):List (Nat × V)->Option (List V)
 | []=>some cs
 | (i,v)::rest =>
  match fields[i]?,cellsOf v with
  | some (off,size),some xs=>if xs.length=size/\off+size<=cs.length then aO6 fields (G8 cs off xs) rest else none
  | _,_=>none
def bt5 (k:IntKind) (a b:Int):Int:=k.wrap (BitVec.ofInt k.bits a &&& BitVec.ofInt k.bits b).toNat
def do6 (k:IntKind) (a b:Int):Int:=k.wrap (BitVec.ofInt k.bits a ||| BitVec.ofInt k.bits b).toNat
def cq6 (op:BinOp) (k:IntKind) (a b:Int):Option V :=
 match op with
 | .add=>some (.int k (k.wrap (a+b)))
 | .sub=>some (.int k (k.wrap (a - b)))
 | .mul=>some (.int k (k.wrap (a * b)))
 | .quo=>if b=0 then none else some (.int k (k.wrap (a.tdiv b)))
 | .rem=>if b=0 then none else some (.int k (a.tmod b))
 | .eql=>some (.bool (a==b))
 | .neq=>some (.bool (a != b))
 | .lss=>some (.bool (a<b))
 | .leq=>some (.bool (a<=b))
 | .gtr=>some (.bool (a>b))
 | .geq=>some (.bool (a>=b))
 | .and=>some (.int k (bt5 k a b))
 | .or=>some (.int k (do6 k a b))
 | _=>none
def bm7 (T:Option TyI) (op:BinOp) (same:Bool):Option V :=
 match T with
 | some i=>if i.kind=7 then (match op with | .eql=>some (.bool same) | .neq=>some (.bool !same)|_=>none) else none
 | none=>none
def do2 (T:Option TyI) (op:BinOp) (x y:V):Option V :=
 match x,y with
 | .int k a,.int k' b=>if k=k' then cq6 op k a b else none
 | .bool a,.bool b =>
  match T with
  | some i=>if i.kind=1 then (match op with | .eql=>some (.bool (a==b)) | .neq=>some (.bool (a != b))|_=>none) else none
  | none=>none
 | .str a,.str b=>(match op with | .eql=>some (.bool (a.toList==b.toList)) | .neq=>some (.bool (!(a.toList==b.toList)))|_=>none)
 | .U3,.U3=>bm7 T op true
 | .el _ _,.U3=>bm7 T op false
 | .nd _ _ _,.U3=>bm7 T op false
 | .ptr _ _,.U3=>bm7 T op false
 | _,_=>none
def aC7 (x:V) (n:Nat):Option V :=
 match x with
 | .ptr id off=>some (.ptr id (off+n))
 | .el cs off=>some (.el cs (off+n))
 | .nd cs ok off=>some (.nd cs ok (off+n))
 | _=>none
def by1:V->Option Nat
 | .int _ n=>if 0<=n then some n.toNat else none
 | _=>none
def aB0 (d:Nat):Option V->Option Nat
 | none=>some d
 | some v=>by1 v
def bU1 (c:Cap) (es:List (List V)) (lo hi mx:Option V):Option V :=
 match mx with
 | some m =>
  match aB0 0 lo,hi.bind by1,by1 m with
  | some l,some h,some m=>if l<=h/\h<=m/\m=es.length/\h=m then some (.sl .full ((es.take h).drop l)) else none
  | _,_,_=>none
 | none =>
  match aB0 0 lo,aB0 es.length hi with
  | some l,some h=>if l<=h/\h<=es.length then some (.sl (if l=0/\h=es.length then c else .any) ((es.take h).drop l)) else none
  | _,_=>none
def ce1:V->Option Nat
 | .sl _ es=>some es.length
 | .slb _ n=>some n
 | .slr _ n _=>some n
 | _=>none
def H6 (P:Program) (ρ:Operand->V):Op->Option V
  | .move x | .assign x=>some (ρ x)
  | .pick c a b=>match ρ c with | .bool t=>some (if t then ρ a else ρ b)|_=>none
  | .build t parts =>
    match tyi P t with
    | some i => if i.kind=3/\i.fok=true then (aO6 (i.fields.map fun f=>(f.1,f.2.1)) i.zero (parts.toList.map fun p=>(p.1,ρ p.2))).map .agg
                else if i.kind=5/\i.n7≠0 then (aO6 ((List.range i.bs9).map fun j=>(j * i.n7,i.n7)) i.zero (parts.toList.map fun p=>(p.1,ρ p.2))).map .agg else none
    | none=>none
  | .nilCheck x=>match ρ x with | .ptr id off=>some (.ptr id off) | .el cs off=>some (.el cs off) | .nd cs ok off=>some (.nd cs ok off)|_=>none
  | .binOp op t x y _=>do2 (tyi P t) op (ρ x) (ρ y)
  | .unOp op _ x =>
    match op,ρ x with
    | .not,.bool b=>some (.bool !b)
    | .neg,.int k n=>some (.int k (k.wrap (0 - n)))
    | _,_=>none
  | .convert s d x =>
    match tyi P s,tyi P d,ρ x with
    | some _,some i,.int _ n=>i.ik.map fun k=>.int k (k.wrap n)
    | _,_,_=>none
  | .fieldAddr s x f =>
    match tyi P s with
    | some i=>(match i.fields[f]? with|some (off,size,_)=>if size=0 then none else aC7 (ρ x) off|none=>none)
    | none=>none
  | .field s x f =>
    match tyi P s,ρ x with
    | some i,.agg cs=>(match i.fields[f]? with|some (off,size,a)=>af8 a size cs off|none=>none)
    | _,_=>none
  | .indexAddr t x ix =>
    match tyi P t,ρ ix with
    | some i,.int _ n =>
      if i.kind=4 then
        (match ρ x with
        | .sl _ es=>if 0<=n then (match es[n.toNat]? with|some e=>if e.length=i.n7/\i.n7≠0 then some (.el e 0) else none|none=>none) else none
        | .slb id m=>if 0<=n/\n.toNat<m/\i.n7≠0 then some (.ptr id (n.toNat * i.n7)) else none
        | _=>none)
      else if i.kind=5/\0<=n/\n<i.bs9/\i.n7≠0 then aC7 (ρ x) (n.toNat * i.n7) else none
    | _,_=>none
  | .index t x ix =>
    match tyi P t,ρ x,ρ ix with
    | some i,.agg cs,.int _ n=>if i.kind=5/\0<=n/\n<i.bs9 then af8 i.db0 i.n7 cs (n.toNat * i.n7) else none
    | _,_,_=>none
  | .extract x i=>match ρ x with | .tup vs=>vs[i]? | _=>none
  | .slice t x lo hi mx =>
    match tyi P t,ρ x with
    | some i,.sl c es =>
      if i.kind=4/\i.n7≠0/\(lo.isNone=true\/es.all (fun e=>e.length==i.n7)=true) then bU1 c es (lo.map ρ) (hi.map ρ) (mx.map ρ) else none
    | _,_=>none
  | .makeFunc f first captured=>some (.fn f (first.toList.map ρ) (captured.toList.map ρ))
  | .typeAssert x _ t ok=>match tyi P t,ρ x with
    | some i,.iface t' v=>if i.kind=8 then none else if t'=t then some (if ok then .tup [v,.bool true] else v) else if ok then some (.tup [.undef,.bool false]) else none
    | _,_=>none
  | .makeInterface t x=>match tyi P t with|some i=>if i.kind=8 then none else some (.iface t (ρ x))|none=>none
  | .call { callee:=.builtin .len,args:=args,argTypes:=ts } =>
    match args.toList,ts.toList with
    | [x],[t]=>(match tyi P t,ce1 (ρ x) with|some i,some n=>if i.kind=4 then some (.int .i64 n) else none|_,_=>none)
    | _,_=>none
  | .call { callee:=.builtin .max,args:=args,.. } =>
    match args.toList.map ρ with
    | [.int k a,.int k' b]=>if k=k' then some (.int k (if b>a then b else a)) else none
    | _=>none
  | .call { callee:=.builtin .min,args:=args,.. } =>
    match args.toList.map ρ with
    | [.int k a,.int k' b]=>if k=k' then some (.int k (if b<a then b else a)) else none
    | _=>none
  | _=>none


def RVL (g:G) (w:World) (vs:Array Value) (cs:List V):Prop :=
 vs.size=cs.length/\∀ (i:Nat) (c:Value) (v:V),vs[i]? = some c->cs[i]? = some v->RV g w c v
variable {g g':G} {w':World} {vs:Array Value} {cs:List V}
theorem RVL.mono (x:Ext g w g' w') (h:RVL g w vs cs):RVL g' w' vs cs :=
 ⟨h.1,fun i c v a b=>(h.2 i c v a b).mono x⟩
theorem RVL.at {g:G} {w:World} {vs:Array Value} {cs:List V} (h:RVL g w vs cs) {i:Nat} {v:V} (hv:cs[i]? = some v) :
  ∃ c,vs[i]? = some c/\RV g w c v:=by
 have hi:i<cs.length:=by
  rcases R0 i cs.length with h'|h'
  ·exact h'
  ·simp [cw7 h'] at hv
 have:i<vs.size:=by rw [h.1];exact hi
 exact ⟨vs[i],by simp [this],h.2 i _ v (by simp [this]) hv⟩
theorem RVL.mk {g:G} {w:World} {vs:Array Value} {cs:List V} (h:vs.size=cs.length)
    (r:∀ (i:Nat) (v:V),cs[i]? = some v->∃ c,vs[i]? = some c/\RV g w c v):RVL g w vs cs :=
  ⟨h,fun i c v a b=>by
    grind⟩

theorem br3 (g:G) (w:World) (c:Value):RV g w c (bj1 c):=by
 cases c with
 | bool b=>exact .bool _
 | int k n=>exact .int _ _
 | string s=>exact .str _
 | pointer a=>cases a with
  | none=>exact .U3
  | some a=>exact .undef _
 | slice a len cap =>
  simp only [bj1];split
  ·rename_i h
   obtain ⟨rfl,rfl,rfl⟩:=h;exact .sl none 0 .full [] 0 (fun _=>.nilFunc) b_ b_ b_ b_ rfl
  ·exact .undef _
 | nilFunc=>exact .V7
 | nilIface=>exact .L3
 | func f first captured =>
  simp only [bj1];split
  ·rename_i h
   obtain ⟨h1,h2⟩:=h;exact .fn _ _ _ _ _ (by simpa using h1) (by simpa using h2) b_ b_
  ·exact .undef _
 | _=>exact .undef _
theorem aP8 (g:G) (w:World) (cs:Array Value):RVL g w cs (cs.toList.map bj1) :=
  ⟨b_,fun i c v h1 h2=>by
    grind [br3]⟩

theorem dP1 (g:G) (w:World) (c:Value):RV g w c (toV c):=by
 unfold toV;split
 ·exact .agg _ _ (aP8 g w _).1 (aP8 g w _).2
 ·exact br3 g w _
variable {c:Value} {v:V}
theorem Z7 (h:RV g w c v):RVL g w #[c] [v] :=
  ⟨rfl,fun i a b h1 h2=>by
    grind⟩

theorem aP7 (h:RV g w c v) (hc:cellsOf v=some cs):RVL g w c.cells cs:=by
 cases h with
 | undef=>simp [cellsOf] at hc
 | agg vs cs' h r=>simp [cellsOf] at hc;subst hc;exact ⟨h,r⟩
 | tup=>simp [cellsOf] at hc
 | bool b=>simp [cellsOf] at hc;subst hc;exact Z7 (.bool b)
 | int k n=>simp [cellsOf] at hc;subst hc;exact Z7 (.int k n)
 | str s=>simp [cellsOf] at hc;subst hc;exact Z7 (.str s)
 | sl a cap c es k cell hk aa3 F5 hr hcc=>simp [cellsOf] at hc;subst hc;exact Z7 (.sl a cap c es k cell hk aa3 F5 hr hcc)
 | ptr id off h=>simp [cellsOf] at hc;subst hc;exact Z7 (.ptr id off h)
 | slb id n cap h h2=>simp [cellsOf] at hc;subst hc;exact Z7 (.slb id n cap h h2)
 | slr id n cap h h2=>simp [cellsOf] at hc;subst hc;exact Z7 (.slr id n cap h h2)
 | mpr id h=>simp [cellsOf] at hc;subst hc;exact Z7 (.mpr id h)
 | el b off cs o cell hl F5 hr=>simp [cellsOf] at hc;subst hc;exact Z7 (.el b off cs o cell hl F5 hr)
 | nd b cs ok o cell hok hl F5 hr hf=>simp [cellsOf] at hc;subst hc;exact Z7 (.nd b cs ok o cell hok hl F5 hr hf)
 | U3=>simp [cellsOf] at hc;subst hc;exact Z7 .U3
 | fn f fs cs fs' cs' h1 h2 r1 r2=>simp [cellsOf] at hc;subst hc;exact Z7 (.fn f fs cs fs' cs' h1 h2 r1 r2)
 | V7=>simp [cellsOf] at hc;subst hc;exact Z7 .V7
 | iface t c v r=>simp [cellsOf] at hc;subst hc;exact Z7 (.iface t c v r)
 | L3=>simp [cellsOf] at hc;subst hc;exact Z7 .L3
theorem av5 (b off n:Nat):(⟨b,off,none⟩:Addr).add n=⟨b,off+n,none⟩:=by
 grind [Addr.add]
theorem bL1 {x:V} {n:Nat} (h:RV g w c x) (hv:aC7 x n=some v) :
  ∃ b o,c=.pointer (some ⟨b,o,none⟩)/\RV g w (.pointer (some ⟨b,o+n,none⟩)) v:=by
 cases h with
 | ptr id off h=>simp [aC7] at hv;subst hv;exact ⟨_,_,rfl,.ptr id _ h⟩
 | el b off cs o cell hl F5 hr =>
  simp [aC7] at hv;subst hv;exact ⟨_,_,rfl,by rw [aL8];exact .el b off cs (o+n) cell hl F5 hr⟩
 | nd b cs ok o cell hok hl F5 hr hf =>
  simp [aC7] at hv;subst hv;exact ⟨_,_,rfl,.nd b cs ok (o+n) cell hok hl F5 hr hf⟩
 | _=>simp [aC7] at hv
theorem bA1:∀ (new:List V) (nw:List Value) (off:Nat) (vs:Array Value) (cs:List V),
    RVL g w vs cs->RVL g w nw.toArray new ->
    RVL g w ((nw.zipIdx).foldl (fun a (c,j)=>a.setIfInBounds (off+j) c) vs) (G8 cs off new):=by
  suffices H:∀ (new:List V) (nw:List Value) (off k:Nat) (vs:Array Value) (cs:List V),
      RVL g w vs cs->RVL g w nw.toArray new ->
      RVL g w ((nw.zipIdx k).foldl (fun a (c,j)=>a.setIfInBounds (off+j) c) vs) (G8 cs (off+k) new) by
    intro new nw off vs cs h1 h2;exact H new nw off 0 vs cs h1 h2
  intro new
  induction new with
  | nil =>
    intro nw off k vs cs h1 h2;have:nw=[]:=by have:=h2.1;simpa using this
    subst this;simpa [G8] using h1
  | cons v new ih =>
    intro nw off k vs cs h1 h2;cases nw with
    | nil=>have:=h2.1;simp at this
    | cons c nw =>
      simp only [List.zipIdx_cons,bV7,G8];have hv:RV g w c v:=h2.2 0 c v b_ b_;have:=ih nw off (k+1) (vs.setIfInBounds (off+k) c) (cs.set (off+k) v) ⟨by simp [h1.1],fun i a b ha hb=>by
        rw [Array.getElem?_setIfInBounds] at ha;by_cases hi:off+k=i
        · subst hi
          simp only [p7,h1.1] at ha hb;by_cases hl:off+k<cs.length
          · simp [hl] at ha hb;subst ha;subst hb;exact hv
          · simp [hl] at ha
        · simp [hi] at ha hb
          exact h1.2 i a b ha hb⟩ ⟨by have:=h2.1;simpa using this,fun i a b ha hb=>h2.2 (i+1) a b (by simpa using ha) (by simpa using hb)⟩
      grind

theorem cE5 (fields:List (Nat × Nat)) (place:Nat->Option (Nat × Nat)) (hp:∀ i x,fields[i]? = some x->place i=some x) :
  ∀ (cparts:List (Nat × Value)) (parts:List (Nat × V)) (vs:Array Value) (cs out:List V),
  parts.length=cparts.length->(∀ (i:Nat) (p:Nat × V) (q:Nat × Value),parts[i]? = some p->cparts[i]? = some q->p.1=q.1/\RV g w q.2 p.2) ->
  RVL g w vs cs->aO6 fields cs parts=some out->∃ ws,Instr.fill place vs cparts=some ws/\RVL g w ws out:=by
 intro cparts
 induction cparts with
 | nil =>
  intro parts vs cs out hl _ h1 h2;have:parts=[]:=by simpa using hl
  subst this;simp [aO6] at h2;subst h2;exact ⟨vs,rfl,h1⟩
 | cons q cparts ih =>
  intro parts vs cs out hl hr h1 h2;cases parts with
  | nil=>simp at hl
  | cons p parts =>
   obtain ⟨i,v⟩:=p;obtain ⟨i',c⟩:=q;obtain ⟨e,hv⟩:=hr 0 _ _ rfl rfl;simp at e hv;subst e;simp only [aO6] at h2;split at h2
   ·rename_i off size xs hf hc
    split at h2
    ·rename_i hlen
     have hcc:=aP7 hv hc;have:=ih parts _ _ out (by simpa using hl) (fun j p q hp hq=>hr (j+1) p q (by simpa using hp) (by simpa using hq))
      (bA1 xs c.cells.toList off vs cs h1 (by simpa using hcc)) h2
     obtain ⟨ws,hw,hws⟩:=this;refine ⟨ws,?_,hws⟩;simp only [Instr.fill,hp i _ hf];rw [y9 (by simp [hcc.1,h1.1,hlen.1];omega)]
     grind [Array.toList_zipIdx]
    ·simp at h2
   ·simp at h2
theorem U6 (h:aK4 P t≠0):∃ i d,P.info? t=some i/\P.underlying t=some d/\i.size=aK4 P t:=by
 grind [aK4]
theorem bR2:∀ (es:List (List V)) (k n j:Nat) (el:List V) (v:V),(∀ e∈es,e.length=k)->es[n]? = some el->el[j]? = some v ->
  es.flatten[n * k+j]? = some v:=by
 intro es
 induction es with
 | nil=>grind
 | cons e es ih =>
  intro k n j el v hk h hj;cases n with
  | zero =>
   grind
  | succ n =>
   have:=ih k n j el v (fun x hx=>hk x (by simp [hx])) h hj
   grind
variable {i:TyI}
theorem R1 (h:tyi P t=some i):∃ inf d z,P.info? t=some inf/\P.underlying t=some d/\inf.zero=some z /\
    i.size=inf.size/\i.bytes=inf.bytes/\i.agg=aD7 P t/\i.zero=z.cells.toList.map bj1 /\
    (i.kind=3->∃ fs,d=.struct fs/\i.fields=fs.toList.map (fun f=>(f.offset,aK4 P f.type,aD7 P f.type))/\i.fok=fs.toList.all (fun f=>aK4 P f.type != 0)) /\
    (i.kind=4->∃ e,d=.slice e/\i.n7=aK4 P e/\i.ah7=bytesOf P e/\i.db0=aD7 P e) /\
    (i.kind=5->∃ n e,d=.array n e/\i.bs9=n/\i.n7=aK4 P e/\i.db0=aD7 P e) /\
    (i.kind=1->d=.bool)/\(∀ k,i.ik=some k->d=.int k)/\(i.kind≠8->∀ ms,d≠.interface ms) /\
    (∀ (f:Nat) x,i.fields[f]? = some x->∃ (fs:Array Field) (fd:Field),d=.struct fs/\fs[f]? = some fd/\x=(fd.offset,aK4 P fd.type,aD7 P fd.type)) /\
    (∀ e,(d=.slice e\/∃ n,d=.array n e)->i.n7=aK4 P e /\
      ∀ j,P.info? e=some j->i.T7=(match j.zero with|some z=>z.cells.toList.map bj1|none=>[])):=by
  unfold tyi at h;split at h
  case h_2=>simp at h
  rename_i inf d hi hd;split at h
  case h_2=>simp at h
  rename_i z hz;cases h;refine ⟨inf,d,z,hi,hd,hz,rfl,rfl,rfl,rfl,?_,?_,?_,?_,?_,?_,?_,?_⟩
  all_goals grind

theorem aK2 {d:TypeDesc} (h:P.underlying t=some d) (w:World):(isAgg t).run P w=.ok (aD7 P t) w:=by
 simp only [isAgg,aD7,h,Sem.run_bind,Q9 h];cases d<;>simp
theorem G2 {i:TypeInfo} (h:P.info? t=some i) (w:World):(Go.sizeOf t).run P w=.ok i.size w:=by
 simp [Go.sizeOf,typeInfo,h]
theorem bn1 {P:Program} (w:World):∀ (fs:List Field),(∀ f∈fs,aK4 P f.type≠0) ->
  (fs.mapM fun f=>Prod.mk f.offset <$> Go.sizeOf f.type).run P w=.ok (fs.map fun f=>(f.offset,aK4 P f.type)) w
 | [],_=>rfl
 | f::fs,h=>by
  obtain ⟨i,d,hi,hd,hs⟩:=U6 (h f b_);have ih:=bn1 w fs (fun x hx=>h x (by simp [hx]));simp [List.mapM_cons,G2 hi,ih,hs]
theorem bg8:∀ (es:List (List V)) (k h:Nat),(∀ e∈es,e.length=k)->es.flatten.take (h * k)=(es.take h).flatten
 | [],k,h,_=>by simp
 | e::es,k,0,_=>by simp
 | e::es,k,h+1,hk=>by
  have ih:=bg8 es k h (fun x hx=>hk x (by simp [hx]))
  grind [Nat.add_mul]
theorem bg7:∀ (es:List (List V)) (k l:Nat),(∀ e∈es,e.length=k)->(es.drop l).flatten=es.flatten.drop (l * k)
  | [],k,l,_=>by simp
  | e::es,k,0,_=>by simp
  | e :: es,k,l+1,hk=>by
    have he:=hk e b_;have ih:=bg7 es k l (fun x hx=>hk x (by simp [hx]));have e1:e.drop (l * k+k)=[]:=List.drop_of_length_le a_;rw [bo6,bV2,ih,List.drop_append,he,aR0,Nat.one_mul,e1,
      show l * k+k - k=l * k by omega,Q3]

def aD6 (P:Program) (g:G) (w:World) (s:Sem Next) (v:V):Prop:=∃ c,s.run P w=.ok (.value c) w/\RV g w c v
variable {off:Nat}
theorem bL0 (hr:RVL g w vs cs)
  (h:af8 (aD7 P t) (aK4 P t) cs off=some v):∃ c,(part t vs off).run P w=.ok c w/\RV g w c v:=by
 unfold af8 at h;split at h
 ·simp at h
 ·rename_i hs
  obtain ⟨i,d,hi,hd,hsz⟩:=U6 hs;cases ha:aD7 P t with
  | true =>
   simp only [ha,p7] at h;split at h
   ·cases h
    refine ⟨.agg (vs.extract off (off+aK4 P t)),by simp [part,aK2 hd,ha,G2 hi,hsz],?_⟩;refine .agg _ _ (by simp [hr.1];omega) fun j c v hc hv=>?_;rw [Array.getElem?_extract] at hc;rw [be2,List.getElem?_drop] at hv;split at hv
    ·rw [B8 (by rw [hr.1];omega)] at hc
     exact hr.2 _ _ _ hc hv
    ·simp at hv
   ·simp at h
  | false =>
   simp only [ha,B2,r6] at h;obtain ⟨c,hc,hrc⟩:=hr.at h;exact ⟨c,by simp [part,aK2 hd,ha,hc],hrc⟩
theorem run_equalIn_bool (h:P.underlying t=some .bool) (d:Nat) (a b:Bool) (w:World) :
  (Op.equalIn (d+1) t (.bool a) (.bool b)).run P w=.ok (a==b) w:=by
 simp [Op.equalIn,Q9 h]
theorem run_equal_bool (h:P.underlying t=some .bool) (a b:Bool) (w:World) :
  (Op.equal t (.bool a) (.bool b)).run P w=.ok (a==b) w:=run_equalIn_bool h 9999 a b w
theorem br7 (h:tyi P t=some i) (hk:i.kind=7):∃ e,P.underlying t=some (.pointer e):=by
 unfold tyi at h;split at h
 case h_2=>simp at h
 split at h
 all_goals grind
theorem bz8 (h:P.underlying t=some (.pointer e)) (d:Nat) (w:World):(Op.equalIn (d+1) t (.pointer none) (.pointer none)).run P w=.ok true w:=by
 simp [Op.equalIn,Q9 h]
theorem bz9 (h:P.underlying t=some (.pointer e)) (d:Nat) (a:Addr) (w:World):(Op.equalIn (d+1) t (.pointer (some a)) (.pointer none)).run P w=.ok false w:=by
 simp [Op.equalIn,Q9 h]
theorem aw4 (h:P.underlying t=some (.pointer e)) (w:World):(Op.equal t (.pointer none) (.pointer none)).run P w=.ok true w:=bz8 h 9999 w
theorem aw5 (h:P.underlying t=some (.pointer e)) (a:Addr) (w:World):(Op.equal t (.pointer (some a)) (.pointer none)).run P w=.ok false w:=bz9 h 9999 a w
section
variable {P:Program} {g:G} {w:World} {ρc:Operand->Value} {ρ:Operand->V} (hρ:∀ x,RV g w (ρc x) (ρ x))
include hρ
variable {o:Oper}
theorem dP2 {c a b:Operand} (ho:o.op=.pick c a b) (h:H6 P ρ o.op=some v):aD6 P g w (execOp ρc o) v:=by
 rw [ho] at h;simp only [H6] at h;have hc:=hρ c;split at h
 ·rename_i t ht
  rw [ht] at hc;cases hc':ρc c<;>rw [hc'] at hc<;>cases hc
  refine ⟨if t then ρc a else ρc b,?_,?_⟩
  ·simp [execOp,ho,hc',asBool]
  grind
 ·simp at h
theorem dz0 {parts:Array (Nat × Operand)} (ho:o.op=.build t parts) (h:H6 P ρ o.op=some v) :
    aD6 P g w (execOp ρc o) v:=by
  rw [ho] at h;simp only [H6] at h;split at h
  case h_2=>simp at h
  rename_i i hi;have bh3:∀ (j:Nat) (p:Nat × V) (q:Nat × Value),(parts.toList.map fun p=>(p.1,ρ p.2))[j]? = some p ->
      (parts.map fun p=>(p.1,ρc p.2)).toList[j]? = some q->p.1=q.1/\RV g w q.2 p.2:=by
    intro j p q hp hq;simp only [ah6,Array.toList_map] at hp hq;cases hh:parts.toList[j]? with
    | none=>simp [hh] at hp
    | some x =>
      simp [hh] at hp hq;subst hp;subst hq;exact ⟨rfl,hρ _⟩
  obtain ⟨inf,d,z,h1,h2,h0,_,_,_,hz,hk3,_,hk5,_,_,_,_,_⟩:=R1 hi;split at h
  · rename_i hk
    obtain ⟨fs,rfl,h3,h4⟩:=hk3 hk.1;cases hf:aO6 (i.fields.map fun f=>(f.1,f.2.1)) i.zero (parts.toList.map fun p=>(p.1,ρ p.2)) with
    | none=>simp [hf] at h
    | some out =>
      simp [hf] at h;subst h;have bE4:∀ f∈fs.toList,aK4 P f.type≠0:=by
        have:=hk.2;rw [h4,ad2] at this;intro f hf;simpa using this f hf
      obtain ⟨ws,hw1,hw2⟩:=cE5 (g:=g) (w:=w) (i.fields.map fun f=>(f.1,f.2.1)) ((fs.toList.map fun f=>(f.offset,aK4 P f.type))[·]?)
        (by intro j x hx;rw [<- hx,h3];simp [aR3,Function.comp_def])
        (parts.map fun p=>(p.1,ρc p.2)).toList (parts.toList.map fun p=>(p.1,ρ p.2)) z.cells i.zero out b_ bh3 (by rw [hz];exact aP8 g w _) hf
      refine ⟨.agg ws,?_,.agg _ _ hw2.1 hw2.2⟩;have:=bn1 (P:=P) w fs.toList bE4;simp [execOp,ho,Instr.build,zeroValue,typeInfo,h1,h0,Q9 h2,Array.mapM_eq_mapM_toList,this]
      simp_all
  · split at h
    · rename_i hk
      obtain ⟨n,e,rfl,h3,h4,_⟩:=hk5 hk.1;cases hf:aO6 ((List.range i.bs9).map fun j=>(j * i.n7,i.n7)) i.zero (parts.toList.map fun p=>(p.1,ρ p.2)) with
      | none=>simp [hf] at h
      | some out =>
        simp [hf] at h;subst h;obtain ⟨ie,de,he1,he2,he3⟩:=U6 (P:=P) (t:=e) (by rw [<- h4];exact hk.2);obtain ⟨ws,hw1,hw2⟩:=cE5 (g:=g) (w:=w) ((List.range i.bs9).map fun j=>(j * i.n7,i.n7)) (fun i=>some (i * ie.size,ie.size))
          (by
            intro j x hx;rw [ah6] at hx;cases hr:(List.range i.bs9)[j]? with
            | none=>simp [hr] at hx
            | some y =>
              have:y=j:=by
                obtain ⟨h',e'⟩:=F2.1 hr;simpa using e'.symm
              subst this;simp [hr] at hx;rw [<- hx,h4,he3])
          (parts.map fun p=>(p.1,ρc p.2)).toList (parts.toList.map fun p=>(p.1,ρ p.2)) z.cells i.zero out b_ bh3 (by rw [hz];exact aP8 g w _) hf
        refine ⟨.agg ws,?_,.agg _ _ hw2.1 hw2.2⟩;simp [execOp,ho,Instr.build,zeroValue,typeInfo,h1,h0,Q9 h2,G2 he1]
        simp_all
    · simp at h

theorem cu1 {x:Operand} (ho:o.op=.nilCheck x) (h:H6 P ρ o.op=some v):aD6 P g w (execOp ρc o) v:=by
 rw [ho] at h;simp only [H6] at h;have hx:=hρ x;split at h
 ·rename_i id off hv
  cases h;rw [hv] at hx;cases hc:ρc x<;>rw [hc] at hx<;>cases hx
  exact ⟨_,by simp [execOp,ho,hc],.ptr _ _ l_⟩
 ·rename_i cs off hv
  cases h;rw [hv] at hx;have hx':=hx;cases hc:ρc x<;>rw [hc] at hx<;>cases hx
  refine ⟨ρc x,by simp [execOp,ho,hc],hx'⟩
 ·rename_i cs ok off hv
  cases h;rw [hv] at hx;have hx':=hx;cases hc:ρc x<;>rw [hc] at hx<;>cases hx
  refine ⟨ρc x,by simp [execOp,ho,hc],hx'⟩
 ·simp at h
omit hρ in
theorem dy7 {k:IntKind} {a b:Int}:Sem.run P (Op.intBits .and k a b) w=.ok (.int k (bt5 k a b)) w:=rfl
omit hρ in
theorem dO9 {k:IntKind} {a b:Int}:Sem.run P (Op.intBits .or k a b) w=.ok (.int k (do6 k a b)) w:=rfl
variable {y:Operand}
theorem dy9 {op:BinOp} {yt:TypeId} {x:Operand} (ho:o.op=.binOp op t x y yt) (h:H6 P ρ o.op=some v) :
    aD6 P g w (execOp ρc o) v:=by
  rw [ho] at h;simp only [H6] at h;have hx:=hρ x;have hy:=hρ y;unfold do2 at h;split at h
  · rename_i k a k' b hva hvb
    rw [hva] at hx;rw [hvb] at hy;cases hcx:ρc x<;>rw [hcx] at hx<;>cases hx
    cases hcy:ρc y<;>rw [hcy] at hy<;>cases hy
    split at h
    · rename_i hk;subst hk
      cases op<;>simp only [cq6] at h
      all_goals first
        | (cases h;exact ⟨_,by simp [execOp,ho,hcx,hcy,eqGuard,binOp,Op.intArith,dy7,dO9],.int _ _⟩)
        | (cases h;exact ⟨_,by simp [execOp,ho,hcx,hcy,eqGuard,binOp,Op.intCmp],.bool _⟩)
        | (split at h
           · simp at h
           · rename_i hb
             cases h;exact ⟨_,by simp [execOp,ho,hcx,hcy,eqGuard,binOp,Op.intDiv,hb],.int _ _⟩)
        | (simp at h;done)
    · simp at h
  · rename_i a b hva hvb
    rw [hva] at hx;rw [hvb] at hy;cases hcx:ρc x<;>rw [hcx] at hx<;>cases hx
    cases hcy:ρc y<;>rw [hcy] at hy<;>cases hy
    split at h
    · rename_i i hi
      split at h
      · rename_i hk
        obtain ⟨inf,d,z,h1,h2,h0,_,_,_,hz,_,_,_,hk1,_,_,_,_⟩:=R1 hi;have hd:=hk1 hk;subst hd;cases op<;>simp at h
        all_goals
          subst h;refine ⟨_,?_,.bool _⟩;simp only [execOp,ho,hcx,hcy,eqGuard,binOp];simp [run_equal_bool h2]
          try (cases a<;>cases b<;>rfl)
      · simp at h
    · simp at h
  · rename_i a b hva hvb
    rw [hva] at hx;rw [hvb] at hy;cases hcx:ρc x<;>rw [hcx] at hx<;>cases hx
    cases hcy:ρc y<;>rw [hcy] at hy<;>cases hy
    cases op<;>simp at h
    all_goals (subst h;exact ⟨_,by simp [execOp,ho,hcx,hcy,eqGuard,binOp,Op.stringOp],.bool _⟩)
  · rename_i hva hvb
    rw [hva] at hx;rw [hvb] at hy;unfold bm7 at h;split at h
    case h_2=>simp at h
    rename_i i hi;split at h
    case isFalse=>simp at h
    rename_i hk;obtain ⟨e,h2⟩:=br7 hi hk;generalize hcy:ρc y=cy at hy;cases hy;generalize hcx:ρc x=cx at hx;cases hx;cases op<;>simp at h
    all_goals
      subst h;refine ⟨_,?_,.bool _⟩;simp only [execOp,ho,hcx,hcy,eqGuard,binOp];simp [aw4 h2,aw5 h2]
  · rename_i c1 c2 hva hvb
    rw [hva] at hx;rw [hvb] at hy;unfold bm7 at h;split at h
    case h_2=>simp at h
    rename_i i hi;split at h
    case isFalse=>simp at h
    rename_i hk;obtain ⟨e,h2⟩:=br7 hi hk;generalize hcy:ρc y=cy at hy;cases hy;generalize hcx:ρc x=cx at hx;cases hx;cases op<;>simp at h
    all_goals
      subst h;refine ⟨_,?_,.bool _⟩;simp only [execOp,ho,hcx,hcy,eqGuard,binOp];simp [aw4 h2,aw5 h2]
  · rename_i c1 c2 c3 hva hvb
    rw [hva] at hx;rw [hvb] at hy;unfold bm7 at h;split at h
    case h_2=>simp at h
    rename_i i hi;split at h
    case isFalse=>simp at h
    rename_i hk;obtain ⟨e,h2⟩:=br7 hi hk;generalize hcy:ρc y=cy at hy;cases hy;generalize hcx:ρc x=cx at hx;cases hx;cases op<;>simp at h
    all_goals
      subst h;refine ⟨_,?_,.bool _⟩;simp only [execOp,ho,hcx,hcy,eqGuard,binOp];simp [aw4 h2,aw5 h2]
  · rename_i c1 c2 hva hvb
    rw [hva] at hx;rw [hvb] at hy;unfold bm7 at h;split at h
    case h_2=>simp at h
    rename_i i hi;split at h
    case isFalse=>simp at h
    rename_i hk;obtain ⟨e,h2⟩:=br7 hi hk;generalize hcy:ρc y=cy at hy;cases hy;generalize hcx:ρc x=cx at hx;cases hx;cases op<;>simp at h
    all_goals
      subst h;refine ⟨_,?_,.bool _⟩;simp only [execOp,ho,hcx,hcy,eqGuard,binOp];simp [aw4 h2,aw5 h2]
  · simp at h

theorem dP3 {op:UnOp} {x:Operand} (ho:o.op=.unOp op t x) (h:H6 P ρ o.op=some v):aD6 P g w (execOp ρc o) v:=by
 rw [ho] at h;simp only [H6] at h;have hx:=hρ x;split at h
 ·rename_i b hv
  cases h;rw [hv] at hx;cases hc:ρc x<;>rw [hc] at hx<;>cases hx
  exact ⟨_,by simp [execOp,ho,hc,Op.unary],.bool _⟩
 ·rename_i k n hv
  cases h;rw [hv] at hx;cases hc:ρc x<;>rw [hc] at hx<;>cases hx
  exact ⟨_,by simp [execOp,ho,hc,Op.unary,Op.intArith],.int _ _⟩
 ·simp at h
theorem cP6 {sT d:TypeId} {x:Operand} (ho:o.op=.convert sT d x) (h:H6 P ρ o.op=some v):aD6 P g w (execOp ρc o) v:=by
 rw [ho] at h;simp only [H6] at h;have hx:=hρ x;split at h
 ·rename_i j i k n hj hi hv
  obtain ⟨_,d1,_,_,h1,_⟩:=R1 hj;obtain ⟨inf,d2,z,_,h2,_,_,_,_,_,_,_,_,_,hik,_,_,_⟩:=R1 hi;cases hk:i.ik with
  | none=>simp [hk] at h
  | some k' =>
   simp [hk] at h;subst h;have:=hik k' hk;subst this;rw [hv] at hx;cases hc:ρc x<;>rw [hc] at hx<;>cases hx
   exact ⟨_,by simp [execOp,ho,hc,convert,Q9 h1,Q9 h2,Conv.intToInt],.int _ _⟩
 ·simp at h
theorem ch2 {s:TypeId} {f:Nat} {x:Operand} (ho:o.op=.fieldAddr s x f) (h:H6 P ρ o.op=some v):aD6 P g w (execOp ρc o) v:=by
 rw [ho] at h;simp only [H6] at h;split at h
 case h_2=>simp at h
 rename_i i hi;obtain ⟨inf,d,z,_,h2,_,_,_,_,_,_,_,_,_,_,_,hf,_⟩:=R1 hi;split at h
 case h_2=>simp at h
 rename_i off size a hfx;obtain ⟨fs,fd,rfl,hfd,he⟩:=hf f _ hfx;obtain ⟨rfl,rfl,rfl⟩:=he;split at h
 ·simp at h
 ·rename_i hsz
  obtain ⟨j,dj,hj1,hj2,hj3⟩:=U6 hsz;obtain ⟨b,o',hc,hr⟩:=bL1 (hρ x) h;refine ⟨_,?_,hr⟩;simp [execOp,ho,Instr.fieldAt,Q9 h2,hfd,hc,Instr.sureAddr,fieldPlace,G2 hj1,hj3,hsz,av5]
theorem dz1 {s:TypeId} {f:Nat} {x:Operand} (ho:o.op=.field s x f) (h:H6 P ρ o.op=some v):aD6 P g w (execOp ρc o) v:=by
 rw [ho] at h;simp only [H6] at h;have hx:=hρ x;split at h
 case h_2=>simp at h
 rename_i i cs hi hv;obtain ⟨inf,d,z,_,h2,_,_,_,_,_,_,_,_,_,_,_,hf,_⟩:=R1 hi;split at h
 case h_2=>simp at h
 rename_i off size a hfx;obtain ⟨fs,fd,rfl,hfd,he⟩:=hf f _ hfx;simp only [aA5] at he;obtain ⟨rfl,rfl,rfl⟩:=he;rw [hv] at hx;cases hc:ρc x<;>rw [hc] at hx<;>cases hx
 rename_i vs hl hr;obtain ⟨c,hc1,hc2⟩:=bL0 (w:=w) ⟨hl,hr⟩ h;exact ⟨c,by simp [execOp,ho,Instr.field,Q9 h2,hfd,hc,asAgg,hc1],hc2⟩
theorem ch3 {x ix:Operand} (ho:o.op=.indexAddr t x ix) (h:H6 P ρ o.op=some v):aD6 P g w (execOp ρc o) v:=by
 rw [ho] at h;simp only [H6] at h;have hx:=hρ x;have hix:=hρ ix;split at h
 case h_2=>simp at h
 rename_i i k n hi hn;rw [hn] at hix;cases hcx:ρc ix<;>rw [hcx] at hix<;>cases hix
 obtain ⟨inf,d,z,h1,h2,h0,_,_,_,hz,_,hk4,hk5,_⟩:=R1 hi;split at h
 ·rename_i hk
  split at h
  case h_3=>simp at h
  case h_2 =>
   rename_i id m hv;split at h
   case isFalse=>simp at h
   rename_i hlen;cases h;obtain ⟨e,rfl,hes,_,_⟩:=hk4 hk;obtain ⟨ie,de,he1,he2,he3⟩:=U6 (P:=P) (t:=e) (by grind);rw [hv] at hx;cases hc:ρc x<;>rw [hc] at hx<;>cases hx
   rename_i cap hd aa3;refine ⟨.pointer (some ⟨g.loc id,n.toNat * ie.size,none⟩),?_,?_⟩
   ·have:¬ (n<0):=by omega
    simp [execOp,ho,Instr.indexAt,hcx,hc,asIntOf,Q9 h2,G2 he1,hlen.1,av5]
    grind
   ·rw [hes,<- he3];exact .ptr id _ hd
  rename_i c es hv;split at h
  case isFalse=>simp at h
  rename_i hn0;obtain ⟨e,rfl,hes,_,_⟩:=hk4 hk;split at h
  case h_2=>simp at h
  rename_i el hel;split at h
  case isFalse=>simp at h
  rename_i hlen;cases h;obtain ⟨ie,de,he1,he2,he3⟩:=U6 (P:=P) (t:=e) (by grind);rw [hv] at hx;cases hc:ρc x<;>rw [hc] at hx<;>cases hx
  rename_i a cap k' cell hk' hr F5 aa3 hcc;have hlt:n.toNat<es.length:=by
   rcases R0 n.toNat es.length with h'|h'
   ·exact h'
   ·simp [cw7 h'] at hel
  have hne:es≠[]:=by intro e;subst e;simp at hlt
  obtain ⟨b,off,rfl,S9,ac8⟩:=F5 hne;have bR8:el∈es:=Q7 hel;have hkk:k'=ie.size:=by rw [<- hk' _ bR8,hlen.1,hes,he3]
  subst hkk;have ej3:∀ j v,el[j]? = some v->es.flatten[n.toNat * ie.size+j]? = some v:=fun j v hj=>bR2 es ie.size n.toNat j el v hk' hel hj;have hbound:(n.toNat+1) * ie.size<=es.length * ie.size:=bo4 _ a_;rw [aR0,Nat.one_mul] at hbound;refine ⟨.pointer (some ⟨b,off+n.toNat * ie.size+0,none⟩),?_,?_⟩
  ·have:¬ (n<0):=by omega
   simp [execOp,ho,Instr.indexAt,hcx,hc,asIntOf,Q9 h2,G2 he1,hn0,av5];intro hge;omega
  ·refine .el b (off+n.toNat * ie.size) el 0 (fun j=>cell (n.toNat * ie.size+j)) ?_ ?_ ?_
   all_goals grind
 ·split at h
  case isFalse=>simp at h
  rename_i hk;obtain ⟨m,e,rfl,ham,hes,_⟩:=hk5 hk.1;obtain ⟨ie,de,he1,he2,he3⟩:=U6 (P:=P) (t:=e) (by grind);obtain ⟨b,o',hc,hr⟩:=bL1 hx h;refine ⟨_,?_,hr⟩;have:=hk.2.2.1;rw [ham] at this;simp [execOp,ho,Instr.indexAt,hcx,hc,asIntOf,Q9 h2,G2 he1,hk.2.1,av5,Instr.sureAddr,this,hes,he3]
theorem dz2 {x ix:Operand} (ho:o.op=.index t x ix) (h:H6 P ρ o.op=some v):aD6 P g w (execOp ρc o) v:=by
 rw [ho] at h;simp only [H6] at h;have hx:=hρ x;have hix:=hρ ix;split at h
 case h_2=>simp at h
 rename_i i cs k n hi hv hn;rw [hn] at hix;cases hcx:ρc ix<;>rw [hcx] at hix<;>cases hix
 rw [hv] at hx;cases hc:ρc x<;>rw [hc] at hx<;>cases hx
 rename_i vs hl hr;split at h
 case isFalse=>simp at h
 rename_i hk;obtain ⟨inf,d,z,h1,h2,h0,_,_,_,hz,_,_,hk5,_⟩:=R1 hi;obtain ⟨m,e,rfl,ham,hes,hag⟩:=hk5 hk.1;rw [hag,hes] at h;have hne:aK4 P e≠0:=by
  intro e0;rw [e0] at h;simp [af8] at h
 obtain ⟨ie,de,he1,he2,he3⟩:=U6 hne;obtain ⟨c,hc1,hc2⟩:=bL0 (w:=w) ⟨hl,hr⟩ h;have:=hk.2.2;rw [ham] at this;exact ⟨c,by simp [execOp,ho,Instr.index,hcx,hc,asIntOf,Q9 h2,G2 he1,he3,hk.2.1,this,hc1],hc2⟩
theorem cP7 {x:Operand} {j:Nat} (ho:o.op=.extract x j) (h:H6 P ρ o.op=some v):aD6 P g w (execOp ρc o) v:=by
 rw [ho] at h;simp only [H6] at h;have hx:=hρ x;split at h
 case h_2=>simp at h
 rename_i vs hv;rw [hv] at hx;cases hc:ρc x<;>rw [hc] at hx<;>cases hx
 rename_i cs hl hr;obtain ⟨c,hc1,hc2⟩:=(show RVL g w cs vs from ⟨hl,hr⟩).at h;exact ⟨c,by simp [execOp,ho,Instr.extract,hc,hc1],hc2⟩
theorem bd4 (xs:Array Operand):RVL g w (xs.map ρc) (xs.toList.map ρ) :=
  ⟨b_,fun i c v hc hv=>by
    grind⟩

theorem cu0 {f:Fn} {a b:Array Operand} (ho:o.op=.makeFunc f a b) (h:H6 P ρ o.op=some v):aD6 P g w (execOp ρc o) v:=by
 rw [ho] at h;cases h;have ha:=bd4 hρ a;have hb:=bd4 hρ b;exact ⟨_,by simp [execOp,ho,Instr.makeFunc],.fn _ _ _ _ _ ha.1 hb.1 ha.2 hb.2⟩
theorem bU0 {t0:TypeId} {x:Operand} {ok:Bool} (ho:o.op=.typeAssert x t0 t ok) (h:H6 P ρ o.op=some v):aD6 P g w (execOp ρc o) v:=by
 rw [ho] at h;simp only [H6] at h;have hx:=hρ x;split at h
 case h_2=>simp at h
 rename_i i t' u hi hv;rw [hv] at hx;generalize hcx:ρc x=cx at hx;cases hx with|iface _ c _ hr=>?_
 obtain ⟨inf,d,z,h1,h2,h0,_,_,_,hz,_,_,_,_,_,h8,_⟩:=R1 hi;split at h
 ·simp at h
 rename_i hk;have hd:=h8 hk;split at h
 ·rename_i e;subst e
  cases ok with
  | true =>
   simp at h;subst h;refine ⟨.tuple #[c,.bool true],?_,.tup _ _ rfl (fun i a b h1 h2=>?_)⟩
   ·simp [execOp,ho,hcx,Instr.typeAssert,Q9 h2]
   ·match i with
    | 0=>grind
    | 1=>simp at h1 h2;subst h1;subst h2;exact .bool _
    | i+2=>simp at h2
  | false =>
   simp at h;subst h;exact ⟨c,by simp [execOp,ho,hcx,Instr.typeAssert,Q9 h2],hr⟩
 ·rename_i hne
  cases ok with
  | true =>
   simp at h;subst h;refine ⟨.tuple #[z,.bool false],?_,.tup _ _ rfl (fun i a b h1 h2=>?_)⟩
   ·simp [execOp,ho,hcx,Instr.typeAssert,Q9 h2,hne,zeroValue,typeInfo,h1,h0]
   ·match i with
    | 0=>simp at h1 h2;subst h2;exact .undef _
    | 1=>simp at h1 h2;subst h1;subst h2;exact .bool _
    | i+2=>simp at h2
  | false=>simp at h
theorem bp5 {x:Operand} (ho:o.op=.makeInterface t x) (h:H6 P ρ o.op=some v):aD6 P g w (execOp ρc o) v:=by
 rw [ho] at h;simp only [H6] at h;split at h
 case h_2=>simp at h
 rename_i i hi;split at h
 ·simp at h
 ·rename_i hk
  cases h;obtain ⟨inf,d,z,h1,h2,h0,_,_,_,hz,_,_,_,_,_,h8,_⟩:=R1 hi;refine ⟨_,?_,.iface _ _ _ (hρ x)⟩;have:=h8 hk;simp [execOp,ho,Instr.makeInterface,Q9 h2]
omit hρ in
theorem bA0 {n:Nat} (h:RV g w c v) (hn:by1 v=some n):∃ k,c=.int k n:=by
 cases h with
 | int k m =>
  simp only [by1] at hn;split at hn
  ·rename_i h0
   cases hn;exact ⟨k,by rw [Int.toNat_of_nonneg h0]⟩
  ·simp at hn
 | _=>simp [by1] at hn
omit hρ in
theorem run_sliceBound {k:IntKind} {n y:Nat} {code:BoundsCode} (h:n<=y):(Instr.sliceBound (.int k n) y code).run P w=.ok n w:=by
 simp [Instr.sliceBound,asIntOf,h]
variable {cap k h:Nat} {cell:Nat->Value}
omit hρ in
theorem di9 {a:Option Addr} {l sz:Nat} {es:List (List V)} {c':Cap}
  (hk:∀ e∈es,e.length=k) (aa3:es.length<=cap)
  (F5:es≠[]->∃ b off,a=some ⟨b,off,none⟩/\off+es.length * k<=g.lim b/\∀ i,i<es.length * k->w.cell? ⟨b,off+i,none⟩=some (cell i))
  (hr:∀ (i:Nat) (v:V),es.flatten[i]? = some v->RV g w (cell i) v) (hl:l<=h) (hh:h<=es.length) (m:Nat) (hm:h<=m)
  (hsz:l=0\/∀ e∈es,e.length=sz)
  (hc:bW4 g (if m=l then a else a.map (·.add (l * sz))) (h - l) (m - l) k c') :
  RV g w (.slice (if m=l then a else a.map (·.add (l * sz))) (h - l) (m - l)) (.sl c' ((es.take h).drop l)):=by
 have hlen:((es.take h).drop l).length=h - l:=by simp;omega
 rw [show (h - l)=((es.take h).drop l).length from hlen.symm] at hc ⊢;have bR8:∀ e∈(es.take h).drop l,e∈es:=fun e he=>cw8 (List.mem_of_mem_drop he);have hkk:l * sz=l * k\/(es.take h).drop l=[]:=by
  rcases hsz with hsz|hsz
  ·subst hsz;simp
  ·cases hes:es<;>simp_all
 refine .sl _ _ c' _ k (fun i=>cell (l * k+i)) (fun e he=>hk e (bR8 e he)) a_ (fun hne=>?_) (fun i v hv=>?_) hc
 ·have hlt:l<h:=by
   rcases R0 l h with h'|h'
   ·exact h'
   ·exfalso;apply hne;exact ci9 a_
  obtain ⟨b,off,rfl,S9,ac8⟩:=F5 (by intro e;subst e;simp at hh;omega);have hb:h * k<=es.length * k:=bo4 _ hh;have hlk:(h - l) * k+l * k=h * k:=by rw [<- aR0];congr 1;omega
  grind [av5]
 ·have:((es.take h).drop l).flatten=(es.flatten.take (h * k)).drop (l * k):=by
   rw [bg8 es k h hk,bg7 (es.take h) k l (fun e he=>hk e (cw8 he))]
  grind
omit hρ in
theorem ct9 {lo hi:Option Value} {len l:Nat} (hl:(lo=none/\l=0)\/∃ k,lo=some (.int k l)) (hh:(hi=none/\h=len)\/∃ k,hi=some (.int k h))
  (h1:l<=h) (h2:h<=cap):(Instr.sliceBounds true len cap lo hi none).run P w=.ok (l,h,cap) w:=by
 rcases hl with ⟨rfl,rfl⟩|⟨k,rfl⟩<;>rcases hh with ⟨rfl,rfl⟩|⟨k',rfl⟩ <;>
  simp [Instr.sliceBounds,run_sliceBound h1,run_sliceBound h2]
omit hρ in
theorem ch0 {lo:Option Value} {len l m:Nat} {k1 k2:IntKind} (hl:(lo=none/\l=0)\/∃ k,lo=some (.int k l))
  (h1:l<=h) (h2:h<=m) (h3:m<=cap):(Instr.sliceBounds true len cap lo (some (.int k1 h)) (some (.int k2 m))).run P w=.ok (l,h,m) w:=by
 rcases hl with ⟨rfl,rfl⟩|⟨k,rfl⟩ <;>
  simp [Instr.sliceBounds,run_sliceBound h1,run_sliceBound h2,run_sliceBound h3]
theorem bt6 {x:Option Operand} {d n:Nat} (h:aB0 d (x.map ρ)=some n):(x.map ρc=none/\n=d)\/∃ k,x.map ρc=some (.int k n):=by
 cases x<;>grind [aB0,bA0]
theorem dz3 {x:Operand} {lo hi mx:Option Operand} (ho:o.op=.slice t x lo hi mx) (h:H6 P ρ o.op=some v) :
  aD6 P g w (execOp ρc o) v:=by
 rw [ho] at h;simp only [H6] at h;have hx:=hρ x;split at h
 case h_2=>simp at h
 rename_i i c es hi' hv;split at h
 case isFalse=>simp at h
 rename_i hk;obtain ⟨inf,d,z,h1,h2,h0,_,_,_,hz,_,hk4,_⟩:=R1 hi';obtain ⟨e,rfl,hes,_,_⟩:=hk4 hk.1;obtain ⟨ie,de,he1,he2,he3⟩:=U6 (P:=P) (t:=e) (by grind);rw [hv] at hx;have hx0:=hx;cases hc:ρc x<;>rw [hc] at hx<;>cases hx
 rename_i a cap k cell hkk hr F5 aa3 hcc;have hsz:∀ l,aB0 0 (lo.map ρ)=some l->l=0\/∀ e∈es,e.length=ie.size:=by
  intro l hl;rcases hk.2.2 with h'|h'
  ·left
   cases lo<;>grind [aB0]
  ·grind
 unfold bU1 at h;split at h
 ·rename_i m hm
  cases mx with
  | none=>simp at hm
  | some mo =>
   simp at hm;subst hm;split at h
   case h_2=>simp at h
   rename_i l hh m' hl' hhi hm';split at h
   case isFalse=>simp at h
   rename_i hb;cases h;cases hi with
   | none=>simp at hhi
   | some ho' =>
    simp at hhi;obtain ⟨k1,e1⟩:=bA0 (hρ mo) hm';obtain ⟨k2,e2⟩:=bA0 (hρ ho') hhi;refine ⟨_,?_,di9 (l:=l) (h:=hh) (sz:=ie.size) (m:=m') hkk aa3 F5 hr hb.1 a_ hb.2.1 (hsz l hl') ?_⟩
    ·have:=ch0 (P:=P) (w:=w) (len:=es.length) (k1:=k2) (k2:=k1) (bt6 hρ hl') hb.1 hb.2.1 (show m'<=cap by omega)
     simp [execOp,ho,Instr.sliceAt,Instr.slice,Q9 h2,hc,e1,e2,this,G2 he1]
    ·show m' - l=hh - l
     omega
 ·rename_i hm
  cases mx with
  | some mo=>simp at hm
  | none =>
   split at h
   case h_2=>simp at h
   rename_i l hh hl' hhi;split at h
   case isFalse=>simp at h
   rename_i hb;cases h;have:=ct9 (P:=P) (w:=w) (bt6 hρ hl') (bt6 hρ hhi) hb.1 (show hh<=cap by omega);refine ⟨.slice (if cap=l then a else a.map (·.add (l * ie.size))) (hh - l) (cap - l),?_,?_⟩
   ·simp [execOp,ho,Instr.sliceAt,Instr.slice,Q9 h2,hc,this,G2 he1]
   ·by_cases hz':l=0/\hh=es.length
    ·obtain ⟨rfl,rfl⟩:=hz'
     simp only [L6,p7,L2,aQ6,Nat.zero_mul,Nat.sub_zero];rw [hc] at hx0;cases a<;>grind [Addr.add]
    ·rw [y9 hz']
     exact di9 (l:=l) (h:=hh) (sz:=ie.size) (m:=cap) hkk aa3 F5 hr hb.1 hb.2 a_ (hsz l hl') trivial
variable {c:Call}
theorem eb3 (ho:o.op=.call c) (aP0:c.callee=.builtin .len) (h:H6 P ρ o.op=some v):aD6 P g w (execOp ρc o) v:=by
 obtain ⟨callee,args,ts⟩:=c;simp only at aP0;subst aP0;rw [ho] at h;simp only [H6] at h;split at h
 case h_2=>simp at h
 rename_i x t am3 hts;split at h
 case h_2=>simp at h
 rename_i i n hi hn;split at h
 case isFalse=>simp at h
 rename_i hk;cases h;obtain ⟨inf,d,z,h1,h2,h0,_,_,_,hz,_,hk4,_⟩:=R1 hi;obtain ⟨e,rfl,_⟩:=hk4 hk;have ha:args=#[x]:=by cases args;simp_all
 have ht:ts=#[t]:=by cases ts;simp_all
 subst ha;subst ht;have hx:=hρ x;cases hv:ρ x with
 | sl c es =>
  rw [hv] at hx hn;simp only [ce1,S6] at hn;subst hn;cases hc:ρc x<;>rw [hc] at hx<;>cases hx
  refine ⟨_,?_,.int _ _⟩;simp [execOp,ho,resolve,invoke,builtin,Builtin.len_,Q9 h2,hc,goInt]
 | slb id m =>
  rw [hv] at hx hn;simp only [ce1,S6] at hn;subst hn;cases hc:ρc x<;>rw [hc] at hx<;>cases hx
  refine ⟨_,?_,.int _ _⟩;simp [execOp,ho,resolve,invoke,builtin,Builtin.len_,Q9 h2,hc,goInt]
 | slr id m cp =>
  rw [hv] at hx hn;simp only [ce1,S6] at hn;subst hn;cases hc:ρc x<;>rw [hc] at hx<;>cases hx
  refine ⟨_,?_,.int _ _⟩;simp [execOp,ho,resolve,invoke,builtin,Builtin.len_,Q9 h2,hc,goInt]
 | str s=>grind [ce1]
 | _=>rw [hv] at hn;simp [ce1] at hn
theorem eb4 (ho:o.op=.call c) (aP0:c.callee=.builtin .max) (h:H6 P ρ o.op=some v):aD6 P g w (execOp ρc o) v:=by
 obtain ⟨callee,args,ts⟩:=c;subst aP0;rw [ho] at h;simp only [H6] at h;split at h
 case h_2=>simp at h
 rename_i k a k' b am3;split at h
 case isFalse=>simp at h
 cases h;have hl:=congrArg List.length am3;obtain ⟨x,y,rfl⟩:∃ x y,args=#[x,y]:=by
  obtain ⟨l⟩:=args
  match l,hl with
  | [x,y],_=>exact ⟨x,y,rfl⟩
 simp at am3;have hx:=hρ x;have hy:=hρ y;rw [am3.1] at hx;rw [am3.2] at hy;cases hcx:ρc x<;>rw [hcx] at hx<;>cases hx
 cases hcy:ρc y<;>rw [hcy] at hy<;>cases hy
 refine ⟨_,?_,.int _ _⟩;simp [execOp,ho,resolve,invoke,builtin,Builtin.max_,hcx,hcy,Builtin.max2]
theorem eb5 (ho:o.op=.call c) (aP0:c.callee=.builtin .min) (h:H6 P ρ o.op=some v):aD6 P g w (execOp ρc o) v:=by
 obtain ⟨callee,args,ts⟩:=c;subst aP0;rw [ho] at h;simp only [H6] at h;split at h
 case h_2=>simp at h
 rename_i k a k' b am3;split at h
 case isFalse=>simp at h
 cases h;have hl:=congrArg List.length am3;obtain ⟨x,y,rfl⟩:∃ x y,args=#[x,y]:=by
  obtain ⟨l⟩:=args
  match l,hl with
  | [x,y],_=>exact ⟨x,y,rfl⟩
 simp at am3;have hx:=hρ x;have hy:=hρ y;rw [am3.1] at hx;rw [am3.2] at hy;cases hcx:ρc x<;>rw [hcx] at hx<;>cases hx
 cases hcy:ρc y<;>rw [hcy] at hy<;>cases hy
 refine ⟨_,?_,.int _ _⟩;simp [execOp,ho,resolve,invoke,builtin,Builtin.min_,hcx,hcy,Builtin.min2]
theorem cf9 (h:H6 P ρ o.op=some v):aD6 P g w (execOp ρc o) v:=by
 cases ho:o.op with
 | move x=>rw [ho] at h;cases h;exact ⟨_,by simp [execOp,ho],hρ x⟩
 | assign x=>rw [ho] at h;cases h;exact ⟨_,by simp [execOp,ho],hρ x⟩
 | pick c a b=>exact dP2 hρ ho h
 | build t ps=>exact dz0 hρ ho h
 | nilCheck x=>grind [cu1]
 | binOp op t x y yt=>exact dy9 hρ ho h
 | unOp op t x=>exact dP3 hρ ho h
 | convert a b x=>grind [cP6]
 | fieldAddr s x f=>grind [ch2]
 | field s x f=>exact dz1 hρ ho h
 | indexAddr t x i=>grind [ch3]
 | index t x i=>exact dz2 hρ ho h
 | extract x i=>grind [cP7]
 | slice t x lo hi mx=>exact dz3 hρ ho h
 | makeFunc f a b=>grind [cu0]
 | typeAssert x t0 t ok=>grind [bU0]
 | makeInterface t x=>grind [bp5]
 | call c =>
  obtain ⟨callee,args,ts⟩:=c;cases callee with
  | builtin b =>
   cases b with
   | len=>grind [eb3]
   | max=>grind [eb4]
   | min=>grind [eb5]
   | _=>rw [ho] at h;simp [H6] at h
  | _=>rw [ho] at h;simp [H6] at h
 | _=>rw [ho] at h;simp [H6] at h
end
structure Eff where
 v:V
 reads:List Id
 writes:List (Id × Obj)
def p8 (h:H) (id:Id) (o:Obj):H:=fun j=>if j=id then some o else h j
def L9 (h:H):List (Id × Obj)->H
 | []=>h
 | (id,o)::l=>L9 (p8 h id o) l
def am9:V->Bool
 | .agg _ | .tup _ | .undef=>false
 | _=>true
def aq8 (k:Nat) (es:List (List V)):List (Nat × V)->Option (List (List V))
 | []=>some es
 | (i,v)::rest =>
  match cellsOf v with
  | some cs=>if cs.length=k/\i<es.length then aq8 k (es.set i cs) rest else none
  | none=>none
def cr1 (P:Program) (t:TypeId):Bool :=
 match P.underlying t with
 | some (.map k e)=>(match P.underlying k,P.underlying e with|some (.int .i64),some .bool=>true|_,_=>false)
 | _=>false
def bS3 (l:List Int) (n:Int):Option (List Int):=if l.length<140737488355328 /\ -4611686018427387904<=n/\n<=4611686018427387903 then some (V2 n l) else none
def O6 (P:Program) (ρ:Operand->V) (look:H) (nid:Id):Op->Option Eff
  | .alloc t =>
    match tyi P t,look nid with
    | some i,none=>some ⟨.ptr nid 0,[nid],[(nid,.box i.zero)]⟩
    | _,_=>none
  | .box t x =>
    if (tyi P t).any (·.frz)=true then (cellsOf (ρ x)).map fun cs=>⟨.el cs 0,[],[]⟩ else
    match cellsOf (ρ x),look nid with
    | some cs,none=>some ⟨.ptr nid 0,[nid],[(nid,.box cs)]⟩
    | _,_=>none
  | .buildSlice t len parts =>
    match tyi P t with
    | some i =>
      if i.kind=4/\i.n7≠0/\i.T7.length=i.n7/\len * i.n7<=16777216 then
        (aq8 i.n7 (List.replicate len i.T7) (parts.toList.map fun p=>(p.1,ρ p.2))).map fun es=>⟨.sl .full es,[],[]⟩
      else none
    | none=>none
  | .load t a =>
    match tyi P t,ρ a with
    | some i,.ptr id off=>(match look id with|some (.box cs)=>(af8 i.agg i.size cs off).map fun v=>⟨v,[id],[]⟩|_=>none)
    | some i,.el cs off=>(af8 i.agg i.size cs off).map fun v=>⟨v,[],[]⟩
    | some i,.nd cs _ off=>(af8 i.agg i.size cs off).map fun v=>⟨v,[],[]⟩
    | _,_=>none
  | .store t a x =>
    match tyi P t,ρ a,cellsOf (ρ x) with
    | some i,.ptr id off,some xs =>
      (match look id with
      | some (.box cs) =>
        if xs.length=i.size/\off+xs.length<=cs.length/\xs.all am9=true then some ⟨.undef,[id],[(id,.box (G8 cs off xs))]⟩ else none
      | _=>none)
    | _,_,_=>none
  | .call { callee:=.builtin .append,args:=args,argTypes:=ts } =>
    match args.toList.map ρ,ts.toList.map (tyi P) with
    | [.sl c es,.sl _ xs],[some i,some j] =>
      if i.kind=4/\j.kind=4/\i.n7≠0/\i.T7.length=i.n7/\es.all (fun e=>e.length==i.n7)=true/\xs.all (fun e=>e.length==i.n7)=true /\
          xs.flatten.all am9=true/\(es.length+xs.length) * i.ah7<=140737488355328/\es.length+xs.length<=140737488355328 then
        (match c with
        | .own id=>(match look id with|some (.tok n k)=>if n=es.length/\k=i.n7 then some ⟨.sl (.own id) (es++xs),[id],[(id,.tok (es.length+xs.length) i.n7)]⟩ else none|_=>none)
        | .full=>(match look nid with|none=>some ⟨.sl (.own nid) (es++xs),[nid],[(nid,.tok (es.length+xs.length) i.n7)]⟩|some _=>none)
        | .any=>none)
      else none
    | _,_=>none
  | .makeMap t room =>
    match room,cr1 P t,look nid with
    | none,true,none=>some ⟨.mpr nid,[nid],[(nid,.map [])]⟩
    | _,_,_=>none
  | .mapUpdate t m x y =>
    match cr1 P t,ρ m,ρ x,ρ y with
    | true,.mpr id,.int .i64 n,.bool _=>(match look id with|some (.map l)=>(bS3 l n).map fun l2=>⟨.undef,[id],[(id,.map l2)]⟩|_=>none)
    | _,_,_,_=>none
  | _=>none

def Sim (P:Program) (env:Nat->Option (List V)) (g:G) (w:World) (h:H) (s:Sem Next) (eff:Eff):Prop :=
 ∃ c w' g',(s.run P w=.ok (.value c) w'\/(s.run P w=.ok .skip w'/\c=undef))/\Ext g w g' w'/\Rel env g' w' (L9 h eff.writes)/\RV g' w' c eff.v
variable {h:H} {id:Id}
theorem Rel.lt {env:Nat->Option (List V)} (r:Rel env g w h) (hb:h id=some (.box cs)) :
  g.loc id<w.heap.size:=by
 obtain ⟨vs,⟨ty,hc⟩,_⟩:=r.box id cs hb
 grind
theorem Rel.bx8 {env:Nat->Option (List V)} (r:Rel env g w h) (hb:0<g.lim b):b<w.heap.size:=by
 rcases R0 b w.heap.size with h'|h'
 ·exact h'
 ·have:=r.B3 b h';omega
theorem cS8.lt (s:cS8 g w id):∃ a,(g.buf id).a=some a/\a.block<w.heap.size:=by
 obtain ⟨b,off,vs,h1,⟨ty,h2⟩,_⟩:=s
 grind
variable {nid:Id}
theorem br0 {env:Nat->Option (List V)} (r:Rel env g w h) (hn:h nid=none)
    (hv:RVL g w vs cs) (t:TypeId) :
    ∃ g',Ext g w g' (w.alloc (.cells vs t))/\Rel env g' (w.alloc (.cells vs t)) (p8 h nid (.box cs))/\RV g' (w.alloc (.cells vs t)) (.pointer (some ⟨w.heap.size,0,none⟩)) (.ptr nid 0):=by
  have hold:∀ b,b<w.heap.size->(w.alloc (.cells vs t)).heap[b]? = w.heap[b]? := fun b hb=>bd8 w _ b hb;have bb6:(w.alloc (.cells vs t)).heap[w.heap.size]? = some (.cells vs t (0,0)):=by show (w.heap.push _)[w.heap.size]? = _;simp
  have hdn:g.dom nid=false:=by
    cases hd:g.dom nid with
    | false=>rfl
    | true=>exact absurd hn ((r.dom nid).1 hd)
  let g' : G := { g with wr:=fun b=>if b=w.heap.size then true else g.wr b,nd:=fun b=>if b=w.heap.size then none else g.nd b,loc:=fun id=>if id=nid then w.heap.size else g.loc id,
                         dom:=fun id=>if id=nid then true else g.dom id,top:=max g.top (nid.gen+1) }
  have hx:Ext g w g' (w.alloc (.cells vs t)):=by
    refine ⟨rfl,rfl,rfl,b_,fun _=>w7 _,?_,⟨?_,?_⟩,?_,bV6 _ _⟩
    · intro b o ho
      have hb:=r.bx8 (b:=b) a_
      grind [World.cell?_alloc_lt]
    · grind
    · grind
    · grind
  refine ⟨g',hx,?_,?_⟩
  · have ab2:∀ id cs',p8 h nid (.box cs) id=some (.box cs')->(id=nid/\cs'=cs)\/(id≠nid/\h id=some (.box cs')):=by
      intro id cs' e;by_cases hid:id=nid
      · subst hid;simp [p8] at e;exact .inl ⟨rfl,e.symm⟩
      · simp [p8,hid] at e;exact .inr ⟨hid,e⟩
    have aa4:∀ id n k,p8 h nid (.box cs) id=some (.tok n k)->id≠nid/\h id=some (.tok n k):=by
      intro id n k e;by_cases hid:id=nid
      · subst hid;simp [p8] at e
      · simp [p8,hid] at e;exact ⟨hid,e⟩
    have bb5:∀ id,id≠nid->g'.loc id=g.loc id:=fun id hid=>by grind
    have bJ1:g'.loc nid=w.heap.size:=by show (if nid=nid then w.heap.size else g.loc nid)=_;rw [B8 rfl]
    refine ⟨?_,?_,?_,?_,?_,?_,?_,r.bp3 ?_,?_,?_⟩
    · intro id
      show (if id=nid then true else g.dom id)=true↔p8 h nid (.box cs) id≠none;by_cases hid:id=nid
      · simp [p8,hid]
      · simp only [p8,y9 hid];exact r.dom id
    · intro id hid
      show id.gen<max g.top (nid.gen+1);by_cases e:id=nid
      · subst e;omega
      · simp only [p8,y9 e] at hid
        have:=r.top id hid;omega
    · intro id cs' e
      rcases ab2 id cs' e with ⟨rfl,rfl⟩|⟨hid,e'⟩
      · refine ⟨vs,⟨t,by rw [bJ1];exact bb6⟩,Nat.le_of_eq hv.1.symm,(hv.mono hx).2,?_,?_⟩
        · rw [bJ1];exact r.B3 _ (w7 _)
        · exact ⟨by grind,by grind⟩
      · obtain ⟨vs',⟨ty,h1⟩,h2,h3,h4,h5⟩:=r.box id cs' e'
        have hlt:=r.lt e';refine ⟨vs',⟨ty,by grind⟩,h2,fun i c v a b=>(h3 i c v a b).mono hx,by grind,?_⟩;rw [bb5 id hid];exact ⟨by show (if g.loc id=w.heap.size then true else g.wr (g.loc id))=true;rw [y9 a_];exact h5.1,by show (if g.loc id=w.heap.size then none else g.nd (g.loc id))=none;rw [y9 a_];exact h5.2⟩
    · intro id id' c1 c2 e1 e2 e
      rcases ab2 id c1 e1 with ⟨rfl,rfl⟩|⟨hid,e1'⟩<;>rcases ab2 id' c2 e2 with ⟨rfl,rfl⟩|⟨aP2,e2'⟩
      · rfl
      · rw [bJ1,bb5 id' aP2] at e;have:=r.lt e2';omega
      · rw [bJ1,bb5 id hid] at e;have:=r.lt e1';omega
      · rw [bb5 id hid,bb5 id' aP2] at e;exact r.inj id id' c1 c2 e1' e2' e
    · intro id n k e
      obtain ⟨hid,e'⟩:=aa4 id n k e;obtain ⟨h1,h2,h3,hk⟩:=r.tok id n k e';refine ⟨h1,h2,fun hlt=>?_,hk⟩;obtain ⟨b,off,vs',s1,⟨ty,s2⟩,s3,s4,s5⟩:=h3 hlt;have hb:b<w.heap.size:=(Z3.1 s2).1;exact ⟨b,off,vs',s1,⟨ty,by grind⟩,s3,s4,⟨by show (if b=w.heap.size then true else g.wr b)=true;rw [y9 a_];exact s5.1,by show (if b=w.heap.size then none else g.nd b)=none;rw [y9 a_];exact s5.2⟩⟩
    · intro id id' n k c e hlt e2 a ha
      obtain ⟨hid,e'⟩:=aa4 id n k e;rcases ab2 id' c e2 with ⟨rfl,rfl⟩|⟨aP2,e2'⟩
      · obtain ⟨_,_,h3,_⟩:=r.tok id n k e'
        obtain ⟨a',ha',dv0⟩:=(h3 hlt).lt
        grind
      · rw [bb5 id' aP2];exact r.apart id id' n k c e' hlt e2' a ha
    · intro id id' n n' k k' e hlt e2 an6 a a' ha ha' hab
      exact r.U9 id id' n n' k k' (aa4 id n k e).2 hlt (aa4 id' n' k' e2).2 an6 a a' ha ha' hab
    · intro id l e
      by_cases hid:id=nid
      · grind [p8]
      · simp only [p8,y9 hid] at e
        refine ⟨e,fun hm=>⟨bb5 id hid,hold _ hm.lt,fun hw=>?_⟩⟩
        grind
    · intro b hb
      simp only [bC2] at hb;exact r.B3 b a_
    · intro k cs' e;exact (r.glob k cs' e).mono hx
  · have:RV g' (w.alloc (.cells vs t)) (.pointer (some ⟨g'.loc nid,0,none⟩)) (.ptr nid 0) :=
      .ptr nid 0 (by show (if nid=nid then true else g.dom nid)=true;rw [B8 rfl])
    grind

theorem bc4 {env:Nat->Option (List V)} (r:Rel env g w h) (vs:Array Value) (t:TypeId) :
    ∃ g',Ext g w g' (w.alloc (.cells vs t))/\Rel env g' (w.alloc (.cells vs t)) h/\g'.lim w.heap.size=vs.size:=by
  have hold:∀ b,b<w.heap.size->(w.alloc (.cells vs t)).heap[b]? = w.heap[b]? := fun b hb=>bd8 w _ b hb
  let g':G:={ g with lim:=fun b=>if b=w.heap.size then vs.size else g.lim b }
  have S9:∀ b,b≠w.heap.size->g'.lim b=g.lim b:=fun b hb=>by grind
  have hx:Ext g w g' (w.alloc (.cells vs t)):=by
    refine ⟨rfl,rfl,rfl,b_,?_,?_,?_,?_,w7 _⟩
    · intro b
      by_cases hb:b=w.heap.size
      · have:=r.B3 b a_;omega
      grind
    · intro b o ho
      have hb:=r.bx8 (b:=b) a_
      grind [World.cell?_alloc_lt]
    · grind
    · grind
  refine ⟨g',hx,?_,by grind⟩;refine ⟨r.dom,r.top,?_,r.inj,?_,r.apart,r.U9,r.bp3 fun id l e=>⟨e,fun hm=>⟨rfl,hold _ hm.lt,fun a=>a⟩⟩,?_,fun k cs' e=>(r.glob k cs' e).mono hx⟩
  · intro id cs' e'
    obtain ⟨vs',⟨ty,h1⟩,h2,h3,h4,h5⟩:=r.box id cs' e';exact ⟨vs',⟨ty,by grind⟩,h2,fun i c v a b=>(h3 i c v a b).mono hx,
      by grind,h5⟩
  · intro id n k e'
    obtain ⟨h1,h2,h3,hk⟩:=r.tok id n k e';refine ⟨h1,h2,fun hlt=>?_,hk⟩;obtain ⟨b,off,vs',s1,⟨ty,s2⟩,s3,s4,s5⟩:=h3 hlt;exact ⟨b,off,vs',s1,⟨ty,by grind⟩,s3,by grind,s5⟩
  · intro b hb
    simp only [bC2] at hb;rw [S9 b a_];exact r.B3 b a_

variable {o:Obj}
theorem A1:p8 h id o id=some o:=by simp [p8]
theorem m7 {id':Id} (hne:id'≠id):p8 h id o id'=h id':=by simp [p8,hne]
def bW6 (g:G) (w:World) (vs:Array Value) (cs:List V):Prop:=cs.length<=vs.size/\∀ (i:Nat) (c:Value) (v:V),vs[i]? = some c->cs[i]? = some v->RV g w c v
theorem bW6.at (h:bW6 g w vs cs) {i:Nat} (hv:cs[i]? = some v):∃ c,vs[i]? = some c/\RV g w c v:=by
 have hi:i<cs.length:=(F2.1 hv).1;have hi':i<vs.size:=aA3 hi h.1;exact ⟨vs[i],aW1 hi',h.2 i _ v (aW1 hi') hv⟩
theorem dj2 {env:Nat->Option (List V)} (r:Rel env g w h) {cs0:List V} (h0:h id=some (.box cs0))
 (hv:cs.length<=vs.size/\∀ (i:Nat) (c:Value) (v:V),vs[i]? = some c->cs[i]? = some v->RV g w c v) :
  Ext g w g (w.setRow (g.loc id) vs)/\Rel env g (w.setRow (g.loc id) vs) (p8 h id (.box cs)):=by
 obtain ⟨vs0,⟨ty,hb1⟩,hb2,hb3,hb4,hb5⟩:=r.box id cs0 h0;have hold:∀ b,b≠g.loc id->(w.setRow (g.loc id) vs).heap[b]? = w.heap[b]? := fun b hb=>setRow_other w _ _ vs hb;have bb6:=setRow_heap w (g.loc id) vs0 vs ty (0,0) hb1;have hx:Ext g w g (w.setRow (g.loc id) vs):=by
  refine ⟨rfl,rfl,rfl,b_,fun _=>w7 _,?_,?_,fun id h=>⟨h,rfl,.inl rfl⟩,w7 _⟩
  ·grind [cell_setRow_other]
  ·exact ⟨fun b _ hw=>⟨hold b (by intro e;rw [e,hb5.1] at hw;grind),hw⟩,fun b ok _ _ _ hn=>⟨.inl (hold b (by intro e;rw [e,hb5.2] at hn;cases hn)),hn⟩⟩
 have ab2:∀ id' cs',p8 h id (.box cs) id'=some (.box cs')->(id'=id/\cs'=cs)\/(id'≠id/\h id'=some (.box cs')):=by
  intro id' cs' e;by_cases hid:id'=id
  ·subst hid;simp [p8] at e;exact .inl ⟨rfl,e.symm⟩
  ·simp [p8,hid] at e;exact .inr ⟨hid,e⟩
 have dd4:∀ id' cs',p8 h id (.box cs) id'=some (.box cs')->∃ cs2,h id'=some (.box cs2):=by
  intro id' cs' e;rcases ab2 id' cs' e with ⟨rfl,rfl⟩|⟨_,e'⟩
  ·exact ⟨_,h0⟩
  ·exact ⟨_,e'⟩
 have aa4:∀ id' n k,p8 h id (.box cs) id'=some (.tok n k)->id'≠id/\h id'=some (.tok n k):=by
  intro id' n k e;by_cases hid:id'=id
  ·subst hid;simp [p8] at e
  ·simp [p8,hid] at e;exact ⟨hid,e⟩
 refine ⟨hx,?_,?_,?_,?_,?_,?_,?_,r.bp3 fun i l e=>?_,?_,fun k cs' e=>(r.glob k cs' e).mono hx⟩
 ·intro id'
  by_cases hid:id'=id
  ·subst hid;simp only [p8,p7];rw [r.dom,h0];simp
  ·simp only [p8,y9 hid];exact r.dom id'
 ·intro id' aP2
  by_cases hid:id'=id
  ·subst hid;exact r.top id' (by rw [h0];simp)
  ·simp only [p8,y9 hid] at aP2;exact r.top id' aP2
 ·intro id' cs' e
  rcases ab2 id' cs' e with ⟨rfl,rfl⟩|⟨hid,e'⟩
  ·exact ⟨vs,⟨ty,bb6⟩,hv.1,fun i c v a b=>(hv.2 i c v a b).mono hx,hb4,hb5⟩
  ·obtain ⟨vs',⟨ty',h1⟩,h2,h3,h4,h5⟩:=r.box id' cs' e'
   have hne:g.loc id'≠g.loc id:=fun e=>hid (r.inj id' id cs' cs0 e' h0 e);exact ⟨vs',⟨ty',by grind⟩,h2,fun i c v a b=>(h3 i c v a b).mono hx,h4,h5⟩
 ·intro i1 i2 c1 c2 e1 e2 e
  obtain ⟨x1,y1⟩:=dd4 i1 c1 e1;obtain ⟨x2,y2⟩:=dd4 i2 c2 e2;exact r.inj i1 i2 x1 x2 y1 y2 e
 ·intro id' n k e
  obtain ⟨hid,e'⟩:=aa4 id' n k e;obtain ⟨h1,h2,h3,hk⟩:=r.tok id' n k e';refine ⟨h1,h2,fun hlt=>?_,hk⟩;obtain ⟨b,off,vs',s1,⟨ty',s2⟩,s3,s4,s5⟩:=h3 hlt;have:=r.apart id' id n k cs0 e' (by grind) h0 _ s1;exact ⟨b,off,vs',s1,⟨ty',by grind⟩,s3,s4,s5⟩
 ·intro i1 i2 n k c e hlt e2
  obtain ⟨x2,y2⟩:=dd4 i2 c e2;exact r.apart i1 i2 n k x2 (aa4 i1 n k e).2 hlt y2
 ·intro i1 i2 n n' k k' e hlt e2 an6
  exact r.U9 i1 i2 n n' k k' (aa4 i1 n k e).2 hlt (aa4 i2 n' k' e2).2 an6
 ·by_cases hid:i=id
  ·grind [p8]
  ·simp only [p8,y9 hid] at e
   exact ⟨e,fun hm=>⟨rfl,hold _ (hm.cells hb1),fun a=>a⟩⟩
 ·intro b hb
  simp only [size_setRow] at hb;exact r.B3 b hb
theorem ce4 (h:cr1 P t=true):∃ k e,P.underlying t=some (.map k e)/\P.underlying k=some (.int .i64)/\P.underlying e=some .bool:=by
 grind [cr1]
theorem dx6 {env:Nat->Option (List V)} (r:Rel env g w h) (hn:h nid=none) (hk:P.underlying k=some (.int .i64)) (he:P.underlying e=some .bool) :
    ∃ g',Ext g w g' (w.alloc (.map #[] 0))/\Rel env g' (w.alloc (.map #[] 0)) (p8 h nid (.map []))/\RV g' (w.alloc (.map #[] 0)) (.map (some w.heap.size)) (.mpr nid):=by
  have hold:∀ b,b<w.heap.size->(w.alloc (.map #[] 0)).heap[b]? = w.heap[b]? := fun b hb=>bd8 w _ b hb;have hdn:g.dom nid=false:=by
    cases hd:g.dom nid with
    | false=>rfl
    | true=>exact absurd hn ((r.dom nid).1 hd)
  let g' : G := { g with wr:=fun b=>if b=w.heap.size then true else g.wr b,loc:=fun id=>if id=nid then w.heap.size else g.loc id,
                         dom:=fun id=>if id=nid then true else g.dom id,top:=max g.top (nid.gen+1) }
  have hx:Ext g w g' (w.alloc (.map #[] 0)):=by
    refine ⟨rfl,rfl,rfl,b_,fun _=>w7 _,?_,⟨?_,?_⟩,?_,bV6 _ _⟩
    · intro b o ho
      have hb:=r.bx8 (b:=b) a_
      grind [World.cell?_alloc_lt]
    · grind
    · grind
    · grind
  have bb5:∀ id,id≠nid->g'.loc id=g.loc id:=fun id hid=>by grind
  have bJ1:g'.loc nid=w.heap.size:=by show (if nid=nid then w.heap.size else g.loc nid)=_;rw [B8 rfl]
  have ab2:∀ id cs',p8 h nid (.map []) id=some (.box cs')->id≠nid/\h id=some (.box cs'):=by
    intro id cs' e;by_cases hid:id=nid
    · subst hid;simp [p8] at e
    · simp [p8,hid] at e;exact ⟨hid,e⟩
  have aa4:∀ id n k,p8 h nid (.map []) id=some (.tok n k)->id≠nid/\h id=some (.tok n k):=by
    intro id n k e;by_cases hid:id=nid
    · subst hid;simp [p8] at e
    · simp [p8,hid] at e;exact ⟨hid,e⟩
  have cp6:∀ id l,p8 h nid (.map []) id=some (.map l)->(id=nid/\l=[])\/(id≠nid/\h id=some (.map l)):=by
    intro id l e;by_cases hid:id=nid
    · subst hid;simp [p8] at e;exact .inl ⟨rfl,e⟩
    · simp [p8,hid] at e;exact .inr ⟨hid,e⟩
  have hwr:∀ b,g.wr b=true->g'.wr b=true:=fun b hb=>by grind
  refine ⟨g',hx,⟨?_,?_,?_,?_,?_,?_,?_,?_,?_,?_⟩,?_⟩
  · intro id
    show (if id=nid then true else g.dom id)=true↔p8 h nid (.map []) id≠none;by_cases hid:id=nid
    · simp [p8,hid]
    · simp only [p8,y9 hid];exact r.dom id
  · intro id hid
    show id.gen<max g.top (nid.gen+1);by_cases e:id=nid
    · subst e;omega
    · simp only [p8,y9 e] at hid
      have:=r.top id hid;omega
  · intro id cs' e
    obtain ⟨hid,e'⟩:=ab2 id cs' e;obtain ⟨vs',⟨ty,h1⟩,h2,h3,h4,h5⟩:=r.box id cs' e';exact ⟨vs',⟨ty,by grind⟩,h2,fun i c v a b=>(h3 i c v a b).mono hx,by grind,by rw [bb5 id hid];exact ⟨hwr _ h5.1,h5.2⟩⟩
  · intro id id' c1 c2 e1 e2 e
    obtain ⟨hid,e1'⟩:=ab2 id c1 e1;obtain ⟨aP2,e2'⟩:=ab2 id' c2 e2;rw [bb5 id hid,bb5 id' aP2] at e;exact r.inj id id' c1 c2 e1' e2' e
  · intro id n k e
    obtain ⟨hid,e'⟩:=aa4 id n k e;obtain ⟨h1,h2,h3,hk⟩:=r.tok id n k e';refine ⟨h1,h2,fun hlt=>?_,hk⟩;obtain ⟨b,off,vs',s1,⟨ty,s2⟩,s3,s4,s5⟩:=h3 hlt;exact ⟨b,off,vs',s1,⟨ty,by grind⟩,s3,s4,⟨hwr _ s5.1,s5.2⟩⟩
  · intro id id' n k c e hlt e2 a ha
    obtain ⟨aP2,e2'⟩:=ab2 id' c e2;rw [bb5 id' aP2];exact r.apart id id' n k c (aa4 id n k e).2 hlt e2' a ha
  · intro id id' n n' k k' e hlt e2 an6 a a' ha ha' hab
    exact r.U9 id id' n n' k k' (aa4 id n k e).2 hlt (aa4 id' n' k' e2).2 an6 a a' ha ha' hab
  · intro id l e
    rcases cp6 id l e with ⟨rfl,rfl⟩|⟨hid,e'⟩
    · rw [bJ1]
      refine ⟨al2.cD1 hk he (World.ownsMap_made w P k _) (fun x=>by simp [Maps.has]) List.Pairwise.nil,by grind,fun id' l' e2 q=>?_⟩;rcases cp6 id' l' e2 with ⟨rfl,_⟩|⟨aP2,e2'⟩
      · rfl
      · rw [bb5 id' aP2] at q;have:=(r.map id' l' e2').1.lt;omega
    · obtain ⟨m1,m2,m3⟩:=r.map id l e'
      rw [bb5 id hid,hold _ m1.lt];refine ⟨m1,hwr _ m2,fun id' l' e2 q=>?_⟩;rcases cp6 id' l' e2 with ⟨rfl,_⟩|⟨aP2,e2'⟩
      · have:=m1.lt;omega
      grind
  · intro b hb
    simp only [bC2] at hb;exact r.B3 b a_
  · intro k cs' e;exact (r.glob k cs' e).mono hx
  · have:RV g' (w.alloc (.map #[] 0)) (.map (some (g'.loc nid))) (.mpr nid) :=
      .mpr nid (by show (if nid=nid then true else g.dom nid)=true;rw [B8 rfl])
    grind

theorem dz5 {env:Nat->Option (List V)} (r:Rel env g w h) {l2:List Int} (h0:h id=some (.map l)) (hg:w.grownBy w' (some (g.loc id))) (hm:al2 (w'.heap[g.loc id]?) l2) :
  Ext g w g w'/\Rel env g w' (p8 h id (.map l2)):=by
 obtain ⟨m1,m2,m3⟩:=r.map id l h0;have hold:∀ b,b<w.heap.size->b≠g.loc id->w'.heap[b]? = w.heap[b]? := fun b hb hne=>hg.block b hb (by simpa using hne);have cp4:∀ (b:Nat) (vs:Array Value) (ty:TypeId) (x:Nat × Nat),w.heap[b]? = some (.cells vs ty x)->w'.heap[b]? = some (.cells vs ty x):=fun b vs ty x hb=>by
  rw [hold b (Z3.1 hb).1 (fun e=>m1.cells hb e.symm)];exact hb
 have hx:Ext g w g w':=by
  refine ⟨hg.os,hg.tape,hg.output,hg.size,fun _=>w7 _,?_,⟨fun b hb hw=>⟨hold b hb (by grind),hw⟩,fun b ok vs ty hb hn=>⟨.inl (by rw [cp4 _ _ _ _ hb,hb]),hn⟩⟩,fun id h=>⟨h,rfl,.inl rfl⟩,w7 _⟩;intro b o ho;have hb:=r.bx8 (b:=b) a_;by_cases hne:b=g.loc id
  ·obtain ⟨es',c',_,_,_,q2,_⟩:=hm
   grind [World.cell?]
  ·grind [World.cell?]
 have ab2:∀ id' cs',p8 h id (.map l2) id'=some (.box cs')->id'≠id/\h id'=some (.box cs'):=by
  intro id' cs' e;by_cases hid:id'=id
  ·subst hid;simp [p8] at e
  ·simp [p8,hid] at e;exact ⟨hid,e⟩
 have aa4:∀ id' n k,p8 h id (.map l2) id'=some (.tok n k)->h id'=some (.tok n k):=by
  intro id' n k e;by_cases hid:id'=id
  ·subst hid;simp [p8] at e
  ·simp [p8,hid] at e;exact e
 have cp6:∀ id' l',p8 h id (.map l2) id'=some (.map l')->(id'=id/\l'=l2)\/(id'≠id/\h id'=some (.map l')):=by
  intro id' l' e;by_cases hid:id'=id
  ·subst hid;simp [p8] at e;exact .inl ⟨rfl,e.symm⟩
  ·simp [p8,hid] at e;exact .inr ⟨hid,e⟩
 refine ⟨hx,?_,?_,?_,?_,?_,?_,?_,?_,?_,fun k cs' e=>(r.glob k cs' e).mono hx⟩
 ·intro id'
  by_cases hid:id'=id
  ·subst hid;simp only [p8,p7];rw [r.dom,h0];simp
  ·simp only [p8,y9 hid];exact r.dom id'
 ·intro id' aP2
  by_cases hid:id'=id
  ·subst hid;exact r.top id' (by rw [h0];simp)
  ·simp only [p8,y9 hid] at aP2;exact r.top id' aP2
 ·intro id' cs' e
  obtain ⟨hid,e'⟩:=ab2 id' cs' e;obtain ⟨vs',⟨ty',h1⟩,h2,h3,h4,h5⟩:=r.box id' cs' e';exact ⟨vs',⟨ty',cp4 _ _ _ _ h1⟩,h2,fun i c v a b=>(h3 i c v a b).mono hx,h4,h5⟩
 ·intro i1 i2 c1 c2 e1 e2 e
  exact r.inj i1 i2 c1 c2 (ab2 i1 c1 e1).2 (ab2 i2 c2 e2).2 e
 ·intro id' n k e
  obtain ⟨h1,h2,h3,hk⟩:=r.tok id' n k (aa4 id' n k e);refine ⟨h1,h2,fun hlt=>?_,hk⟩;obtain ⟨b,off,vs',s1,⟨ty',s2⟩,s3,s4,s5⟩:=h3 hlt;exact ⟨b,off,vs',s1,⟨ty',cp4 _ _ _ _ s2⟩,s3,s4,s5⟩
 ·intro i1 i2 n k c e hlt e2
  exact r.apart i1 i2 n k c (aa4 i1 n k e) hlt (ab2 i2 c e2).2
 ·intro i1 i2 n n' k k' e hlt e2 an6
  exact r.U9 i1 i2 n n' k k' (aa4 i1 n k e) hlt (aa4 i2 n' k' e2) an6
 ·intro id' l' e
  rcases cp6 id' l' e with ⟨rfl,rfl⟩|⟨hid,e'⟩
  ·grind
  ·obtain ⟨a1,a2,a3⟩:=r.map id' l' e'
   have hne:g.loc id'≠g.loc id:=fun e=>hid (a3 id l h0 e);refine ⟨by rw [hold _ a1.lt hne];exact a1,a2,fun i2 l3 e2 q=>?_⟩
   grind
 ·intro b hb
  exact r.B3 b (S1 hg.size hb)
theorem Sim.br2 {env:Nat->Option (List V)} {s:Sem Next} {rs:List Id} (r:Rel env g w h) (x:aD6 P g w s v) :
  Sim P env g w h s ⟨v,rs,[]⟩:=by
 obtain ⟨c,h1,h2⟩:=x;exact ⟨c,w,g,.inl h1,Ext.refl g w,r,h2⟩
theorem bz0 (h:RV g w c v) (ho:am9 v=true):c.oneCell'=true:=by
 cases h<;>first|rfl|simp [am9] at ho
section
variable {P:Program} {env:Nat->Option (List V)} {g:G} {w:World} {h:H} {ρc:Operand->Value} {ρ:Operand->V} (r:Rel env g w h) (hρ:∀ x,RV g w (ρc x) (ρ x))
include r hρ
variable {o:Oper} {eff:Eff}
omit hρ in
theorem du5 (ho:o.op=.alloc t) (he:O6 P ρ h nid o.op=some eff):Sim P env g w h (execOp ρc o) eff:=by
 rw [ho] at he;simp only [O6] at he;split at he
 case h_2=>simp at he
 rename_i i hi hn;cases he;obtain ⟨inf,d,z,h1,h2,h0,_,_,_,hz,_⟩:=R1 hi;obtain ⟨g',hx,hr,hv⟩:=br0 r hn (aP8 g w z.cells) t;rw [<- hz] at hr;refine ⟨_,_,g',.inl ?_,hx,hr,hv⟩;simp [execOp,ho,Instr.alloc,zeroValue,typeInfo,h1,h0,newVar,newRow]
theorem dV5 {x:Operand} (ho:o.op=.box t x) (he:O6 P ρ h nid o.op=some eff):Sim P env g w h (execOp ρc o) eff:=by
 rw [ho] at he;simp only [O6] at he;split at he
 ·cases hc:cellsOf (ρ x) with
  | none=>rw [hc] at he;cases he
  | some cs =>
   rw [hc] at he;simp only [bo9,S6] at he;subst he;have hcv:=aP7 (hρ x) hc;obtain ⟨g',hx,hr,hl⟩:=bc4 r (ρc x).cells t;refine ⟨.pointer (some ⟨w.heap.size,0+0,none⟩),_,g',.inl ?_,hx,hr,?_⟩
   ·simp [execOp,ho,Instr.box,newVar,newRow]
   ·refine .el w.heap.size 0 cs 0 (fun i=>(ρc x).cells[i]?.getD undef) (by rw [hl,hcv.1];omega) (fun i hi=>?_) (fun i v hv=>?_)
    ·rw [aW6,aW2,aW1 (by rw [hcv.1];exact hi)];simp
    ·obtain ⟨c,hc1,hc2⟩:=(RVL.mono hx hcv).at hv
     grind
 split at he
 case h_2=>simp at he
 rename_i cs hc hn;cases he;obtain ⟨g',hx,hr,hv⟩:=br0 r hn (aP7 (hρ x) hc) t;refine ⟨_,_,g',.inl ?_,hx,hr,hv⟩;simp [execOp,ho,Instr.box,newVar,newRow]
omit r hρ in
theorem bd3 (hi:tyi P t=some i) (hp:af8 i.agg i.size cs off=some v)
  {base:Nat} {cell:Nat->Value} (ac8:∀ j,j<cs.length->w.cell? ⟨b,base+j,none⟩=some (cell j))
  (hr:∀ (j:Nat) (v:V),cs[j]? = some v->RV g w (cell j) v) :
  ∃ c,(loadVar t ⟨b,base+off,none⟩).run P w=.ok c w/\RV g w c v:=by
 obtain ⟨inf,d,z,h1,h2,h0,hs,_,ha,_⟩:=R1 hi;unfold af8 at hp;split at hp
 ·simp at hp
 ·rw [ha] at hp
  cases hag:aD7 P t with
  | true =>
   simp only [hag,p7] at hp;split at hp
   ·rename_i hl
    cases hp;have dX1:(loadCells ⟨b,base+off,none⟩ inf.size).run P w=.ok ((List.range inf.size).map fun j=>cell (off+j)).toArray w:=by
     apply run_loadCells;intro j hj;rw [av5,aL8];exact ac8 (off+j) a_
    refine ⟨.agg ((List.range inf.size).map fun j=>cell (off+j)).toArray,by simp [loadVar,aK2 h2,hag,G2 h1,dX1],?_⟩;refine .agg _ _ (by simp;omega) fun j c v hc hv=>?_
    grind
   ·simp at hp
  | false =>
   simp only [hag,B2,r6] at hp;have hlt:off<cs.length:=by
    rcases R0 off cs.length with h'|h'
    ·exact h'
    ·simp [cw7 h'] at hp
   exact ⟨cell off,by simp [loadVar,aK2 h2,hag,ac8 off hlt],hr _ _ hp⟩
theorem dL9 {x:Operand} (ho:o.op=.load t x) (he:O6 P ρ h nid o.op=some eff):Sim P env g w h (execOp ρc o) eff:=by
  rw [ho] at he;simp only [O6] at he;have hx:=hρ x;split at he
  · rename_i i id off hi hv
    split at he
    case h_2=>simp at he
    rename_i cs hb;cases hp:af8 i.agg i.size cs off with
    | none=>simp [hp] at he
    | some v =>
      simp [hp] at he;subst he;rw [hv] at hx;cases hc:ρc x<;>rw [hc] at hx<;>cases hx
      obtain ⟨vs,⟨ty,hb1⟩,hb2,hb3,_,_⟩:=r.box id cs hb;obtain ⟨c,h1,h2⟩:=bd3 (P:=P) (g:=g) (w:=w) hi hp (b:=g.loc id) (base:=0) (cell:=fun j=>vs[j]?.getD undef)
        (by grind [World.cell?])
        (by
          grind)
      rw [aW6] at h1;exact Sim.br2 r ⟨c,by simp [execOp,ho,Instr.loadAt,Instr.sureAddr,hc,h1],h2⟩
  · rename_i i cs off hi hv
    cases hp:af8 i.agg i.size cs off with
    | none=>simp [hp] at he
    | some v =>
      simp [hp] at he;subst he;rw [hv] at hx;cases hc:ρc x<;>rw [hc] at hx<;>cases hx
      rename_i b base cell hl F5 hrr;obtain ⟨c,h1,h2⟩:=bd3 (P:=P) (g:=g) (w:=w) hi hp (b:=b) (base:=base) (cell:=cell) F5 hrr;exact Sim.br2 r ⟨c,by simp [execOp,ho,Instr.loadAt,Instr.sureAddr,hc,h1],h2⟩
  · rename_i i cs okk off hi hv
    cases hp:af8 i.agg i.size cs off with
    | none=>simp [hp] at he
    | some v =>
      simp [hp] at he;subst he;rw [hv] at hx;generalize hc:ρc x=cx at hx;cases hx with|nd b _ _ _ cell hok hl F5 hrr hf=>?_
      obtain ⟨c,h1,h2⟩:=bd3 (P:=P) (g:=g) (w:=w) hi hp (b:=b) (base:=0) (cell:=cell) (by simpa using F5) hrr;rw [aW6] at h1;exact Sim.br2 r ⟨c,by simp [execOp,ho,Instr.loadAt,Instr.sureAddr,hc,h1],h2⟩
  · simp at he

omit r hρ in
theorem ch1 {nw:Array Value} {new:List V} (h1:bW6 g w vs cs) (h2:RVL g w nw new) (hl:off+new.length<=cs.length) :
  bW6 g w (vs.toList.take off++nw.toList++vs.toList.drop (off+nw.toList.length)).toArray (G8 cs off new):=by
 have hs:∀ (new:List V) (off:Nat) (cs:List V),off+new.length<=cs.length->G8 cs off new=cs.take off++new++cs.drop (off+new.length):=by
  intro new
  induction new with
  | nil=>simp [G8]
  | cons v new ih =>
   intro off cs hl;simp only [J1] at hl;rw [G8,ih (off+1) (cs.set off v) (by simp;omega)];have e:cs.set off v=cs.take off++v::cs.drop (off+1):=by rw [cw3,B8 a_]
   have el:(cs.take off).length=off:=by simp;omega
   have t1:(cs.take off++v::cs.drop (off+1)).take (off+1)=cs.take off++[v]:=by
    have:=List.take_length_add_append (l₁:=cs.take off) (l₂:=v::cs.drop (off+1)) 1;rw [el] at this;rw [this];simp
   have t2:(cs.take off++v::cs.drop (off+1)).drop (off+1+new.length)=cs.drop (off+(new.length+1)):=by
    have:=List.drop_length_add_append (l₁:=cs.take off) (l₂:=v::cs.drop (off+1)) (1+new.length);rw [el] at this;rw [show off+1+new.length=off+(1+new.length) by omega,this,show 1+new.length=new.length+1 by omega];simp [aL8,Nat.add_comm 1]
   simp_all
 rw [hs new off cs hl];have e2:=h2.1;have h11:=h1.1;refine ⟨by simp;omega,fun i c v hc hv=>?_⟩;have hl2:nw.toList.length=new.length:=by simpa using e2
 simp only [bB8] at hc;rw [aC4] at hc hv;by_cases c1:i<off
 ·rw [aA2 (by simp;omega),be2,B8 c1] at hc
  rw [aA2 (by simp;omega),be2,B8 c1] at hv;exact h1.2 i c v (by simpa using hc) hv
 ·rw [aA1 (by simp;omega)] at hc hv
  have ea:(vs.toList.take off).length=off:=by simp;omega
  have eb:(cs.take off).length=off:=by simp;omega
  rw [ea] at hc;rw [eb] at hv;by_cases c2:i - off<new.length
  ·rw [aA2 a_] at hc hv
   exact h2.2 _ c v (by simpa using hc) hv
  ·rw [aA1 a_,List.getElem?_drop] at hc hv
   rw [hl2] at hc;exact h1.2 _ c v (by simpa using hc) hv
theorem du6 {x y:Operand} (ho:o.op=.store t x y) (he:O6 P ρ h nid o.op=some eff):Sim P env g w h (execOp ρc o) eff:=by
 rw [ho] at he;simp only [O6] at he;have hx:=hρ x;split at he
 case h_2=>simp at he
 rename_i i id off xs hi hv hcx;split at he
 case h_2=>simp at he
 rename_i cs hb;split at he
 case isFalse=>simp at he
 rename_i hk;cases he;obtain ⟨inf,d,z,h1,h2,h0,hs,_,ha,_⟩:=R1 hi;rw [hv] at hx;cases hc:ρc x<;>rw [hc] at hx<;>cases hx
 obtain ⟨vs,⟨ty,hb1⟩,hb2,hb3,_,_⟩:=r.box id cs hb;have hy:=aP7 (hρ y) hcx;have dM8:∀ v∈(ρc y).cells.toList,v.oneCell'=true:=by
  intro v hv;obtain ⟨j,hj,e⟩:=List.mem_iff_getElem.1 hv;have hj':j<xs.length:=by rw [<- hy.1];simpa using hj
  have hxs:xs[j]? = some xs[j]:=by simp [hj']
  have hcs:(ρc y).cells[j]? = some v:=by
   have:(ρc y).cells.toList[j]? = some v:=by rw [W4 hj,e]
   simpa using this
  have hrv:=hy.2 j v xs[j] hcs hxs;have:=hk.2.2;rw [ad2] at this;exact bz0 hrv (this _ (bo8 hj'))
 have hst:=run_storeCells_at (P:=P) (g.loc id) off ty (ρc y).cells.toList 0 vs w hb1 (by have:=hy.1;simp;omega) dM8;have bb6:=ch1 (off:=off) ⟨hb2,hb3⟩ hy hk.2.1;obtain ⟨hx',hr'⟩:=dj2 r hb bb6;refine ⟨undef,_,g,.inr ⟨?_,rfl⟩,hx',hr',.undef _⟩;simp only [aQ8] at hst;have e1:(ρc y).cells.size=inf.size:=by rw [hy.1,hk.1,hs]
 simp [execOp,ho,Instr.storeAt,Instr.sureAddr,hc,storeVar,G2 h1,e1]
 simp_all
omit hρ in
theorem cM1 {room:Option Operand} (ho:o.op=.makeMap t room) (he:O6 P ρ h nid o.op=some eff):Sim P env g w h (execOp ρc o) eff:=by
 rw [ho] at he;simp only [O6] at he;split at he
 case h_2=>simp at he
 rename_i hm hn;cases he;obtain ⟨k,e,h1,h2,h3⟩:=ce4 hm;obtain ⟨g',hx,hr,hv⟩:=dx6 r hn h2 h3;refine ⟨_,_,g',.inl ?_,hx,hr,hv⟩;simp [execOp,ho,Instr.makeMap]
theorem cc3 {m x y:Operand} (ho:o.op=.mapUpdate t m x y) (he:O6 P ρ h nid o.op=some eff):Sim P env g w h (execOp ρc o) eff:=by
 rw [ho] at he;simp only [O6] at he;have h1:=hρ m;have h2:=hρ x;have h3:=hρ y;split at he
 case h_2=>simp at he
 rename_i id n b hm em ex ey;split at he
 case h_2=>simp at he
 rename_i l hl;unfold bS3 at he;split at he
 case isFalse=>simp at he
 rename_i hb;simp only [bo9,S6] at he;subst he;rw [em] at h1;rw [ex] at h2;rw [ey] at h3;cases hc1:ρc m<;>rw [hc1] at h1<;>cases h1
 cases hc2:ρc x<;>rw [hc2] at h2<;>cases h2
 cases hc3:ρc y<;>rw [hc3] at h3<;>cases h3
 obtain ⟨k,e,q1,q2,q3⟩:=ce4 hm;obtain ⟨m1,_,_⟩:=r.map id l hl;obtain ⟨w',u1,u2,u3⟩:=m1.update q1 q2 q3 hb.2 hb.1 b;obtain ⟨hx',hr'⟩:=dz5 r hl u3 u2;refine ⟨undef,_,g,.inr ⟨?_,rfl⟩,hx',hr',.undef _⟩;simp [execOp,ho,hc1,hc2,hc3,u1]
end
theorem dv8 (e:h id=some o):p8 h id o=h:=by
 grind [p8]
variable {cap k:Nat}
theorem grow {env:Nat->Option (List V)} (r:Rel env g w h) {nn:Nat}
    (hid:h id=none\/∃ n0 k0,h id=some (.tok n0 k0)/\n0<nn) {arr:Array Value} (elem:TypeId) (bE5:arr.size=cap * k) (hle:nn<=cap) :
    ∃ g',Ext g w g' (w.drew.alloc (.cells arr elem))/\Rel env g' (w.drew.alloc (.cells arr elem)) (p8 h id (.tok nn k))/\g'.dom id=true /\
      g'.buf id=⟨some ⟨w.heap.size,0,none⟩,nn,cap,k⟩/\g'.lim w.heap.size=nn * k:=by
  have hold:∀ b,b<w.heap.size->(w.drew.alloc (.cells arr elem)).heap[b]? = w.heap[b]? := fun b hb=>bd8 w.drew _ b hb;have bb6:(w.drew.alloc (.cells arr elem)).heap[w.heap.size]? = some (.cells arr elem (0,0)):=by show (w.heap.push _)[w.heap.size]? = _;simp
  let g' : G := { g with lim:=fun b=>if b=w.heap.size then nn * k else g.lim b,wr:=fun b=>if b=w.heap.size then true else g.wr b,nd:=fun b=>if b=w.heap.size then none else g.nd b,
                         buf:=fun i=>if i=id then ⟨some ⟨w.heap.size,0,none⟩,nn,cap,k⟩ else g.buf i,
                         dom:=fun i=>if i=id then true else g.dom i,top:=max g.top (id.gen+1) }
  have S9:∀ b,b≠w.heap.size->g'.lim b=g.lim b:=fun b hb=>by grind
  have hwr:∀ b,b≠w.heap.size->g'.wr b=g.wr b:=fun b hb=>by grind
  have hnd:∀ b,b≠w.heap.size->g'.nd b=g.nd b:=fun b hb=>by grind
  have ap8:∀ i,i≠id->g'.buf i=g.buf i:=fun i hi=>by grind
  have af5:g'.buf id=⟨some ⟨w.heap.size,0,none⟩,nn,cap,k⟩:=by show (if id=id then _ else g.buf id)=_;rw [B8 rfl]
  have hx : Ext g w g' (w.drew.alloc (.cells arr elem)):=by
    refine ⟨rfl,rfl,rfl,b_,?_,?_,?_,?_,bV6 _ _⟩
    · intro b
      by_cases hb:b=w.heap.size
      · have:=r.B3 b a_;omega
      grind
    · intro b o ho
      have hb:=r.bx8 (b:=b) a_;exact World.cell?_alloc_lt w.drew _ _ hb
    · grind
    · intro i hi
      by_cases e:i=id
      · subst e
        have hne:=(r.dom i).1 hi;rcases hid with hid|⟨n0,k0,hid,hlt⟩
        · exact absurd hid hne
        · refine ⟨by show (if i=i then true else _)=true;rw [B8 rfl],rfl,.inr ?_⟩
          rw [af5,(r.tok i n0 k0 hid).1];exact hlt
      grind
  have ab2:∀ i cs,p8 h id (.tok nn k) i=some (.box cs)->i≠id/\h i=some (.box cs):=by
    intro i cs e;by_cases hi:i=id
    · subst hi;simp [p8] at e
    · simp [p8,hi] at e;exact ⟨hi,e⟩
  have aa4:∀ i n k',p8 h id (.tok nn k) i=some (.tok n k')->(i=id/\n=nn/\k'=k)\/(i≠id/\h i=some (.tok n k')):=by
    intro i n k' e;by_cases hi:i=id
    · subst hi;simp [p8] at e;exact .inl ⟨rfl,e.1.symm,e.2.symm⟩
    · simp [p8,hi] at e;exact .inr ⟨hi,e⟩
  refine ⟨g',hx,?_,by grind,af5,by grind⟩;refine ⟨?_,?_,?_,?_,?_,?_,?_,r.bp3 fun i l e=>?_,?_,fun k cs' e=>(r.glob k cs' e).mono hx⟩
  · intro i
    show (if i=id then true else g.dom i)=true↔p8 h id (.tok nn k) i≠none;by_cases hi:i=id
    · simp [p8,hi]
    · simp only [p8,y9 hi];exact r.dom i
  · intro i hi
    show i.gen<max g.top (id.gen+1);by_cases e:i=id
    · subst e;omega
    · simp only [p8,y9 e] at hi
      have:=r.top i hi;omega
  · intro i cs e
    obtain ⟨hi,e'⟩:=ab2 i cs e;obtain ⟨vs',⟨ty,h1⟩,h2,h3,h4,h5⟩:=r.box i cs e';have hlt:=r.lt e';exact ⟨vs',⟨ty,by grind⟩,h2,fun i c v a b=>(h3 i c v a b).mono hx,
      by grind,⟨by rw [hwr _ (show g.loc i≠_ by omega)];exact h5.1,by rw [hnd _ (show g.loc i≠_ by omega)];exact h5.2⟩⟩
  · intro i1 i2 c1 c2 e1 e2 e
    exact r.inj i1 i2 c1 c2 (ab2 i1 c1 e1).2 (ab2 i2 c2 e2).2 e
  · intro i n k' e
    rcases aa4 i n k' e with ⟨rfl,rfl,rfl⟩|⟨hi,e'⟩
    · rw [af5]
      refine ⟨rfl,hle,fun _=>⟨w.heap.size,0,arr,by rw [af5],⟨elem,bb6⟩,by grind,by grind,⟨by grind,by grind⟩⟩,rfl⟩
    · obtain ⟨h1,h2,h3,hk⟩:=r.tok i n k' e'
      rw [ap8 i hi];refine ⟨h1,h2,fun hlt=>?_,hk⟩;obtain ⟨b,off,vs',s1,⟨ty,s2⟩,s3,s4,s5⟩:=h3 hlt;have hb:b<w.heap.size:=(Z3.1 s2).1;exact ⟨b,off,vs',by grind,⟨ty,by grind⟩,by grind,by grind,⟨by rw [hwr b a_];exact s5.1,by rw [hnd b a_];exact s5.2⟩⟩
  · intro i i' n k' c e hlt e2 a ha
    obtain ⟨hi',e2'⟩:=ab2 i' c e2;have hl:=r.lt e2';rcases aa4 i n k' e with ⟨rfl,rfl,rfl⟩|⟨hi,e'⟩
    · grind
    · rw [ap8 i hi] at ha hlt;exact r.apart i i' n k' c e' hlt e2' a ha
  · intro i i' n n' k1 k2 e hlt e2 an6 a a' ha ha' hab
    rcases aa4 i n k1 e with ⟨rfl,rfl,rfl⟩|⟨hi,e'⟩<;>rcases aa4 i' n' k2 e2 with ⟨rfl,rfl,rfl⟩|⟨hi',e2'⟩
    · rfl
    · rw [ap8 i' hi'] at ha' an6
      obtain ⟨_,_,h3,_⟩:=r.tok i' n' k2 e2';obtain ⟨x,hx1,hx2⟩:=(h3 an6).lt
      grind
    · rw [ap8 i hi] at ha hlt
      obtain ⟨_,_,h3,_⟩:=r.tok i n k1 e';obtain ⟨x,hx1,hx2⟩:=(h3 hlt).lt
      grind
    · rw [ap8 i hi] at ha hlt;rw [ap8 i' hi'] at ha' an6
      exact r.U9 i i' n n' k1 k2 e' hlt e2' an6 a a' ha ha' hab
  · by_cases hi:i=id
    · grind [p8]
    · simp only [p8,y9 hi] at e
      exact ⟨e,fun hm=>⟨rfl,hold _ hm.lt,fun a=>by grind⟩⟩
  · intro b hb
    simp only [bC2,World.size_drew] at hb;rw [S9 b a_];exact r.B3 b a_

theorem dS2 {env:Nat->Option (List V)} (r:Rel env g w h) (hid:h id=none) (a:Option Addr) (nn k:Nat) :
  ∃ g',Ext g w g' w/\Rel env g' w (p8 h id (.tok nn k))/\g'.dom id=true/\g'.buf id=⟨a,nn,nn,k⟩/\g'.lim=g.lim:=by
 have hdn:g.dom id=false:=by
  cases hd:g.dom id with
  | false=>rfl
  | true=>exact absurd hid ((r.dom id).1 hd)
 let g':G:={ g with buf:=fun i=>if i=id then ⟨a,nn,nn,k⟩ else g.buf i,dom:=fun i=>if i=id then true else g.dom i,top:=max g.top (id.gen+1) }
 have ap8:∀ i,i≠id->g'.buf i=g.buf i:=fun i hi=>by show (if i=id then _ else g.buf i)=_;rw [y9 hi]
 have af5:g'.buf id=⟨a,nn,nn,k⟩:=by show (if id=id then _ else g.buf id)=_;rw [B8 rfl]
 have hx:Ext g w g' w:=by
  refine ⟨rfl,rfl,rfl,w7 _,fun _=>w7 _,fun _ _ _=>rfl,⟨fun _ _ h=>⟨rfl,h⟩,fun _ _ _ _ _ h=>⟨.inl rfl,h⟩⟩,?_,bV6 _ _⟩;intro i hi;have e:i≠id:=by intro e;rw [e,hdn] at hi;exact Bool.noConfusion hi
  exact ⟨by show (if i=id then true else g.dom i)=true;rw [y9 e];exact hi,rfl,.inl (ap8 i e)⟩
 have ab2:∀ i cs,p8 h id (.tok nn k) i=some (.box cs)->i≠id/\h i=some (.box cs):=by
  intro i cs e;by_cases hi:i=id
  ·subst hi;simp [p8] at e
  ·simp [p8,hi] at e;exact ⟨hi,e⟩
 have aa4:∀ i n k',p8 h id (.tok nn k) i=some (.tok n k')->(i=id/\n=nn/\k'=k)\/(i≠id/\h i=some (.tok n k')):=by
  intro i n k' e;by_cases hi:i=id
  ·subst hi;simp [p8] at e;exact .inl ⟨rfl,e.1.symm,e.2.symm⟩
  ·simp [p8,hi] at e;exact .inr ⟨hi,e⟩
 refine ⟨g',hx,?_,by show (if id=id then true else _)=true;rw [B8 rfl],af5,rfl⟩;refine ⟨?_,?_,?_,?_,?_,?_,?_,r.bp3 fun i l e=>?_,r.B3,fun k cs' e=>(r.glob k cs' e).mono hx⟩
 ·intro i
  show (if i=id then true else g.dom i)=true↔p8 h id (.tok nn k) i≠none;by_cases hi:i=id
  ·simp [p8,hi]
  ·simp only [p8,y9 hi];exact r.dom i
 ·intro i hi
  show i.gen<max g.top (id.gen+1);by_cases e:i=id
  ·subst e;omega
  ·simp only [p8,y9 e] at hi
   have:=r.top i hi;omega
 ·intro i cs e
  obtain ⟨hi,e'⟩:=ab2 i cs e;obtain ⟨vs',h1,h2,h3,h4,h5⟩:=r.box i cs e';exact ⟨vs',h1,h2,fun i c v a b=>(h3 i c v a b).mono hx,h4,h5⟩
 ·intro i1 i2 c1 c2 e1 e2 e
  exact r.inj i1 i2 c1 c2 (ab2 i1 c1 e1).2 (ab2 i2 c2 e2).2 e
 ·intro i n k' e
  rcases aa4 i n k' e with ⟨rfl,rfl,rfl⟩|⟨hi,e'⟩
  ·rw [af5]
   exact ⟨rfl,w7 _,fun hlt=>absurd hlt (Nat.lt_irrefl _),rfl⟩
  ·obtain ⟨h1,h2,h3,hk⟩:=r.tok i n k' e'
   rw [ap8 i hi];refine ⟨h1,h2,fun hlt=>?_,hk⟩;obtain ⟨b,off,vs',s1,s2,s3,s4,s5⟩:=h3 hlt;exact ⟨b,off,vs',by rw [ap8 i hi];exact s1,s2,by rw [ap8 i hi];exact s3,by rw [ap8 i hi];exact s4,s5⟩
 ·intro i i' n k' c e hlt e2 a' ha
  obtain ⟨hi',e2'⟩:=ab2 i' c e2;rcases aa4 i n k' e with ⟨rfl,rfl,rfl⟩|⟨hi,e'⟩
  ·rw [af5] at hlt;exact absurd hlt (Nat.lt_irrefl _)
  ·rw [ap8 i hi] at ha hlt;exact r.apart i i' n k' c e' hlt e2' a' ha
 ·intro i i' n n' k1 k2 e hlt e2 an6 a1 a2 ha ha' hab
  rcases aa4 i n k1 e with ⟨rfl,rfl,rfl⟩|⟨hi,e'⟩<;>rcases aa4 i' n' k2 e2 with ⟨rfl,rfl,rfl⟩|⟨hi',e2'⟩
  ·rfl
  ·rw [af5] at hlt;exact absurd hlt (Nat.lt_irrefl _)
  ·rw [af5] at an6;exact absurd an6 (Nat.lt_irrefl _)
  ·rw [ap8 i hi] at ha hlt;rw [ap8 i' hi'] at ha' an6
   exact r.U9 i i' n n' k1 k2 e' hlt e2' an6 a1 a2 ha ha' hab
 grind [p8]
theorem advance {env:Nat->Option (List V)} (r:Rel env g w h) {n m:Nat} (hid:h id=some (.tok n k)) (hm:0<m)
 (bb2:g.buf id=⟨some ⟨b,off,none⟩,n,cap,k⟩) (dW0:n+m<=cap) (hvs:bN6 w b vs) (dY6:off+cap * k<=vs.size)
    (hl:g.lim b=off+n * k) (hw:cF9 g b) {new:Array Value} (hsz:new.size=vs.size) (ak2:∀ i,i<off+n * k->new[i]? = vs[i]?) :
    ∃ g',Ext g w g' (w.setRow b new)/\Rel env g' (w.setRow b new) (p8 h id (.tok (n+m) k))/\g'.dom id=true /\
      g'.buf id=⟨some ⟨b,off,none⟩,n+m,cap,k⟩/\g'.lim b=off+(n+m) * k:=by
  obtain ⟨ty,hb1⟩:=hvs;have hold:∀ b',b'≠b->(w.setRow b new).heap[b']? = w.heap[b']? := fun b' hb=>setRow_other w _ _ new hb;have bb6:=setRow_heap w b vs new ty (0,0) hb1;have en4:b<w.heap.size:=(Z3.1 hb1).1;have bE7:g.dom id=true:=(r.dom id).2 (by rw [hid];simp)
  let g' : G := { g with lim:=fun b'=>if b'=b then off+(n+m) * k else g.lim b',
                         buf:=fun i=>if i=id then ⟨some ⟨b,off,none⟩,n+m,cap,k⟩ else g.buf i }
  have S9:∀ b',b'≠b->g'.lim b'=g.lim b':=fun b' hb=>by grind
  have dE1:g'.lim b=off+(n+m) * k:=by show (if b=b then _ else g.lim b)=_;rw [B8 rfl]
  have ap8:∀ i,i≠id->g'.buf i=g.buf i:=fun i hi=>by grind
  have af5:g'.buf id=⟨some ⟨b,off,none⟩,n+m,cap,k⟩:=by show (if id=id then _ else g.buf id)=_;rw [B8 rfl]
  have hx:Ext g w g' (w.setRow b new):=by
    refine ⟨rfl,rfl,rfl,b_,?_,?_,?_,?_,w7 _⟩
    · grind
    · grind [World.cell?]
    · exact ⟨fun b' _ hw'=>⟨hold b' (by intro e;rw [e,hw.1] at hw';grind),hw'⟩,fun b' ok _ _ _ hn=>⟨.inl (hold b' (by intro e;rw [e,hw.2] at hn;cases hn)),hn⟩⟩
    · grind
  have ab2:∀ i cs,p8 h id (.tok (n+m) k) i=some (.box cs)->i≠id/\h i=some (.box cs):=by
    intro i cs e;by_cases hi:i=id
    · subst hi;simp [p8] at e
    · simp [p8,hi] at e;exact ⟨hi,e⟩
  have aa4:∀ i n' k',p8 h id (.tok (n+m) k) i=some (.tok n' k')->(i=id/\n'=n+m/\k'=k)\/(i≠id/\h i=some (.tok n' k')):=by
    intro i n' k' e;by_cases hi:i=id
    · subst hi;simp [p8] at e;exact .inl ⟨rfl,e.1.symm,e.2.symm⟩
    · simp [p8,hi] at e;exact .inr ⟨hi,e⟩
  have dv1:n<(g.buf id).cap:=by rw [bb2];show n<cap;omega
  have hne:∀ i cs,h i=some (.box cs)->g.loc i≠b:=fun i cs e e2=>r.apart id i n k cs hid dv1 e ⟨b,off,none⟩ (by rw [bb2]) e2.symm;refine ⟨g',hx,?_,bE7,af5,dE1⟩;refine ⟨?_,?_,?_,?_,?_,?_,?_,r.bp3 fun i l e=>?_,?_,fun k cs' e=>(r.glob k cs' e).mono hx⟩
  · intro i
    by_cases hi:i=id
    · grind [p8]
    · simp only [p8,y9 hi];exact r.dom i
  · intro i hi
    by_cases e:i=id
    · subst e;exact r.top i (by rw [hid];simp)
    · simp only [p8,y9 e] at hi;exact r.top i hi
  · intro i cs e
    obtain ⟨hi,e'⟩:=ab2 i cs e;obtain ⟨vs',⟨ty',h1⟩,h2,h3,h4,h5⟩:=r.box i cs e';exact ⟨vs',⟨ty',by grind⟩,h2,fun i c v a b=>(h3 i c v a b).mono hx,by grind,h5⟩
  · intro i1 i2 c1 c2 e1 e2 e
    exact r.inj i1 i2 c1 c2 (ab2 i1 c1 e1).2 (ab2 i2 c2 e2).2 e
  · intro i n' k' e
    rcases aa4 i n' k' e with ⟨rfl,rfl,rfl⟩|⟨hi,e'⟩
    · rw [af5]
      exact ⟨rfl,dW0,fun _=>⟨b,off,new,by rw [af5],⟨ty,bb6⟩,by grind,by rw [af5,dE1],hw⟩,rfl⟩
    · obtain ⟨h1,h2,h3,hk⟩:=r.tok i n' k' e'
      rw [ap8 i hi];refine ⟨h1,h2,fun hlt=>?_,hk⟩;obtain ⟨b',off',vs',s1,⟨ty',s2⟩,s3,s4,s5⟩:=h3 hlt;have hb':b'≠b:=fun e2=>hi (r.U9 i id n' n k' k e' hlt hid dv1 _ _ s1 (by rw [bb2]) e2);exact ⟨b',off',vs',by grind,⟨ty',by grind⟩,by grind,by grind,s5⟩
  · intro i i' n' k' c e hlt e2 a ha
    obtain ⟨hi',e2'⟩:=ab2 i' c e2;rcases aa4 i n' k' e with ⟨rfl,rfl,rfl⟩|⟨hi,e'⟩
    · grind
    · rw [ap8 i hi] at ha hlt;exact r.apart i i' n' k' c e' hlt e2' a ha
  · intro i i' n1 n2 k1 k2 e hlt e2 an6 a a' ha ha' hab
    rcases aa4 i n1 k1 e with ⟨rfl,rfl,rfl⟩|⟨hi,e'⟩<;>rcases aa4 i' n2 k2 e2 with ⟨rfl,rfl,rfl⟩|⟨hi',e2'⟩
    · rfl
    · rw [af5] at ha;cases ha
      rw [ap8 i' hi'] at ha' an6;exact r.U9 i i' n n2 _ k2 hid dv1 e2' an6 _ a' (by rw [bb2]) ha' hab
    · rw [af5] at ha';cases ha'
      rw [ap8 i hi] at ha hlt;exact r.U9 i i' n1 n k1 _ e' hlt hid dv1 a _ ha (by rw [bb2]) hab
    · rw [ap8 i hi] at ha hlt;rw [ap8 i' hi'] at ha' an6
      exact r.U9 i i' n1 n2 k1 k2 e' hlt e2' an6 a a' ha ha' hab
  · by_cases hi:i=id
    · grind [p8]
    · simp only [p8,y9 hi] at e
      exact ⟨e,fun hm=>⟨rfl,hold _ (hm.cells hb1),fun a=>a⟩⟩
  · intro b' hb
    simp only [size_setRow] at hb;rw [S9 b' a_];exact r.B3 b' hb


theorem bI7 (n:Nat):∀ (rounds c:Nat),c<=n+(n+768) / 4->Builtin.growBy n rounds c<=n+(n+768) / 4
 | 0,c,h=>by grind [Builtin.growBy]
 | rounds+1,c,h=>by
  unfold Builtin.growBy;split
  ·exact h
  ·exact bI7 n rounds _ a_
theorem by3 (n c:Nat) (h:c<n):Builtin.nextslicecap n c<=2 * n:=by
 grind [Builtin.nextslicecap,bI7]
theorem bi4 {a:Option Addr} {es:List (List V)} {cell:Nat->Value}
  (F5:es≠[]->∃ b off,a=some ⟨b,off,none⟩/\off+es.length * k<=g.lim b/\∀ i,i<es.length * k->w.cell? ⟨b,off+i,none⟩=some (cell i))
  (w0:World) (hw:∀ x,w0.cell? x=w.cell? x) :
  (Builtin.firstCells k es.length (.slice a es.length cap)).run P w0=.ok ((List.range (es.length * k)).map cell).toArray w0:=by
 cases hes:es with
 | nil =>
  cases a with
  | none=>simp [Builtin.firstCells]
  | some a=>simp [Builtin.firstCells,loadCells,loadCellsFrom]
 | cons e0 es0 =>
  grind [Builtin.firstCells,run_loadCells,av5]
theorem ac7:∀ (es:List (List V)) (k:Nat),(∀ e∈es,e.length=k)->es.flatten.length=es.length * k
 | [],k,_=>by simp
 | e::es,k,hk=>by
  rw [bo6,F8,ac7 es k (fun x hx=>hk x (by simp [hx])),hk e b_,J1,aR0];omega
def bi3 (a:Option Addr) (k:Nat) (vs:List Value):Sem Unit :=
 match a with
 | some a=>storeCells (a.add k) vs
 | none=>pure ()
theorem bM9 (z:Array Value) (n:Nat):(Builtin.zeroCells z n).size=n * z.size:=by simp [Builtin.zeroCells]
section
variable {P:Program} {env:Nat->Option (List V)} {g:G} {w:World} {h:H} {ρc:Operand->Value} {ρ:Operand->V} (r:Rel env g w h) (hρ:∀ x,RV g w (ρc x) (ρ x))
theorem bL3 {es xs:List (List V)} {cs cx:Nat->Value}
  (hk1:∀ e∈es,e.length=k) (hk2:∀ e∈xs,e.length=k) (aa3:es.length+xs.length<=cap)
  (hl:off+(es.length+xs.length) * k<=g'.lim b)
  (h1:∀ i,i<es.length * k->w'.cell? ⟨b,off+i,none⟩=some (cs i))
  (h2:∀ i,i<xs.length * k->w'.cell? ⟨b,off+(es.length * k+i),none⟩=some (cx i))
  (r1:∀ (i:Nat) (v:V),es.flatten[i]? = some v->RV g' w' (cs i) v) (r2:∀ (i:Nat) (v:V),xs.flatten[i]? = some v->RV g' w' (cx i) v)
  (hd:g'.dom id=true) (hb:g'.buf id=⟨some ⟨b,off,none⟩,es.length+xs.length,cap,k⟩) :
  RV g' w' (.slice (some ⟨b,off,none⟩) (es.length+xs.length) cap) (.sl (.own id) (es++xs)):=by
 have hlen:(es++xs).length=es.length+xs.length:=F8;have hfl:=ac7 es k hk1;rw [<- hlen] at hl aa3 hb ⊢;refine .sl _ cap _ (es++xs) k (fun i=>if i<es.length * k then cs i else cx (i - es.length * k)) ?_ aa3 (fun _=>⟨b,off,rfl,hl,?_⟩) ?_ ⟨hd,by rw [hb];exact w7 _,fun _=>hb⟩
 all_goals grind [Nat.add_mul]
variable {o:Oper} {eff:Eff}
include r hρ in
theorem dd0 {c:Call} (ho:o.op=.call c) (aP0:c.callee=.builtin .append) (he:O6 P ρ h nid o.op=some eff) :
    Sim P env g w h (execOp ρc o) eff:=by
  obtain ⟨callee,args,ts⟩:=c;simp only at aP0;subst aP0;rw [ho] at he;simp only [O6] at he;split at he
  case h_2=>simp at he
  rename_i c es c2 xs i j am3 hts;split at he
  case isFalse=>simp at he
  rename_i hk;obtain ⟨hk1,hk2,hk3,hk4,hk5,hk6,hk7,hk8,hk9⟩:=hk;have hl:=congrArg List.length am3;have hl2:=congrArg List.length hts;simp at hl hl2;obtain ⟨x,y,rfl⟩:∃ x y,args=#[x,y]:=by
    obtain ⟨l⟩:=args
    match l,hl with
    | [x,y],_=>exact ⟨x,y,rfl⟩
  obtain ⟨t,t2,rfl⟩:∃ x y,ts=#[x,y]:=by
    obtain ⟨l⟩:=ts
    match l,hl2 with
    | [x,y],_=>exact ⟨x,y,rfl⟩
  simp at am3 hts;obtain ⟨inf,d,z,i1,i2,i0,is,ib,ia,iz,_,ik4,_,_,_,_,_,iez⟩:=R1 hts.1;obtain ⟨e,rfl,hes,heb,_⟩:=ik4 hk1;obtain ⟨inf2,d2,z2,j1,j2,j0,_,_,_,_,_,jk4,_⟩:=R1 hts.2;obtain ⟨e2,rfl,_⟩:=jk4 hk2;obtain ⟨ie,de,he1,he2,he3⟩:=U6 (P:=P) (t:=e) (by rw [<- hes];exact hk3);have hez:=(iez e (.inl rfl)).2 ie he1;have hsz:ie.size=i.n7:=by rw [he3,hes]
  obtain ⟨ze,hze,cd7⟩:∃ ze,ie.zero=some ze/\ze.cells.size=i.n7:=by
    cases hz0:ie.zero with
    | none=>rw [hz0] at hez;rw [hez] at hk4;simp at hk4;exact absurd hk4.symm hk3
    | some ze=>rw [hz0] at hez;rw [hez] at hk4;exact ⟨ze,rfl,by simpa using hk4⟩
  have cp3:ie.bytes=i.ah7:=by rw [heb];simp [bytesOf,he1]
  have hx:=hρ x;have hy:=hρ y;rw [am3.1] at hx;rw [am3.2] at hy;cases hcx:ρc x<;>rw [hcx] at hx<;>cases hx
  rename_i a cap k cs hke hrs de3 cc9 cM4;cases hcy:ρc y<;>rw [hcy] at hy<;>cases hy
  rename_i a2 cap2 k2 cx hkx hrx de4 dV7 ee2;have du8:∀ e∈es,e.length=i.n7:=by
    rw [ad2] at hk5;intro e he;simpa using hk5 e he
  have cq5:∀ e∈xs,e.length=i.n7:=by
    rw [ad2] at hk6;intro e he;simpa using hk6 e he
  have cq2:es≠[]->∃ b off,a=some ⟨b,off,none⟩/\off+es.length * i.n7<=g.lim b/\∀ j,j<es.length * i.n7->w.cell? ⟨b,off+j,none⟩=some (cs j):=by
    intro hne;have:k=i.n7:=by
      cases es with
      | nil=>exact absurd rfl hne
      | cons e0 _=>rw [<- hke e0 b_,du8 e0 b_]
    rw [<- this];exact de3 hne
  have dM9:xs≠[]->∃ b off,a2=some ⟨b,off,none⟩/\off+xs.length * i.n7<=g.lim b/\∀ j,j<xs.length * i.n7->w.cell? ⟨b,off+j,none⟩=some (cx j):=by
    intro hne;have:k2=i.n7:=by
      cases xs with
      | nil=>exact absurd rfl hne
      | cons e0 _=>rw [<- hkx e0 b_,cq5 e0 b_]
    rw [<- this];exact de4 hne
  have hfx:=ac7 xs i.n7 cq5;have dM8:∀ v∈(((List.range (xs.length * i.n7)).map cx).toArray).toList,v.oneCell'=true:=by
    intro v hv;simp only [G5,bC4] at hv;obtain ⟨q,hq,rfl⟩:=hv;have hq':q<xs.flatten.length:=by omega
    rw [ad2] at hk7;exact bz0 (hrx q _ (W4 hq')) (hk7 _ (bo8 hq'))
  have hF1:=fun w0 hw=>bi4 (P:=P) (cap:=cap) cq2 w0 hw;have hF2:=fun w0 hw=>bi4 (P:=P) (cap:=cap2) dM9 w0 hw;have ee0:=fun (w0:World) hw=>by
    have:=hF1 w0 hw;rw [<- hsz] at this;exact this
  have dV2:=fun (w0:World) hw=>by
    have:=hF2 w0 hw;rw [<- hsz] at this;exact this
  have hmul:(es.length+xs.length) * i.n7=es.length * i.n7+xs.length * i.n7:=aR0 _ _ _;have dE0:∀ id,(h id=none\/∃ n0 k0,h id=some (.tok n0 k0)/\n0<es.length+xs.length)->cap<es.length+xs.length ->
      Sim P env g w h (execOp ρc o) ⟨.sl (.own id) (es++xs),[id],[(id,.tok (es.length+xs.length) i.n7)]⟩:=by
    intro id hid hlt;have hnc:=by3 (es.length+xs.length) cap hlt;have dM3:es.length+xs.length<=es.length+xs.length+w.tape w.drawn (.appendCap (es.length+xs.length) cap e) % (9223372036854775808 - (es.length+xs.length)):=Nat.le_add_right _ _;generalize hq:w.tape w.drawn (.appendCap (es.length+xs.length) cap e) % (9223372036854775808 - (es.length+xs.length))=q at dM3
    let arr:Array Value:=((List.range (es.length * ie.size)).map cs).toArray++((List.range (xs.length * ie.size)).map cx).toArray++Builtin.zeroCells ze.cells q
    have bE5:arr.size=(es.length+xs.length+q) * i.n7:=by
      simp only [arr,Array.size_append,bM9,cd7,hsz];simp;rw [aR0,hmul]
    obtain ⟨g',hx',hr',hd',hb',hl'⟩:=grow r hid e bE5 dM3;have F5:(execOp ρc o).run P w=.ok (.value (.slice (some ⟨w.heap.size,0,none⟩) (es.length+xs.length) (es.length+xs.length+q))) (w.drew.alloc (.cells arr e)):=by
      have b1:¬ ((9223372036854775807:Int)<(es.length:Int)+(xs.length:Int)/\ie.bytes=0):=by omega
      have b2:¬ (281474976710656<Builtin.nextslicecap (es.length+xs.length) cap * ie.bytes):=by
        rw [cp3];have:Builtin.nextslicecap (es.length+xs.length) cap * i.ah7<=2 * (es.length+xs.length) * i.ah7:=bo4 _ hnc;rw [Nat.mul_assoc] at this;omega
      have b3:¬ (es.length+xs.length<=cap):=by omega
      have f1:=ee0 w.drew (fun _=>rfl);have f2:=dV2 w.drew (fun _=>rfl);simp [execOp,ho,resolve,invoke,builtin,Builtin.append_,Q9 i2,Q9 j2,G2 he1,hcx,hcy,Builtin.lenOf,typeInfo,he1,b3,Question.forced,Question.cut];rw [y9 b1,y9 b2,f1];simp only [Result.andThen_ok];rw [f2];simp [zeroValue,typeInfo,he1,hze,newRow,hq,arr]
    refine ⟨_,_,g',.inl F5,hx',hr',?_⟩;refine bL3 (cs:=cs) (cx:=cx) du8 cq5 dM3 (by rw [hl'];omega) ?_ ?_ (fun i v hv=>(hrs i v hv).mono hx') (fun i v hv=>(hrx i v hv).mono hx') hd' hb'
    · intro q hq
      show (w.drew.alloc _).cell? ⟨w.drew.heap.size,0+_,none⟩=_;rw [aW6,aW2];simp only [arr,hsz];rw [aL6 (by simp;omega),aL6 (by simp;omega)];simp [hq]
    · intro q hq
      show (w.drew.alloc _).cell? ⟨w.drew.heap.size,0+_,none⟩=_;rw [aW6,aW2];simp only [arr,hsz];rw [aL6 (by simp;omega),bU9 b_];simp [hq]
  have hin:es.length+xs.length<=cap->∀ w',(bi3 a (es.length * ie.size) ((List.range (xs.length * ie.size)).map cx)).run P w=.ok () w' ->
      (execOp ρc o).run P w=.ok (.value (.slice a (es.length+xs.length) cap)) w':=by
    intro hle w' hst;have f2:=dV2 w (fun _=>rfl);simp [execOp,ho,resolve,invoke,builtin,Builtin.append_,Q9 i2,Q9 j2,G2 he1,hcx,hcy,Builtin.lenOf,hle];rw [f2];cases a with
    | none=>simp [bi3] at hst;simp [hst]
    | some a=>simp only [bi3] at hst;simp [hst]
  have dM6:xs=[]->(bi3 a (es.length * ie.size) ((List.range (xs.length * ie.size)).map cx)).run P w=.ok () w:=by
    intro e;subst e;cases a<;>simp [bi3,storeCells]
  have hsl:=RV.sl (g:=g) (w:=w) a cap c es k cs hke cc9 de3 hrs cM4;cases c with
  | any=>simp at he
  | full =>
    simp only at he;split at he
    case h_2=>simp at he
    rename_i hn;cases he;by_cases hx0:xs=[]
    · have hh:=hin (by rw [hx0];simpa using cc9) w (dM6 hx0)
      subst hx0;have hc':cap=es.length:=cM4;obtain ⟨g',hx',hr',hd',hb',hl'⟩:=dS2 r hn a es.length i.n7;refine ⟨_,_,g',.inl hh,hx',by simpa [L9] using hr',?_⟩;simp only [ae7,S0,aQ8];exact .sl a cap _ es i.n7 cs du8 cc9 (fun hne=>by obtain ⟨b,off,h1,h2,h3⟩:=cq2 hne;exact ⟨b,off,h1,by rw [hl'];exact h2,h3⟩)
        (fun i v hv=>(hrs i v hv).mono hx') ⟨hd',by rw [hb'];exact w7 _,fun _=>by rw [hb',hc']⟩
    · have hc':cap=es.length:=cM4
      have:0<xs.length:=cx1.2 hx0;exact dE0 nid (.inl hn) a_
  | own id =>
    simp only at he;split at he
    case h_2=>simp at he
    rename_i n hn;split at he
    case isFalse=>simp at he
    rename_i hne;cases he;obtain ⟨hne,ee6⟩:=hne;subst hne;subst ee6;obtain ⟨t1,t2',t3,t4⟩:=r.tok id _ _ hn;obtain ⟨c1,c2',c3⟩:=cM4;have ap8:=c3 t1.symm;rw [ap8] at t4;simp only at t4;by_cases hx0:xs=[]
    · have hh:=hin (by rw [hx0];simpa using cc9) w (dM6 hx0)
      subst hx0;refine ⟨_,_,g,.inl hh,Ext.refl g w,?_,?_⟩
      · simp only [L9,S0,aQ8];rw [dv8 hn];exact r
      · simpa using hsl
    · have cM7:0<xs.length:=cx1.2 hx0
      by_cases hle:es.length+xs.length<=cap
      · have ej0:(g.buf id).cap=cap:=by rw [ap8]
        obtain ⟨b,off,vs,s1,s2,s3,s4,s5⟩:=t3 a_;rw [ap8] at s1 s3 s4;simp only at s1 s3 s4;subst s1;subst t4;obtain ⟨ty,s2'⟩:=s2;have hst:=run_storeCells_at (P:=P) b (off+es.length * i.n7) ty ((List.range (xs.length * i.n7)).map cx) 0 vs w s2'
          (by
            have:(es.length+xs.length) * i.n7<=cap * i.n7:=bo4 _ hle;rw [hmul] at this;simp;omega) (by simpa using dM8)
        simp only [aQ8,ao2,bC1] at hst;generalize hnv:(vs.toList.take (off+es.length * i.n7)++(List.range (xs.length * i.n7)).map cx++vs.toList.drop (off+es.length * i.n7+xs.length * i.n7)).toArray=new at hst;have dW0:off+es.length * i.n7+xs.length * i.n7<=vs.size:=by
          have:(es.length+xs.length) * i.n7<=cap * i.n7:=bo4 _ hle;rw [hmul] at this;omega
        have ee8:new.size=vs.size:=by rw [<- hnv];simp;omega
        have ak2:∀ q,q<off+es.length * i.n7->new[q]? = vs[q]? := by
          intro q hq;rw [<- hnv,aC4];simp only [bB8];rw [aA2 (by simp;omega),be2,B8 hq];simp
        have cp9:∀ q,q<xs.length * i.n7->new[off+(es.length * i.n7+q)]? = some (cx q):=by
          intro q hq;have el:(vs.toList.take (off+es.length * i.n7)).length=off+es.length * i.n7:=by simp;omega
          rw [<- hnv,aC4];simp only [bB8];rw [aA1 a_,el,aA2 (by simp;omega)];rw [show off+(es.length * i.n7+q) - (off+es.length * i.n7)=q by omega];simp [hq]
        obtain ⟨g',hx',hr',hd',hb',hl'⟩:=advance r hn cM7 ap8 hle ⟨ty,s2'⟩ s3 s4 s5 ee8 ak2;refine ⟨_,_,g',.inl (hin hle _ ?_),hx',hr',?_⟩
        · simp only [bi3,av5,hsz]
          simpa using hst
        · refine bL3 (cs:=cs) (cx:=cx) du8 cq5 hle (by rw [hl'];exact w7 _) ?_ ?_ (fun i v hv=>(hrs i v hv).mono hx') (fun i v hv=>(hrx i v hv).mono hx') hd' hb'
          · intro q hq
            rw [cell_setRow_same w b _ vs new ty (0,0) s2',ak2 _ a_];have hne:es≠[]:=by intro e;subst e;simp at hq
            obtain ⟨b2,off2,e1,_,e3⟩:=cq2 hne;cases e1;have:=e3 q hq;simpa [World.cell?,s2'] using this
          · intro q hq
            rw [cell_setRow_same w b _ vs new ty (0,0) s2'];exact cp9 q hq
      · exact dE0 id (.inr ⟨_,_,hn,a_⟩) a_
end
theorem bi5:∀ (new:List V) (off:Nat) (cs:List V),off+new.length<=cs.length->G8 cs off new=cs.take off++new++cs.drop (off+new.length):=by
 intro new
 induction new with
 | nil=>simp [G8]
 | cons v new ih =>
  intro off cs hl;simp only [J1] at hl;rw [G8,ih (off+1) (cs.set off v) (by simp;omega)];have e:cs.set off v=cs.take off++v::cs.drop (off+1):=by rw [cw3,B8 a_]
  have el:(cs.take off).length=off:=by simp;omega
  have t1:(cs.take off++v::cs.drop (off+1)).take (off+1)=cs.take off++[v]:=by
   have:=List.take_length_add_append (l₁:=cs.take off) (l₂:=v::cs.drop (off+1)) 1;rw [el] at this;rw [this];simp
  have t2:(cs.take off++v::cs.drop (off+1)).drop (off+1+new.length)=cs.drop (off+(new.length+1)):=by
   have:=List.drop_length_add_append (l₁:=cs.take off) (l₂:=v::cs.drop (off+1)) (1+new.length);rw [el] at this;rw [show off+1+new.length=off+(1+new.length) by omega,this,show 1+new.length=new.length+1 by omega];simp [aL8,Nat.add_comm 1]
  rw [e,t1,t2];simp
theorem dc2 {es:List (List V)} {i:Nat} (hk:∀ e∈es,e.length=k) (hi:i<es.length) (hc:cs.length=k) :
  G8 es.flatten (i * k) cs=(es.set i cs).flatten:=by
 have hb:(i+1) * k<=es.length * k:=bo4 _ a_
 grind [Nat.add_mul,bi5,ac7,List.set_eq_take_append_cons_drop,bg8,bg7]
theorem bn3:∀ (cparts:List (Nat × Value)) (parts:List (Nat × V)) (vs:Array Value) (es out:List (List V)),
    parts.length=cparts.length->(∀ (i:Nat) (p:Nat × V) (q:Nat × Value),parts[i]? = some p->cparts[i]? = some q->p.1=q.1/\RV g w q.2 p.2) ->
    (∀ e∈es,e.length=k)->RVL g w vs es.flatten->aq8 k es parts=some out ->
    ∃ ws,Instr.fill (fun i=>some (i * k,k)) vs cparts=some ws/\RVL g w ws out.flatten/\(∀ e∈out,e.length=k)/\out.length=es.length:=by
  intro cparts
  induction cparts with
  | nil =>
    intro parts vs es out hl _ hk h1 h2;have:parts=[]:=by simpa using hl
    subst this;simp [aq8] at h2;subst h2;exact ⟨vs,rfl,h1,hk,rfl⟩
  | cons q cparts ih =>
    intro parts vs es out hl hr hk h1 h2;cases parts with
    | nil=>simp at hl
    | cons p parts =>
      obtain ⟨i,v⟩:=p;obtain ⟨i',c⟩:=q;obtain ⟨e,hv⟩:=hr 0 _ _ rfl rfl;subst e;simp only [aq8] at h2;split at h2
      case h_2=>simp at h2
      rename_i cs hc;split at h2
      case isFalse=>simp at h2
      rename_i hlen;have hcc:=aP7 hv hc;have hsp:=bA1 cs c.cells.toList (i * k) vs es.flatten h1 (by simpa using hcc);rw [dc2 hk hlen.2 hlen.1] at hsp;have:=ih parts _ _ out (by simpa using hl) (fun j p q hp hq=>hr (j+1) p q (by simpa using hp) (by simpa using hq))
        (by
          intro e he;rcases List.mem_or_eq_of_mem_set he with h|h
          · exact hk e h
          · rw [h];exact hlen.1) hsp h2
      have hfl:=ac7 es k hk;have hb:(i+1) * k<=es.length * k:=bo4 _ a_;rw [aR0,Nat.one_mul] at hb;simp only [Instr.fill];rw [y9 (by simp [hcc.1,h1.1,hlen.1];have:=hfl;simp at this;omega)]
      grind [Array.toList_zipIdx]

section
variable {P:Program} {env:Nat->Option (List V)} {g:G} {w:World} {h:H} {ρc:Operand->Value} {ρ:Operand->V} (r:Rel env g w h) (hρ:∀ x,RV g w (ρc x) (ρ x))
include r hρ
variable {o:Oper} {eff:Eff}
theorem bR7 {len:Nat} {parts:Array (Nat × Operand)} (ho:o.op=.buildSlice t len parts)
  (he:O6 P ρ h nid o.op=some eff):Sim P env g w h (execOp ρc o) eff:=by
 rw [ho] at he;simp only [O6] at he;split at he
 case h_2=>simp at he
 rename_i i hi;split at he
 case isFalse=>simp at he
 rename_i hk;obtain ⟨hk1,hk3,hk4,hk5⟩:=hk;cases hf:aq8 i.n7 (List.replicate len i.T7) (parts.toList.map fun p=>(p.1,ρ p.2)) with
 | none=>simp [hf] at he
 | some out =>
  simp [hf] at he;subst he;obtain ⟨inf,d,z,i1,i2,i0,is,ib,ia,iz,_,ik4,_,_,_,_,_,iez⟩:=R1 hi;obtain ⟨e,rfl,hes,heb,_⟩:=ik4 hk1;obtain ⟨ie,de,he1,he2,he3⟩:=U6 (P:=P) (t:=e) (by rw [<- hes];exact hk3);have hez:=(iez e (.inl rfl)).2 ie he1;have hsz:ie.size=i.n7:=by rw [he3,hes]
  obtain ⟨ze,hze,ee3,cd7⟩:∃ ze,ie.zero=some ze/\i.T7=ze.cells.toList.map bj1/\ze.cells.size=i.n7:=by
   grind
  have cq0:∀ e∈List.replicate len i.T7,e.length=i.n7:=by
   intro e he;rw [List.mem_replicate] at he;rw [he.2];exact hk4
  have bh3:∀ (j:Nat) (p:Nat × V) (q:Nat × Value),(parts.toList.map fun p=>(p.1,ρ p.2))[j]? = some p ->
    (parts.map fun p=>(p.1,ρc p.2)).toList[j]? = some q->p.1=q.1/\RV g w q.2 p.2:=by
   intro j p q hp hq;simp only [ah6,Array.toList_map] at hp hq;cases hh:parts.toList[j]? with
   | none=>simp [hh] at hp
   | some x =>
    simp [hh] at hp hq;subst hp;subst hq;exact ⟨rfl,hρ _⟩
  have hzero:∀ zz:Array Value,(len * i.n7=0\/zz=ze.cells)->RVL g w ((Array.range (len * i.n7)).map (zz[· % zz.size]!)) (List.replicate len i.T7).flatten:=by
   intro zz hzz;have hfl:=ac7 (List.replicate len i.T7) i.n7 cq0;simp only [List.length_replicate] at hfl;refine RVL.mk (by rw [hfl];simp) fun q v hv=>?_;have hq:q<len * i.n7:=by
    rw [<- hfl];exact (F2.1 hv).1
   rcases hzz with h0|rfl
   ·omega
   ·have bR9:q % i.n7<i.n7:=Nat.mod_lt _ (Nat.pos_of_ne_zero hk3)
    refine ⟨ze.cells[q % i.n7]'(by rw [cd7];exact bR9),?_,?_⟩
    ·simp [hq,cd7,bR9]
    ·have hdiv:q / i.n7<len:=Nat.div_lt_of_lt_mul (by rw [Nat.mul_comm];exact hq)
     have:=bR2 (List.replicate len i.T7) i.n7 (q / i.n7) (q % i.n7) i.T7 (i.T7[q % i.n7]'(by rw [hk4];exact bR9)) cq0 (by simp [hdiv]) (by simp [hk4,bR9])
     grind [Nat.div_add_mod,br3]
  have main:∀ zz:Array Value,(len * i.n7=0\/zz=ze.cells)->∃ ws,Instr.fill (fun j=>some (j * i.n7,i.n7)) ((Array.range (len * i.n7)).map (zz[· % zz.size]!)) (parts.map fun p=>(p.1,ρc p.2)).toList=some ws /\
    RVL g w ws out.flatten/\(∀ e∈out,e.length=i.n7)/\out.length=len:=by
   intro zz hzz;have:=bn3 (g:=g) (w:=w) (k:=i.n7) (parts.map fun p=>(p.1,ρc p.2)).toList (parts.toList.map fun p=>(p.1,ρ p.2)) _ _ out b_ bh3 cq0 (hzero zz hzz) hf;simpa using this
  obtain ⟨ws,hw1,hw2,hw3,hw4⟩:=main (if len * i.n7=0 then #[] else ze.cells) (by split<;>simp_all);obtain ⟨g',hx',hr',hl'⟩:=bc4 r ws e;refine ⟨.slice (some ⟨w.heap.size,0,none⟩) len len,w.alloc (.cells ws e),g',.inl ?_,hx',hr',?_⟩
  ·have hb:¬ (16777216<len * i.n7):=by omega
   by_cases h0:len * i.n7=0
   ·rw [B8 h0] at hw1
    simp [execOp,ho,Instr.buildSlice,Q9 i2,G2 he1,hsz,h0];simp [h0] at hw1;rw [hw1];simp [newRow]
   ·rw [y9 h0] at hw1
    simp at hw1;simp [execOp,ho,Instr.buildSlice,Q9 i2,G2 he1,hsz,hb,zeroValue,typeInfo,he1,hze];rw [y9 h0,hw1];simp [newRow]
  ·rw [<- hw4]
   have cM9:=hw2.1;rw [ac7 out i.n7 hw3] at cM9;refine .sl _ _ .full out i.n7 (fun q=>ws[q]?.getD undef) hw3 (w7 _) (fun _=>⟨w.heap.size,0,rfl,by rw [hl',cM9];omega,fun q hq=>?_⟩) (fun q v hv=>?_) rfl
   ·grind [World.cell?_alloc_new]
   ·obtain ⟨c,hc1,hc2⟩:=(hw2.mono hx').at hv
    grind
end
variable {ρc:Operand->Value} {ρ:Operand->V} {o:Oper} {eff:Eff}
theorem cf7 {env:Nat->Option (List V)} (r:Rel env g w h)
  (hρ:∀ x,RV g w (ρc x) (ρ x)) (he:O6 P ρ h nid o.op=some eff):Sim P env g w h (execOp ρc o) eff:=by
 cases ho:o.op with
 | alloc t=>exact du5 r ho he
 | box t x=>exact dV5 r hρ ho he
 | buildSlice t n ps=>grind [bR7]
 | load t x=>grind [dL9]
 | store t x y=>grind [du6]
 | makeMap t room=>exact cM1 r ho he
 | mapUpdate t m x y=>grind [cc3]
 | call c =>
  obtain ⟨callee,args,ts⟩:=c;cases callee with
  | builtin b =>
   cases b<;>grind [dd0,O6]
  | _=>rw [ho] at he;simp [O6] at he
 | _=>rw [ho] at he;simp [O6] at he
def aM4 (P:Program) (ρ:Operand->V) (h:H) (nid:Id) (op:Op):Option Eff :=
 match H6 P ρ op with
 | some v=>some ⟨v,[],[]⟩
 | none=>O6 P ρ h nid op
theorem bz6 {env:Nat->Option (List V)} (r:Rel env g w h)
  (hρ:∀ x,RV g w (ρc x) (ρ x)) (he:aM4 P ρ h nid o.op=some eff):Sim P env g w h (execOp ρc o) eff:=by
 grind [aM4,Sim.br2,cf9,cf7]
mutual
def J5:V->V
 | .undef=>.undef
 | .bool b=>.bool b
 | .int k n=>.int k n
 | .str s=>.str s
 | .agg cs=>.agg (B1 cs)
 | .tup vs=>.tup (B1 vs)
 | .sl _ es=>.sl .any (A7 es)
 | .ptr id off=>.ptr id off
 | .slb id n=>.slb id n
 | .slr id n _=>.slb id n
 | .mpr id=>.mpr id
 | .el cs off=>.el (B1 cs) off
 | .nd cs ok off=>.nd (B1 cs) ok off
 | .U3=>.U3
 | .fn f a b=>.fn f (B1 a) (B1 b)
 | .V7=>.V7
 | .iface t v=>.iface t (J5 v)
 | .L3=>.L3
def B1:List V->List V
 | []=>[]
 | v::vs=>J5 v::B1 vs
def A7:List (List V)->List (List V)
 | []=>[]
 | v::vs=>B1 v::A7 vs
end
theorem aF9:∀ l:List V,B1 l=l.map J5
 | []=>by simp [B1]
 | v::vs=>by simp [B1,aF9 vs]
theorem J0:∀ l:List (List V),A7 l=l.map B1
 | []=>by simp [A7]
 | v::vs=>by simp [A7,J0 vs]
theorem P1 (l:List V):(B1 l).length=l.length:=by rw [aF9];simp
theorem ak5 {l:List V} {i:Nat} (h:(B1 l)[i]? = some v):∃ u,l[i]? = some u/\v=J5 u:=by
 grind [aF9]
theorem cb4 (es:List (List V)):(A7 es).flatten=B1 es.flatten:=by
 grind [J0,aF9,List.map_congr_left]
theorem RV.J5 (h:RV g w c v):RV g w c (J5 v):=by
 induction h with
 | undef c=>exact .undef c
 | bool b=>exact .bool b
 | int k n=>exact .int k n
 | str s=>exact .str s
 | agg vs cs h _ ih =>
  grind [GoAbs.J5,agg,P1,ak5]
 | tup vs cs h _ ih =>
  grind [GoAbs.J5,tup,P1,ak5]
 | sl a cap c es k cell hk aa3 F5 _ hc ih =>
  have hl:(A7 es).length=es.length:=by rw [J0];simp
  rw [<- hl];refine .sl a cap .any _ k cell ?_ (by rw [hl];exact aa3) ?_ ?_ trivial
  ·intro e he
   rw [J0] at he;obtain ⟨e0,h0,rfl⟩:=G5.1 he;rw [P1];exact hk e0 h0
  ·intro hne
   rw [hl];exact F5 (by intro e;subst e;exact hne rfl)
  grind [cb4,ak5]
 | ptr id off h=>exact .ptr id off h
 | slb id n cap h h2=>exact .slb id n cap h h2
 | slr id n cap h h2=>exact .slb id n cap h h2
 | mpr id h=>exact .mpr id h
 | el b off cs o cell hl F5 _ ih =>
  refine .el b off _ o cell (by rw [P1];exact hl) (by rw [P1];exact F5) fun i v hv=>?_
  grind [ak5]
 | nd b cs ok o cell hok hl F5 _ hf ih =>
  refine .nd b _ ok o cell hok (by rw [P1];exact hl) (by rw [P1];exact F5) (fun i v hv=>?_) (by rw [P1];exact hf)
  grind [ak5]
 | U3=>exact .U3
 | fn f fs cs fs' cs' h1 h2 _ _ ih1 ih2 =>
  grind [GoAbs.J5,fn,P1,ak5]
 | V7=>exact .V7
 | iface t c v _ ih=>exact .iface t c _ ih
 | L3=>exact .L3
theorem RVL.J5 (h:RVL g w vs cs):RVL g w vs (B1 cs) :=
  ⟨by rw [P1];exact h.1,fun i c v hc hv=>by
    obtain ⟨u,hu,rfl⟩:=ak5 hv;exact (h.2 i c u hc hu).J5⟩

def ac4 (P : Program) (f : FuncId) : Prop := ∃ fn, P.funcs[f]? = some fn ∧ fn.body.isSome = true ∧ (fn.name == "runtime.NumGoroutine") = false
def Ret (P:Program) (env:Nat->Option (List V)) (f:FuncId) (args:List V) (h:H) (v:V) (h':H):Prop :=
 ac4 P f/\∀ g w (vs:Array Value),Rel env g w h->RVL g w vs args ->
  Calls P f vs w fun e w'=>∃ c g',e=.returned c/\Ext g w g' w'/\Rel env g' w' h'/\RV g' w' c v
def Pure (P:Program) (env:Nat->Option (List V)) (f:FuncId) (args:List V) (v:V):Prop:=∀ h,Ret P env f args h v h
def av (env:Nat->Option (List V)) (tm:Nat->V):Operand->V
 | .tmp t=>tm t
 | .const c=>toV c
 | .global k=>match env k with|some cs=>.el cs 0|none=>.undef
 | .func f=>.fn (.func f) [] []
def upd (tm:Nat->V) (d:Option Nat) (v:V):Nat->V :=
 match d with
 | some d=>fun t=>if t=d then v else tm t
 | none=>tm
def cO2 (P:Program) (t:TypeId) (name:String):Option FuncId :=
  match P.info? t,P.underlying t with
  | some i,some d =>
    (match d with
    | .pointer _=>none
    | _=>(match i.methods.find? (·.name==name) with
      | some m=>if m.path.size=0 then (match m.func with|some (f,false)=>some f|_=>none) else none
      | none=>none))
  | _,_=>none

def dR5 (P:Program) (ρ:Operand->V) (c:Call) (k:FuncId) (args:List V):Prop :=
 (∃ x first captured,c.callee=.value x/\ρ x=.fn (.func k) first captured/\args=first++c.args.toList.map ρ++captured) \/
 (∃ x name t v,c.callee=.invoke x name/\ρ x=.iface t v/\cO2 P t name=some k/\args=v::c.args.toList.map ρ)
def cx6 (P:Program) (env:Nat->Option (List V)) (ρ:Operand->V) (h:H) (c:Call) (eff:Eff):Prop :=
 ∃ k args,dR5 P ρ c k args/\(∀ p∈eff.writes,p.1∈eff.reads) /\
  ∀ h2:H,(∀ id∈eff.reads,h2 id=h id)->Ret P env k (B1 args) h2 eff.v (L9 h2 eff.writes)
def Stp (P:Program) (env:Nat->Option (List V)) (ρ:Operand->V) (h:H) (nid:Id) (op:Op) (eff:Eff):Prop :=
 aM4 P ρ h nid op=some eff\/∃ c,op=.call c/\cx6 P env ρ h c eff
structure St where
 tm:Nat->V
 h:H
def St.put (σ:St) (d:Option Nat) (e:Eff):St:=⟨upd σ.tm d e.v,L9 σ.h e.writes⟩
structure M1 (env:Nat->Option (List V)) (n:Nat) (g:G) (w:World) (a:Act) (σ:St):Prop where
 rel:Rel env g w σ.h
 tm:∀ t,RV g w (a.tmps.getD t undef) (σ.tm t)
 size:n<=a.tmps.size
 defers:a.defers=[]
variable {a:Act} {σ:St}
theorem bL2 {env:Nat->Option (List V)} {n:Nat} (r:M1 env n g w a σ) (x:Operand):RV g w (a.eval x) (av env σ.tm x):=by
 cases x with
 | tmp t=>exact r.tm t
 | const c=>exact dP1 g w c
 | global k =>
  simp only [av];split
  ·rename_i cs h;exact r.rel.glob k cs h
  ·exact .undef _
 | func f=>exact .fn _ _ _ _ _ rfl rfl b_ b_
variable {d:Option Nat} {h':H}
theorem M1.put {env:Nat->Option (List V)} {n:Nat} (r:M1 env n g w a σ) (x:Ext g w g' w')
 (hd:∀ t,d=some t->t<n) (hr:Rel env g' w' h') (hv:RV g' w' c v):M1 env n g' w' (a.put d c) ⟨upd σ.tm d v,h'⟩:=by
 cases d with
 | none=>exact ⟨hr,fun t=>(r.tm t).mono x,r.size,r.defers⟩
 | some d =>
  have hlt:=hd d rfl;have hs:=r.size;refine ⟨hr,fun t=>?_,by grind [Act.put],r.defers⟩;simp only [Act.put,upd];by_cases e:t=d
  ·subst e
   simp only [p7];have:(a.tmps.setIfInBounds t c).getD t undef=c:=by
    simp [Array.getElem?_setIfInBounds];rw [B8 a_];simp
   rw [this];exact hv
  ·rw [y9 e]
   have:(a.tmps.setIfInBounds d c).getD t undef=a.tmps.getD t undef:=by
    simp [Array.getElem?_setIfInBounds_ne (Ne.symm e)]
   rw [this];exact (r.tm t).mono x
theorem bk9 {env:Nat->Option (List V)} (r:Rel env g w h) (hρ:∀ x,RV g w (ρc x) (ρ x))
 {c : Call} (hc:o.op=.call c) (hs:cx6 P env ρ h c eff) :
    ∃ k vs,(execOp ρc o).run P w=.ok (.enter k vs) w/\Calls P k vs w fun e w'=>∃ cv g',e=.returned cv/\Ext g w g' w'/\Rel env g' w' (L9 h eff.writes)/\RV g' w' cv eff.v:=by
  obtain ⟨k,args,hl,bh4,dv6⟩:=hs;obtain ⟨⟨fn,f1,f2,f3⟩,dv6⟩:=dv6 h (fun _ _=>rfl)
  have f3' : ¬ (fn.name = "runtime.NumGoroutine") := by simpa using f3
  have f2':fn.body≠none:=by intro e;simp [e] at f2
  have app:∀ {x1 x2:Array Value} {y1 y2:List V},RVL g w x1 y1->RVL g w x2 y2->RVL g w (x1++x2) (y1++y2):=by
    intro x1 x2 y1 y2 h1 h2;refine ⟨by simp [h1.1,h2.1],fun i c v hc hv=>?_⟩;by_cases hi:i<y1.length
    · rw [aL6 (by rw [h1.1];exact hi)] at hc
      rw [aA2 hi] at hv;exact h1.2 i c v hc hv
    · rw [bU9 (by rw [h1.1];omega),h1.1] at hc
      rw [aA1 a_] at hv;exact h2.2 _ c v hc hv
  have hB:RVL g w (c.args.map ρc) (c.args.toList.map ρ):=bd4 (fun x=>hρ x) c.args;rcases hl with ⟨x,first,captured,hx,hf,rfl⟩|⟨x,name,t,v,hx,hf,hm,rfl⟩
  · have hfx:=hρ x
    rw [hf] at hfx;cases hcx:ρc x<;>rw [hcx] at hfx<;>cases hfx
    rename_i fs cs l1 r1 l2 r2;have hA:RVL g w fs first:=⟨l1,l_⟩
    have hC:RVL g w cs captured:=⟨l_,l_⟩;refine ⟨k,fs++c.args.map ρc++cs,?_,dv6 g w _ r (app (app hA hB) hC).J5⟩;simp [execOp,hc,resolve,hx,hcx,Deferred.ofValue,invoke,callFunc,f1,f3',f2']
  · have hfx:=hρ x
    rw [hf] at hfx;generalize hcx:ρc x=cx at hfx;cases hfx with|iface _ u _ hr=>?_
    have hA:RVL g w #[u] [v]:=⟨rfl,fun i a b h1 h2=>by
      match i with
      | 0=>grind
      | i+1=>simp at h2⟩
    refine ⟨k,#[u]++c.args.map ρc,?_,dv6 g w _ r (app hA hB).J5⟩;unfold cO2 at hm;split at hm
    case h_2=>cases hm
    rename_i inf d hi hd;have cd0:∃ m,inf.methods.find? (·.name==name)=some m/\m.path.size=0/\m.func=some (k,false)/\∀ e,d≠.pointer e:=by
      split at hm
      · cases hm
      · split at hm
        case h_2=>cases hm
        split at hm
        case isFalse=>cases hm
        split at hm
        all_goals grind
    obtain ⟨m,h1,h2,h3,h4⟩:=cd0;have dY0:m.path.toList=[]:=by
      have:m.path.toList.length=0:=by simpa using h2
      exact aR1.1 this
    have hrecv:∀ wr:Option String,(receiverAt t (.val u) false wr).run P w=.ok u w:=by
      unfold receiverAt;simp only [Sem.run_bind,Q9 hd,Result.andThen_ok];cases d<;>first|(exact absurd rfl (h4 _))|simp [Place.get]
    have dX4:∀ fuel,(method (fuel+1) t u name).run P w=.ok (k,u) w:=by
      simp [method,typeInfo,hi,h1,dY0,follow,h3,hrecv]
    have dW1:∃ q,P.types.size+Made.depth=q+1:=⟨P.types.size+(Made.depth - 1),by simp [Made.depth]⟩;obtain ⟨q,hq⟩:=dW1;have e0:(#[Value.iface t u]++Array.map ρc c.args)[0]? = some (Value.iface t u):=by rw [aL6 b_];rfl
    have e1:(Array.map ρc c.args).extract 0 c.args.size=Array.map ρc c.args:=by
      simp
    simp [execOp,hc,resolve,hx,hcx,invoke,callMethod,e0,hq,dX4,callFunc,f1,f3',f2',e1]

variable {Q:Exit->Act->World->Prop}
theorem dP6 {env:Nat->Option (List V)} {n:Nat}
  (hs:Stp P env (av env σ.tm) σ.h nid o.op eff) (r:M1 env n g w a σ) (hd:∀ t,o.dst=some t->t<n) {next:Act->World->Prop}
  (hn:∀ g' a' w',Ext g w g' w'->M1 env n g' w' a' (σ.put o.dst eff)->next a' w'):o.wp P a w next Q:=by
 rcases hs with hs|⟨c,hc,hs⟩
 ·obtain ⟨cv,w',g',F5,hx,hr,hv⟩:=bz6 r.rel (fun x=>bL2 r x) hs
  have:=hn g' (a.put o.dst cv) w' hx (r.put hx hd hr hv)
  grind [Oper.wp,Oper.upon_value,Oper.upon_skip]
 ·obtain ⟨k,vs,F5,bb3⟩:=bk9 r.rel (fun x=>bL2 r x) hc hs
  simp only [Oper.wp,F5,Oper.upon_enter];refine bb3.mono ?_;rintro e w' ⟨cv,g',rfl,hx',hr',hv'⟩;exact hn g' _ w' hx' (r.put hx' hd hr' hv')
variable {ρ':Operand->V}
theorem bJ8 (ps:Array (Nat × Operand)) (h:∀ x∈((ps.toList.map (·.2)).toArray),ρ x=ρ' x) :
  (ps.toList.map fun p=>(p.1,ρ p.2))=(ps.toList.map fun p=>(p.1,ρ' p.2)) :=
 aG2 fun p hp=>by rw [h p.2 (by grind)]
variable {op:Op}
theorem cf8 (h:∀ x∈op.operands,ρ x=ρ' x):H6 P ρ op=H6 P ρ' op:=by
 cases op<;>simp only [H6]<;>simp only [Op.operands] at h
 case move x=>rw [h x b_]
 case assign x=>rw [h x b_]
 case pick c a b=>rw [h a b_,h b b_,h c b_]
 case build t ps=>rw [bJ8 ps h]
 case nilCheck x=>rw [h x b_]
 case binOp op t x y yt=>rw [h x b_,h y b_]
 case unOp op t x=>rw [h x b_]
 case convert a b x=>rw [h x b_]
 case fieldAddr s x f=>rw [h x b_]
 case field s x f=>rw [h x b_]
 case indexAddr t x i=>rw [h x b_,h i b_]
 case index t x i=>rw [h x b_,h i b_]
 case extract x i=>rw [h x b_]
 case slice t x lo hi mx =>
  rw [h x b_];have e1:lo.map ρ=lo.map ρ':=by cases lo with|none=>rfl|some z=>simp [h z b_]
  have e2:hi.map ρ=hi.map ρ':=by cases hi with|none=>rfl|some z=>simp [h z b_]
  have e3:mx.map ρ=mx.map ρ':=by cases mx with|none=>rfl|some z=>simp [h z b_]
  rw [e1,e2,e3]
 case makeFunc f a b =>
  simp_all
 case makeInterface t x=>rw [h x b_]
 case typeAssert x t0 t ok=>rw [h x b_]
 case call c =>
  obtain ⟨callee,args,ts⟩:=c;have e:args.toList.map ρ=args.toList.map ρ':=aG2 fun x hx=>h x (by grind [Call.operands]);cases callee with
  | builtin b =>
   all_goals grind
  | _=>simp only [H6]
theorem cf6 (ho:∀ x∈op.operands,ρ x=ρ' x)
  (he:O6 P ρ h nid op=some eff) (hh:∀ id∈eff.reads,h' id=h id):O6 P ρ' h' nid op=some eff:=by
 cases op<;>simp only [O6] at he ⊢<;>simp only [Op.operands] at ho
 case alloc t =>
  grind
 case box t x =>
  grind
 case buildSlice t n ps=>rw [bJ8 ps ho] at he;exact he
 case load t x =>
  grind [af8]
 case store t x y =>
  grind
 case makeMap t room =>
  grind
 case mapUpdate t m x y =>
  grind [bS3]
 case call c =>
  obtain ⟨callee,args,ts⟩:=c;have e:args.toList.map ρ=args.toList.map ρ':=aG2 fun x hx=>ho x (by grind [Call.operands]);cases callee with
  | builtin b =>
   cases b<;>simp only [O6] at he ⊢
   case append =>
    split at he
    case h_2=>simp at he
    rename_i c es c2 xs i j am3 hts;split at he
    case isFalse=>simp at he
    cases c<;>grind
   all_goals cases he
  | _=>cases he
 all_goals cases he
theorem aU0 {env:Nat->Option (List V)} (ho:∀ x∈op.operands,ρ x=ρ' x)
  (he:Stp P env ρ h nid op eff) (hh:∀ id∈eff.reads,h' id=h id):Stp P env ρ' h' nid op eff:=by
 rcases he with he|⟨c,rfl,k,args,hl,h3,h4⟩
 ·left
  grind [aM4,cf8,cf6]
 ·right
  have e:c.args.toList.map ρ=c.args.toList.map ρ':=aG2 fun x hx=>ho x (by grind [Op.operands,Call.operands]);refine ⟨c,rfl,k,args,?_,h3,fun h2' hh2=>h4 h2' fun id hid=>(hh2 id hid).trans (hh id hid)⟩;rcases hl with ⟨x,first,captured,h1,h2,h5⟩|⟨x,name,t,v,h1,h2,h5,h6⟩
  ·exact .inl ⟨x,first,captured,h1,by grind [Op.operands,Call.operands],by rw [<- e];exact h5⟩
  ·exact .inr ⟨x,name,t,v,h1,by grind [Op.operands,Call.operands],h5,by rw [<- e];exact h6⟩
theorem bA3 {env:Nat->Option (List V)} (he:Stp P env ρ h nid op eff) :
  ∀ p∈eff.writes,p.1∈eff.reads:=by
 rcases he with he|⟨c,rfl,k,args,hl,h3,h4⟩
 ·unfold aM4 at he
  cases hp:H6 P ρ op with
  | some v=>grind
  | none =>
   rw [hp] at he;cases op<;>simp only [O6] at he
   case call c =>
    obtain ⟨callee,args,ts⟩:=c;cases callee with
    | builtin b =>
     cases b<;>simp only [O6] at he
     case append =>
      split at he
      case h_2=>simp at he
      split at he
      case isFalse=>simp at he
      split at he
      ·split at he
       ·split at he
        ·cases he;simp
        ·simp at he
       ·simp at he
      ·split at he
       ·cases he;simp
       ·simp at he
      ·simp at he
     all_goals cases he
    | _=>cases he
   all_goals grind [Option.map_eq_some_iff]
 ·exact h3
def aB4 (ops:Array Oper) (o:Oper) (tm:Nat->V):Option Bool :=
 match o.guard with
 | none=>some true
 | some (j,want) =>
  match (ops[j]?).bind (·.dst) with
  | some t=>(match tm t with | .bool b=>some (b==want) | .tup []=>some false|_=>none)
  | none=>none
variable {ops:Array Oper}
theorem aB5 {env:Nat->Option (List V)} {n:Nat} (r:M1 env n g w a σ) {b:Bool}
  (h:aB4 ops o σ.tm=some b):Region.wanted o (yielded ops a.tmps)=b:=by
 unfold aB4 at h;unfold Region.wanted;cases hg:o.guard with
 | none=>grind
 | some x =>
  obtain ⟨j,want⟩:=x;rw [hg] at h;simp only at h ⊢;unfold yielded;cases ht:(ops[j]?).bind (·.dst) with
  | none=>rw [ht] at h;simp at h
  | some t =>
   rw [ht] at h;simp only at h;split at h
   ·rename_i b' hb
    have hr:=r.tm t;rw [hb] at hr;have ad5:a.tmps[t]? = some (.bool b'):=by
     cases hh:a.tmps[t]? with
     | none =>
      have:a.tmps.getD t undef=undef:=by simp [hh]
      rw [this] at hr;cases hr
     | some c =>
      have:a.tmps.getD t undef=c:=by simp [hh]
      rw [this] at hr;cases hr;rfl
    simp_all
   ·rename_i hb
    have hr:=r.tm t;rw [hb] at hr;cases h;generalize hcc:a.tmps.getD t undef=cc at hr;cases hr;rename_i cs hs _;cases hh:a.tmps[t]? <;> simp_all
   ·simp at h
def cx5 (P:Program) (env:Nat->Option (List V)) (ops:Array Oper) (gen reg:Nat) (x:Nat × Option Eff) (σ σ':St):Prop :=
 ∃ o,ops[x.1]? = some o /\
  match x.2 with
  | some e=>aB4 ops o σ.tm=some true/\Stp P env (av env σ.tm) σ.h ⟨gen,reg,x.1⟩ o.op e/\σ'=σ.put o.dst e
  | none=>aB4 ops o σ.tm=some false/\σ'=⟨upd σ.tm o.dst (.tup []),σ.h⟩
inductive as0 (P:Program) (env:Nat->Option (List V)) (ops:Array Oper) (gen reg:Nat):List (Nat × Option Eff)->St->St->Prop where
 | nil (σ:St):as0 P env ops gen reg [] σ σ
 | cons (x:Nat × Option Eff) (l:List (Nat × Option Eff)) (σ σ1 σ2:St) (h:cx5 P env ops gen reg x σ σ1) (t:as0 P env ops gen reg l σ1 σ2):as0 P env ops gen reg (x::l) σ σ2
def bS2:Option Eff->Option Eff->Prop
 | some a,some b=>(∀ p∈a.writes,p.1 ∉ b.reads)/\(∀ p∈b.writes,p.1 ∉ a.reads)
 | _,_=>True
theorem aJ5:∀ (ws:List (Id × Obj)) (h:H) (id:Id),(∀ p∈ws,p.1≠id)->L9 h ws id=h id
 | [],h,id,_=>rfl
 | (i,o)::ws,h,id,hn=>by
  rw [L9,aJ5 ws _ id fun p hp=>hn p (by simp [hp])];exact m7 (fun e=>hn (i,o) b_ e.symm)
theorem cM8 {i j:Id} {a b:Obj} (hn:i≠j):p8 (p8 h i a) j b=p8 (p8 h j b) i a:=by
 grind [p8]
theorem bl7:∀ (ws:List (Id × Obj)) (h:H) (i:Id) (o:Obj),(∀ p∈ws,p.1≠i)->L9 (p8 h i o) ws=p8 (L9 h ws) i o
 | [],h,i,o,_=>rfl
 | (j,x)::ws,h,i,o,hn=>by
  rw [L9,L9,cM8 (Ne.symm (hn (j,x) b_)),bl7 ws _ i o fun p hp=>hn p (by simp [hp])]
theorem bl6:∀ (a b:List (Id × Obj)) (h:H),(∀ p∈a,∀ q∈b,p.1≠q.1)->L9 (L9 h a) b=L9 (L9 h b) a
 | [],b,h,_=>rfl
 | (i,o)::a,b,h,hn=>by
  rw [L9,bl6 a b _ (fun p hp q hq=>hn p (by simp [hp]) q hq),bl7 b h i o (fun q hq=>Ne.symm (hn (i,o) b_ q hq)),L9]
variable {tm:Nat->V}
theorem bd7 {e:Option Nat} {u:V} (h:∀ t,d=some t->e≠some t):upd (upd tm d u) e v=upd (upd tm e v) d u:=by
 cases d with
 | none=>rfl
 | some d =>
  cases e<;>grind [upd]
theorem bO6 {env:Nat->Option (List V)} {x:Operand} (h:∀ t,d=some t->x≠.tmp t):av env (upd tm d v) x=av env tm x:=by
 cases d with
 | none=>rfl
 | some d =>
  cases x<;>grind [av,upd]
theorem aE1 (h:∀ t,d=some t->t ∉ o.looksAt ops):aB4 ops o (upd tm d v)=aB4 ops o tm:=by
 unfold aB4;cases hg:o.guard with
 | none=>rfl
 | some x =>
  obtain ⟨j,want⟩:=x;simp only;cases ht:(ops[j]?).bind (·.dst) with
  | none=>rfl
  | some t =>
   cases d with
   | none=>rfl
   | some d =>
    grind [Oper.looksAt,upd]
theorem bc1 {t:Nat} (h:t ∉ o.looksAt ops):∀ x∈o.op.operands,x≠.tmp t:=by
 intro x hx e;subst e;exact h (cw9 _ (List.mem_filterMap.2 ⟨.tmp t,by simpa using hx,rfl⟩))
section
variable {P:Program} {env:Nat->Option (List V)} {ops:Array Oper} {gen reg:Nat}
theorem swap {x y:Nat × Option Eff} {l:List (Nat × Option Eff)} {σe:St} {ox oy:Oper} (hox:ops[x.1]? = some ox) (hoy:ops[y.1]? = some oy)
  (hap:oy.apart ops ox=true) (hin:bS2 y.2 x.2) (h:as0 P env ops gen reg (y::x::l) σ σe):as0 P env ops gen reg (x::y::l) σ σe:=by
 obtain ⟨a1,a2,a3⟩:=Oper.apart_spec hap;cases h with
 | cons _ _ _ σ1 _ hy t =>
  cases t with
  | cons _ _ _ σ2 _ hx t =>
   obtain ⟨iy,ey⟩:=y;obtain ⟨ix,ex⟩:=x;obtain ⟨oy',dX9,hy⟩:=hy;obtain ⟨ox',dX8,hx⟩:=hx;rw [hoy] at dX9;cases dX9;rw [hox] at dX8;cases dX8;cases ey with
   | none =>
    cases ex with
    | none =>
     refine .cons _ _ _ ⟨upd σ.tm ox.dst (.tup []),σ.h⟩ _ ⟨ox,hox,?_,rfl⟩ (.cons _ _ _ _ _ ⟨oy,hoy,?_,rfl⟩ ?_)
     all_goals grind [aE1,bd7]
    | some ex =>
     refine .cons _ _ _ (σ.put ox.dst ex) _ ⟨ox,hox,?_,?_,rfl⟩ (.cons _ _ _ _ _ ⟨oy,hoy,?_,rfl⟩ ?_)
     all_goals grind [aE1,aU0,bO6,bc1,St.put,bd7]
   | some ey =>
    obtain ⟨gy,sy,rfl⟩:=hy;cases ex with
    | none =>
     refine .cons _ _ _ ⟨upd σ.tm ox.dst (.tup []),σ.h⟩ _ ⟨ox,hox,?_,rfl⟩ (.cons _ _ _ _ _ ⟨oy,hoy,?_,?_,rfl⟩ ?_)
     all_goals grind [aE1,aU0,bO6,bc1,St.put,bd7]
    | some ex =>
     obtain ⟨gx,sx,rfl⟩:=hx;obtain ⟨i1,i2⟩:=hin;have wx:=bA3 sx;refine .cons _ _ _ (σ.put ox.dst ex) _ ⟨ox,hox,?_,?_,rfl⟩ (.cons _ _ _ _ _ ⟨oy,hoy,?_,?_,rfl⟩ ?_)
     ·rw [<- gx];exact (aE1 a1).symm
     ·refine aU0 (fun x hx=>bO6 (fun t ht=>bc1 (a1 t ht) x hx)) sx (fun id hid=>?_)
      exact (aJ5 _ _ _ fun p hp e=>i1 p hp (by rw [e];exact hid)).symm
     ·rw [<- gy];exact aE1 a3
     ·refine aU0 (fun x hx=>(bO6 (fun t ht=>bc1 (a3 t ht) x hx)).symm) sy (fun id hid=>?_)
      exact aJ5 _ _ _ fun p hp e=>i2 p hp (by rw [e];exact hid)
     grind [St.put,bd7,bl6]
theorem pull {x:Nat × Option Eff} {ox:Oper} (hox:ops[x.1]? = some ox):∀ (pre post:List (Nat × Option Eff)) (σ σe:St),
  (∀ y∈pre,∃ oy,ops[y.1]? = some oy/\oy.apart ops ox=true/\bS2 y.2 x.2) ->
  as0 P env ops gen reg (pre++x::post) σ σe->as0 P env ops gen reg (x::(pre++post)) σ σe
 | [],post,σ,σe,_,h=>h
 | y::pre,post,σ,σe,hy,h=>by
  obtain ⟨oy,h1,h2,h3⟩:=hy y b_;cases h with
  | cons _ _ _ σ1 _ hs t =>
   have:=pull hox pre post σ1 σe (fun z hz=>hy z (by simp [hz])) t;exact swap hox h1 h2 h3 (.cons _ _ _ _ _ hs this)
end
def dH5 (ops:List Oper):List Nat :=
 ops.foldl (fun acc o=>acc++[o.after.toList.foldl (fun s e=>if Region.binds .any e then s ||| (1 <<< e.on) ||| acc.getD e.on 0 else s) 0]) []
def cE9 (ops:Array Oper) (tab:List Nat):Bool :=
  (List.range ops.size).all fun j=>(List.range ops.size).all fun i=>!(tab.getD j 0).testBit i ||
    (match ops[j]? with
    | some o=>o.after.any fun e=>Region.binds .any e&&decide (e.on<j)&&(e.on==i||(tab.getD e.on 0).testBit i)
    | none=>false)

def cs7 (ops:Array Oper) (i j:Nat):Bool:=((dH5 ops.toList).getD j 0).testBit i
def aO0 (ops:Array Oper):Bool :=
  let tab:=dH5 ops.toList
  cE9 ops tab &&
  ((List.range ops.size).all fun j=>match ops[j]? with
    | some o=>(o.after.all fun e=>!Region.binds .any e||decide (e.on<j)) &&
      ((List.range j).all fun i=>(tab.getD j 0).testBit i||(match ops[i]? with|some p=>p.apart ops o|none=>false))
    | none=>false)


def aL1 (n:Nat) (ops:Array Oper):Bool:=ops.all fun o=>match o.dst with|some t=>decide (t<n)|none=>true
theorem as6 {n:Nat} (h:aL1 n ops=true) {i:Nat} (ho:ops[i]? = some o):∀ t,o.dst=some t->t<n:=by
 grind [aL1]
section
variable {P:Program} {env:Nat->Option (List V)} {ops:Array Oper} {gen reg n:Nat} (hn:aL1 n ops=true)
include hn
theorem bv4 {x:Nat × Option Eff} {σ':St} (h:cx5 P env ops gen reg x σ σ') (r:M1 env n g w a σ)
  {K:Act->World->Prop} (hk:∀ g' a' w',Ext g w g' w'->M1 env n g' w' a' σ'->K a' w'):wpOp P ops Q x.1 K a w:=by
 obtain ⟨o,ho,h⟩:=h;unfold wpOp;rw [ho];simp only;cases hx:x.2 with
 | some e =>
  grind [aB5,dP6,as6]
 | none =>
  rw [hx] at h;obtain ⟨hg,rfl⟩:=h;rw [aB5 r hg];exact hk g _ w (Ext.refl g w) (r.put (Ext.refl g w) (as6 hn ho) r.rel (.tup _ _ rfl b_))
theorem aS5:∀ (l:List (Nat × Option Eff)) {σ σe:St} (h:as0 P env ops gen reg l σ σe) {g:G} {w:World} {a:Act} (r:M1 env n g w a σ)
  {Q:Exit->Act->World->Prop} (hk:∀ g' a' w',Ext g w g' w'->M1 env n g' w' a' σe->Q .normal a' w'),wpOps P ops Q (l.map (·.1)) a w
 | [],_,_,.nil _,g,w,a,r,Q,hk=>hk g a w (Ext.refl g w) r
 | x::l,_,_,.cons _ _ _ σ1 _ hs t,g,w,a,r,Q,hk=>by
  exact bv4 hn hs r fun g' a' w' hx r'=>aS5 l t r' fun g2 a2 w2 hx2 r2=>hk g2 a2 w2 (hx.trans hx2) r2
end
theorem cs8 {tab:List Nat} (ht:cE9 ops tab=true) {listed:Array Bool}
  (hc:∀ j o,ops[j]? = some o->listed.getD j false=true->∀ e∈o.after,Region.binds .any e=true->listed.getD e.on false=true) :
  ∀ (j:Nat) (o:Oper),ops[j]? = some o->(∀ e∈o.after,Region.binds .any e=true->listed.getD e.on false=true) ->
   ∀ i,i<ops.size->(tab.getD j 0).testBit i=true->listed.getD i false=true:=by
 intro j
 induction j using Nat.strongRecOn with
 | _ j ih =>
  intro o ho hd i hi hb;have hj:j<ops.size:=(Z3.1 ho).1;unfold cE9 at ht;rw [ad2] at ht;have h1:=ht j (by simpa using hj);rw [ad2] at h1;have h2:=h1 i (by simpa using hi);rw [hb,ho] at h2;simp only [E7,aW4] at h2;rw [Array.any_eq_true] at h2;obtain ⟨q,hq,h3⟩:=h2;simp only [A3,bp0,aW3,L1] at h3;obtain ⟨⟨h4,h5⟩,h6⟩:=h3;have hm:o.after[q]∈o.after:=Array.getElem_mem hq;have hl:=hd _ hm h4;rcases h6 with h6|h6
  ·rw [<- h6];exact hl
  ·have hlt:(o.after[q]).on<ops.size:=by omega
   exact ih _ h5 ops[(o.after[q]).on] (aW1 hlt) (hc _ _ (aW1 hlt) hl) i hi h6
theorem ca0 (h:aO0 ops=true) :
  cE9 ops (dH5 ops.toList)=true/\∀ j o,ops[j]? = some o->(∀ e∈o.after,Region.binds .any e=true->e.on<j) /\
   ∀ i p,i<j->ops[i]? = some p->cs7 ops i j=true\/p.apart ops o=true:=by
 grind [aO0,Array.all_eq_true_iff_forall_mem,cs7]
def aN0 (ops:Array Oper) (x y:Nat × Option Eff):Prop:=cs7 ops x.1 y.1=true\/bS2 x.2 y.2
theorem M1.draw {env:Nat->Option (List V)} {n:Nat} (r:M1 env n g w a σ):Ext g w g { w with drawn:=w.drawn+1 }/\M1 env n g { w with drawn:=w.drawn+1 } a σ:=by
 have hx:Ext g w g { w with drawn:=w.drawn+1 } :=
  ⟨rfl,rfl,rfl,w7 _,fun _=>w7 _,fun _ _ _=>rfl,⟨fun _ _ h=>⟨rfl,h⟩,fun _ _ _ _ _ h=>⟨.inl rfl,h⟩⟩,fun _ h=>⟨h,rfl,.inl rfl⟩,w7 _⟩
 have g9:Rel env g { w with drawn:=w.drawn+1 } σ.h:=by
  have q:=r.rel;refine ⟨q.dom,q.top,fun id cs e=>?_,q.inj,fun id n k e=>?_,q.apart,q.U9,q.map,q.B3,fun k cs e=>(q.glob k cs e).mono hx⟩
  ·obtain ⟨vs,h1,h2,h3,h4,h5⟩:=q.box id cs e
   exact ⟨vs,h1,h2,fun i c v x y=>(h3 i c v x y).mono hx,h4,h5⟩
  ·obtain ⟨h1,h2,h3,h4⟩:=q.tok id n k e
   exact ⟨h1,h2,h3,h4⟩
 exact ⟨hx,g9,fun t=>(r.tm t).mono hx,r.size,r.defers⟩
section
variable {P:Program} {env:Nat->Option (List V)} {ops:Array Oper} {gen reg n:Nat} (hn:aL1 n ops=true) (hok:aO0 ops=true)
include hn hok
section
variable {R:G->World->Act->St->Prop} {S:Nat->(Act->World->Prop)->Act->World->Prop} {W:Nat->Array Bool->Act->World->Prop} {Qn:Act->World->Prop}
  (hS:∀ {x:Nat × Option Eff} {σ σ':St} {g:G} {w:World} {a:Act} {K:Act->World->Prop},cx5 P env ops gen reg x σ σ'->R g w a σ->(∀ g' a' w',Ext g w g' w'->R g' w' a' σ'->K a' w')->S x.1 K a w)
  (hW0:∀ (listed:Array Bool) (a:Act) (w:World),Region.ready .any ops listed=[]->Qn a w->W 0 listed a w)
  (hW:∀ (fuel:Nat) (listed:Array Bool) (a:Act) (w:World),(Region.ready .any ops listed=[]->Qn a w)->(∀ i∈Region.ready .any ops listed,S i (W fuel (listed.setIfInBounds i true)) a w)->W (fuel+1) listed a w)
  {σe:St} {g0:G} {w0:World} (hk:∀ g' a' w',Ext g0 w0 g' w'->R g' w' a' σe->Qn a' w')
include hS hW0 hW hk
omit hn in
theorem cn5 :
    ∀ (fuel:Nat) (l:List (Nat × Option Eff)) (listed:Array Bool) (σ:St) (g:G) (w:World) (a:Act),l.length<=fuel->listed.size=ops.size ->
      (∀ i,(∃ x∈l,x.1=i)↔(i<ops.size/\listed.getD i true=false))->l.Pairwise (fun x y=>x.1<y.1)->l.Pairwise (aN0 ops) ->
      (∀ j o,ops[j]? = some o->listed.getD j false=true->∀ e∈o.after,Region.binds .any e=true->listed.getD e.on false=true) ->
      as0 P env ops gen reg l σ σe->Ext g0 w0 g w->R g w a σ->W fuel listed a w:=by

  obtain ⟨ht,hsp⟩:=ca0 hok;have ef3:∀ (l:List (Nat × Option Eff)) (listed:Array Bool),listed.size=ops.size->(∀ i,(∃ x∈l,x.1=i)↔(i<ops.size/\listed.getD i true=false)) ->
      l.Pairwise (fun x y=>x.1<y.1)->l≠[]->Region.ready .any ops listed≠[]:=by
    intro l listed hsz hm hp hne;cases l with
    | nil=>exact absurd rfl hne
    | cons x l =>
      have hx:=(hm x.1).1 ⟨x,b_,rfl⟩;have:x.1∈Region.ready .any ops listed:=by
        rw [mem_ready];refine ⟨hx.2,ops[x.1]'hx.1,aW1 hx.1,fun e he hb=>?_⟩;have hlt:=(hsp x.1 _ (aW1 hx.1)).1 e he hb;cases hq:listed.getD e.on false with
        | true=>rfl
        | false =>
          have cM9:e.on<listed.size:=by omega
          have:listed.getD e.on true=false:=by
            simp [cM9] at hq ⊢;exact hq
          obtain ⟨y,hy,e1⟩:=(hm e.on).2 ⟨a_,this⟩;rcases D9.1 hy with rfl|hy
          · omega
          · have:=(bC7.1 hp).1 y hy;omega
      grind
  intro fuel
  induction fuel with
  | zero =>
    intro l listed σ g w a hl hsz hm hp hpo hc hch hx r;have:l=[]:=ci9 a_;subst this;cases hch;refine hW0 _ _ _ ?_ (hk g a w hx r);apply List.eq_nil_iff_forall_not_mem.2
    grind [mem_ready]
  | succ fuel ih =>
    intro l listed σ g w a hl hsz hm hp hpo hc hch hx r;refine hW _ _ _ _ (fun hr=>?_) fun i hi=>?_
    · by_cases hne:l=[]
      · subst hne;cases hch;exact hk g a w hx r
      grind
    · have hi':=mem_ready.1 hi
      obtain ⟨h1,o,ho,hd⟩:=hi';have dW3:i<ops.size:=(Z3.1 ho).1;obtain ⟨x,hxl,rfl⟩:=(hm i).2 ⟨dW3,h1⟩;obtain ⟨pre,post,rfl⟩:=List.append_of_mem hxl;have dY1:=pull (P:=P) (env:=env) (gen:=gen) (reg:=reg) ho pre post σ σe (fun y hy=>by
        have hy':=(hm y.1).1 ⟨y,by simp [hy],rfl⟩;have hlt:y.1<x.1:=(bN3.1 hp).2.2 y hy x b_;have hpk:aN0 ops y x:=(bN3.1 hpo).2.2 y hy x b_;have dX6:cs7 ops y.1 x.1≠true:=by
          intro hb;have:=cs8 ht hc x.1 o ho hd y.1 hy'.1 hb;have h2:=hy'.2;have cM9:y.1<listed.size:=by rw [hsz];exact hy'.1
          simp [cM9] at this h2;rw [this] at h2;exact Bool.noConfusion h2
        refine ⟨ops[y.1]'hy'.1,aW1 hy'.1,?_,?_⟩
        · grind
        · exact hpk.resolve_left dX6) hch
      cases dY1 with
      | cons _ _ _ σ1 _ hs t =>
        refine hS hs r fun g' a' w' hx' r'=>?_;have bh4:(pre++post).Sublist (pre++x::post):=List.Sublist.append_left (List.sublist_cons_self x post) pre;refine ih (pre++post) (listed.setIfInBounds x.1 true) σ1 g' w' a' (by simp at hl ⊢;omega) (by simpa using hsz) ?_ (hp.sublist bh4) (hpo.sublist bh4) ?_ t (hx.trans hx') r'
        · intro i
          constructor
          · rintro ⟨y,hy,rfl⟩
            have hy2:=(hm y.1).1 ⟨y,bh4.subset hy,rfl⟩;have hne:x.1≠y.1:=by
              rcases Q8.1 hy with hy|hy
              · have:=(bN3.1 hp).2.2 y hy x b_;omega
              · have:=(bC7.1 (bN3.1 hp).2.1).1 y hy;omega
            exact ⟨hy2.1,by rw [getD_set_ne true hne];exact hy2.2⟩
          · rintro ⟨hi1,hi2⟩
            have hne:x.1≠i:=by
              intro e;subst e;have:x.1<listed.size:=by rw [hsz];exact dW3
              simp [this] at hi2
            rw [getD_set_ne true hne] at hi2
            grind
        · intro j o' ho' hj e he hb
          by_cases hjx:x.1=j
          · grind [getD_set_true]
          · rw [getD_set_ne false hjx] at hj
            grind [getD_set_true]

omit hn in
theorem bl2 {l:List (Nat × Option Eff)} (hl:l.map (·.1)=List.range ops.size) (hpo:l.Pairwise (aN0 ops))
  (hch:as0 P env ops gen reg l σ σe) (hx:Ext g0 w0 g w) (r:R g w a σ):W ops.size (Array.replicate ops.size false) a w:=by
 refine cn5 hok hS hW0 hW hk ops.size l _ σ g _ a ?_ b_ ?_ ?_ hpo ?_ hch hx r
 ·have:=congrArg List.length hl;simp at this;omega
 ·intro i
  have:(∃ x∈l,x.1=i)↔i∈l.map (·.1):=by simp
  simp_all
 ·grind [List.pairwise_lt_range]
 ·intro j o ho hj
  have hjl:j<ops.size:=(Z3.1 ho).1;simp [hjl] at hj
end
theorem ba5 {l:List (Nat × Option Eff)} {σe:St} (hm:P.follows .mixedOrders=true) (hl:l.map (·.1)=List.range ops.size) (hpo:l.Pairwise (aN0 ops))
  (hch:as0 P env ops gen reg l σ σe) (r:M1 env n g w a σ)
  (hk:∀ g' a' w',Ext g w g' w'->M1 env n g' w' a' σe->Q .normal a' w') {id:Nat}:(Code.region id ops true).wp P Q a w :=
 wp_region_any hm (bl2 (S:=fun i K=>wpOp P ops Q i K) hok (fun h r k=>bv4 hn h r k) (fun _ _ _ h q=>⟨h,q⟩) (fun _ _ _ _ h q=>⟨h,q⟩) hk hl hpo hch r.draw.1 r.draw.2)
end
end GoAbs
