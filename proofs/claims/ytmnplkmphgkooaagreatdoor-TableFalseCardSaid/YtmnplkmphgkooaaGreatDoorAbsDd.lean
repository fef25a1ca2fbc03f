/-
 The abstract layer: plain laws, further ones.
-/
import Derived.Test.YtmnplkmphgkooaaGreatDoorAbsDb
import Derived.Test.YtmnplkmphgkooaaGreatDoorAbsDc
import Derived.Test.YtmnplkmphgkooaaGreatDoorAbsD
import Derived.ArgAppend
import Derived.OrdersIn
import Derived.BigRegionIn
set_option linter.unusedSimpArgs false
set_option linter.unusedVariables false
set_option linter.unusedSectionVars false
namespace GoAbs
open Go Go.RowKit
theorem stepIn_nothing {P:Program} {ops:Array Oper} {o:Oper} {a:Act} {w:World} {K:Act→World→Prop} {Q:Exit→Act→World→Prop} {E:Prop} {m:Nat}
  (hg:o.guard=none) (s x:Operand) (t:TypeId) (hop:o.op=Op.call { callee:=Callee.builtin Builtin.append,args:=#[s,x],argTypes:=#[t,t] })
  (e:TypeId) (i:TypeInfo) (h1:P.underlying t=some (.slice e)) (h2:P.info? e=some i)
  (ao:Option Addr) (n cap:Nat) (hs:a.eval s=.slice ao n cap) (hle:n≤cap) (bo:Option Addr) (c:Nat) (hx:a.eval x=.slice bo 0 c)
  (hK:K (a.put o.dst (.slice ao n cap)) w) :
  if Region.wanted o (yielded ops a.tmps)=true then Oper.wpIn Fence.wide m P o a w K Q else E:=by
 have hw:Region.wanted o (yielded ops a.tmps)=true:=by simp [Region.wanted,hg]
 rw [if_pos hw]
 have hrun:(Builtin.append_ #[t,t] o.type #[.slice ao n cap,.slice bo 0 c]).run P w=.ok (.slice ao n cap) w:=by
  cases ao<;>cases bo<;>simp [Builtin.append_,run_underlying h1,Go.sizeOf,typeInfo,h2,Builtin.lenOf,hle,Builtin.firstCells,loadCells,loadCellsFrom,storeCells]
 refine ⟨fun f _=>trivial,?_⟩
 have:(o.semAt Fence.wide.round a.eval).run P w=.ok (.value (.slice ao n cap)) w:=by
  simp [Oper.semAt,Fence.wide,execOp,hop,resolve,invoke,builtin,hs,hx,hrun,Result.andThen]
 rw [this]
 exact hK
theorem stepIn_grow {P:Program} {ops:Array Oper} {o:Oper} {a:Act} {w:World} {K:Act→World→Prop} {Q:Exit→Act→World→Prop} {E:Prop} {l:Nat}
  (hg:o.guard=none) (s x:Operand) (t:TypeId) (hop:o.op=Op.call { callee:=Callee.builtin Builtin.append,args:=#[s,x],argTypes:=#[t,t] })
  (e:TypeId) (i:TypeInfo) (z:Value) (h1:P.underlying t=some (.slice e)) (h2:P.info? e=some i) (h3:i.zero=some z)
  (b:Addr) (cap:Nat) (hs:a.eval s=.slice (some b) 0 cap)
  (ad:Addr) (m c:Nat) (news:List Value) (hx:a.eval x=.slice (some ad) m c) (hn:news.length=m * i.size) (hc:∀ j u,news[j]? = some u→w.cell? (ad.add j)=some u)
  (hfull:cap<m) (b1:m≤1000) (b2:i.bytes≤1000)
  (hK:∀ (c':Nat) (arr:Array Value),m≤c'→(∀ (j:Nat) (u:Value),news[j]? = some u→arr[j]? = some u)→K (a.put o.dst (.slice (some ⟨w.heap.size,0,none⟩) m c')) (w.drew.alloc (.cells arr e))) :
  if Region.wanted o (yielded ops a.tmps)=true then Oper.wpIn Fence.wide l P o a w K Q else E:=by
 have hw:Region.wanted o (yielded ops a.tmps)=true:=by simp [Region.wanted,hg]
 rw [if_pos hw]
 have hmb:m * i.bytes≤140737488355328:=Nat.le_trans (Nat.mul_le_mul b1 b2) (by decide)
 have hrun:=run_append_grow (P:=P) w t o.type e i z h1 h2 h3 b 0 cap [] (by simp) (fun j u h=>by simp at h) ad m c news hn hc (by omega) (by omega) (growslice_fits (by omega) (by simpa using hmb))
 rw [Nat.zero_add] at hrun
 refine ⟨fun f _=>trivial,?_⟩
 have:(o.semAt Fence.wide.round a.eval).run P w=.ok (.value (.slice (some ⟨w.heap.size,0,none⟩) m (grownCap w m cap e))) (w.drew.alloc (.cells ((#[]:Array Value)++news.toArray++Builtin.zeroCells z.cells (grownCap w m cap e - m)) e)):=by
  simp [Oper.semAt,Fence.wide,execOp,hop,resolve,invoke,builtin,hs,hx,hrun,Result.andThen]
 rw [this]
 refine hK _ _ (grownCap_ge w m cap e) fun j u h=>?_
 have hj:j<news.length:=(List.getElem?_eq_some_iff.1 h).1
 rw [Array.getElem?_append_left (by simp;omega)]
 simpa using h
def yO (c:Ctx):YC:=⟨Fence.wide,[],fun _ w=>c.w0.heap.size≤w.heap.size,bodyPostM Fence.wide 0 c.P c.fn c.R,fun _=>False,c.w0.heap.size⟩
theorem yO_ok (c:Ctx):YOk c (yO c) :=
 ⟨fun _=>trivial,rfl,fun k args w R h=>callsIn_wide.2 h,fun h=>h,fun h=>h,fun g w g' w' x h=>Nat.le_trans h x.size,
  fun g W W' B hB t hz h=>Nat.le_trans h t.size,fun g w g' w' hf h x ho=>Nat.le_trans h x.size,fun g w h=>h,fun _ h=>h.elim⟩
abbrev xT:G→World→Prop:=fun _ _=>True
theorem xT_st {bd:Nat}:XSt bd xT:=⟨fun _ _ _ _ _ h=>h,fun _ _ _ _ _ _ _ h=>h⟩
theorem ARX_O {c:Ctx} {gen:Nat} {k:List It} {e:Exit} {σ:St} (h:ARX c ((yO c).at xT) gen k e σ):ARX c (xF c) gen k e σ :=
 fun g a w hx _ r=>h g a w hx ⟨trivial,hx.size⟩ r
theorem ARX_oendM {c:Ctx} {X:G→World→Prop} {D gen:Nat} {σ:St} (hm:c.P.follows .mixedOrders=true) (hl0:∀ b,c.w0.heap.size≤b→c.g0.lim b=0) (hD:c.w0.heap.size≤D) (h:AR c gen [] .ret σ) :
  ARX c (((yO c).mk1 D).at X) gen [] .ret σ:=by
 intro g a w hx ⟨_,h1,h4,h5⟩ r
 exact ARX_doneD hm hl0 h g a w hx ⟨hD,h5,h4⟩ r
theorem After.trans {C:Cons} {g1 g2 g3:G} {w1 w2 w3:World} {h1 h2 h3:H} (a:After C g1 w1 h1 g2 w2 h2) (b:After C g2 w2 h2 g3 w3 h3):After C g1 w1 h1 g3 w3 h3 :=
 ⟨ext_via a.ext free_wr b.ext,fun id q1 q2=>(b.same id q1 (by rw [a.same id q1 q2];exact q2)).trans (a.same id q1 q2),fun b0 o q1 q2 q3=>b.obj b0 o q1 (a.obj b0 o q1 q2 q3) q3⟩
def RawIt (P:Program) (gf:Nat) (g:G) (w:World) (x:Value) (n:Nat) (vals:Nat→Value) (prot:List Value):Prop :=
 ∀ (l:Nat) (K:Nat→Option Nat→World→Prop) (Kx:World→Prop),(∀ i p W o,K i p W→K i p (W.alloc o))→(∀ i p W,K i p W→K i p W.drew) →
  (∀ i W arr ty,K i none W→(∀ (j:Nat) u,prot[j]? = some u→arr[j]? = some u)→K i (some W.heap.size) (W.alloc (.cells arr ty))) →
  (∀ i p W,K i p W→∀ b o,o<g.lim b→W.cell? ⟨b,o,none⟩=w.cell? ⟨b,o,none⟩) →
  (∀ i b W,K i (some b) W→∀ (j:Nat) u,prot[j]? = some u→W.cell? ⟨b,j,none⟩=some u) →
  (∀ i p W,i<n→K i p W→YieldAt Fence.wide (0 - 1) P l #[vals i] W fun e W'=>(e=.returned (.bool true)∧K (i+1) p W')∨(e=.returned (.bool false)∧Kx W')) →
  ∀ W,K 0 none W→CallsIn Fence.wide 0 P gf #[.func (.yield l) #[] #[],x] W fun e W'=>(∃ v,e=.returned v)∧((∃ p,K n p W')∨Kx W')
theorem iter_of_raw {P:Program} {env:Nat→Option (List V)} {gf:Nat} {cs:List V} {vs:List (List V)} (hcall:Callable P gf)
  (hraw:∀ g w x,RV g w x (.el cs 0)→∃ (vals:Nat→Value) (prot:List Value),(∀ (i:Nat) v,vs[i]? = some v→∃ v0,v=[v0]∧RV g w (vals i) v0)∧RawIt P gf g w x vs.length vals prot) :
  Iter P env (.fn (.func gf) [] [.el cs 0]) vs:=by
 intro g w x hx
 cases hx with
 | fn _ fs cs1 _ _ l1 l2 _ r2 =>
 have e1:fs=#[]:=by simpa using l1
 subst e1
 obtain ⟨c1,rfl⟩:∃ c1,cs1=#[c1]:=by
  have h2':cs1.size=1:=l2
  refine ⟨cs1[0],?_⟩
  apply Array.ext
  ·simpa using h2'
  ·intro i hi hi2;simp at hi2;subst hi2;rfl
 obtain ⟨vals,prot,hvals,hgo⟩:=hraw g w c1 (r2 0 c1 _ rfl rfl)
 refine ⟨gf,#[c1],rfl,hcall,fun C hC g1 W1 h1 x1 q1 hY hbase=>?_⟩
 have hlim:=q1.limnew
 refine (hgo C.l
  (fun i p W=>∃ g' h',After C g1 W1 h1 g' W h'∧Rel env g' W h'∧C.Y i g' W h'∧∀ b,p=some b→prot.length≤g'.lim b∧∀ (j:Nat) u,prot[j]? = some u→W.cell? ⟨b,j,none⟩=some u)
  (fun W=>∃ g' h',After C g1 W1 h1 g' W h'∧Rel env g' W h'∧C.Z g' W h') ?_ ?_ ?_ ?_ ?_ ?_ W1 ?_).mono ?_
 ·rintro i p W o ⟨g',h',a,q,y,z⟩
  have t:Turned W.heap.size W (W.alloc o):=turned_alloc (Nat.le_refl _)
  have hbd:=hC.Ybd _ _ _ _ y
  refine ⟨g'.up W.heap.size,h',⟨t.extF hlim a.ext,a.same,fun b o' q1 q2 q3=>?_⟩,t.rel q,hC.Yt _ _ _ _ _ _ hbd t q.limnew y,fun b hb=>?_⟩
  ·have:=a.obj b o' q1 q2 q3
   exact (t.same b (Array.getElem?_eq_some_iff.1 this).1).trans this
  ·obtain ⟨z1,z2⟩:=z b hb
   refine ⟨z1,fun j u hu=>?_⟩
   have hc:=z2 j u hu
   exact (t.cell b j (World.block_lt_of_cell? _ _ hc)).trans hc
 ·rintro i p W ⟨g',h',a,q,y,z⟩
  have x:=Ext.drew g' W
  exact ⟨g',h',⟨a.ext.trans x,a.same,a.obj⟩,q.drew,hC.Yext _ _ _ _ _ _ x y,z⟩
 ·rintro i W arr ty ⟨g',h',a,q,y,z⟩ harr
  obtain ⟨g'',x,q',hl⟩:=new_row q arr ty
  have hsz:prot.length≤arr.size:=by
   rcases Nat.eq_zero_or_pos prot.length with h0|h0
   ·omega
   ·have:=harr (prot.length - 1) _ (List.getElem?_eq_getElem (by omega))
    have:=(Array.getElem?_eq_some_iff.1 this).1
    omega
  refine ⟨g'',h',⟨a.ext.trans x,a.same,fun b o q1 q2 q3=>?_⟩,q',hC.Yext _ _ _ _ _ _ x y,fun b hb=>?_⟩
  ·have:=a.obj b o q1 q2 q3
   exact (Go.RowKit.Below.heap_alloc W _ b (Array.getElem?_eq_some_iff.1 this).1).trans this
  ·cases hb
   refine ⟨by rw [hl];exact hsz,fun j u hu=>?_⟩
   have e:=harr j u hu
   simp [World.cell?_alloc_new,e]
 ·rintro i p W ⟨g',h',a,q,y,z⟩ b o ho
  have h1':o<g1.lim b:=Nat.lt_of_lt_of_le ho (x1.lim b)
  exact (a.ext.cells b o h1').trans (x1.cells b o ho)
 ·rintro i b W ⟨g',h',a,q,y,z⟩ j u hu
  exact (z b rfl).2 j u hu
 ·rintro i p W hi ⟨g',h',a,q,y,z⟩
  obtain ⟨v0,hv,hrv⟩:=hvals i _ (List.getElem?_eq_getElem hi)
  have hr:=hC.round i [v0] [vals i] g' W h' (by rw [List.getElem?_eq_getElem hi,hv]) y q rfl (fun j x v hx hv=>by
   match j with
   | 0=>simp at hx hv;subst hx;subst hv;exact ((hrv.mono x1).wrs _).mono a.ext
   | j+1=>simp at hx)
  obtain ⟨fn,tmps,assign,body,hy,hR⟩:=hr
  refine ⟨fn,tmps,assign,body,hy,hR.mono ?_⟩
  rintro e W' ⟨g'',h'',b,q',hh⟩
  have hz:∀ b0,p=some b0→prot.length≤g''.lim b0∧∀ (j:Nat) u,prot[j]? = some u→W'.cell? ⟨b0,j,none⟩=some u:=fun b0 hb=>by
   obtain ⟨z1,z2⟩:=z b0 hb
   refine ⟨Nat.le_trans z1 (b.ext.lim b0),fun j u hu=>?_⟩
   have hj:j<prot.length:=(List.getElem?_eq_some_iff.1 hu).1
   exact (b.ext.cells b0 j (Nat.lt_of_lt_of_le hj z1)).trans (z2 j u hu)
  rcases hh with ⟨he,hy'⟩|⟨he,hz'⟩
  ·exact .inl ⟨he,g'',h'',a.trans b,q',hy',hz⟩
  ·exact .inr ⟨he,g'',h'',a.trans b,q',hz'⟩
 ·exact ⟨g1,h1,⟨ext_free (Ext.refl _ _),fun _ _ _=>rfl,fun _ _ _ h _=>h⟩,q1,hY,fun b hb=>by cases hb⟩
 ·rintro e W' ⟨hv,⟨p,g',h',a,q,y,z⟩|⟨g',h',a,q,z⟩⟩
  ·exact ⟨hv,g',h',a,q,.inl y⟩
  ·exact ⟨hv,g',h',a,q,.inr z⟩
def PlainTy (t:Ty):Prop:=t=tNat∨t=tList∨t=tUnit∨t=tPair tNat tList∨t=tPair tNat tNat
theorem PlainTy.mk {t:Ty} (h:PlainTy t):MkTy 1 t:=by
 rcases h with rfl|rfl|rfl|rfl|rfl
 ·exact .nat
 ·exact .list
 ·exact .unit
 ·exact .pair .nat .list
 ·exact .pair .nat .nat
theorem PlainTy.G {t:Ty} (h:PlainTy t):TyG t:=h.mk.G (by omega)
def numsT (m:Nat):List Tm:=(List.range (m+1)).map numT
def consT (a l:Tm):Tm:=tm0 8 [a,l]
def nilT:Tm:=tm0 7 []
def listsT (m:Nat):List Tm :=
 nilT::((numsT m).map fun a=>consT a nilT)++(numsT m).flatMap fun a=>(numsT m).map fun b=>consT a (consT b nilT)
def pairUp (r:List Tm):List Tm→List Tm→List Tm
 | out,[]=>out
 | out,a::l =>
  let o:=out++r.map fun b=>tm0 10 [a,b]
  if o.length≥64 then o else pairUp r o l
def candN:Nat→Ty→Nat→List Tm
 | 0,_,_=>[]
 | n+1,t,m =>
  let o:List Tm :=
   if t.kind==1 then numsT m
   else if t.kind==2 then listsT m
   else match t.kind==3,t.kind==4,t.args with
    | true,_,[a,b]=>pairUp (candN n b m) [] (candN n a m)
    | _,true,[a,b]=>(if Ty.same a b then [tmT 2 a [tmVar 0]] else [])++(candN n b m).map fun c=>tmT 2 a [c]
    | _,_,_=>[tm0 13 []]
  o.take 64
theorem candN_nat {n m:Nat}:candN (n+1) tNat m=(numsT m).take 64:=by simp [candN,tNat,Ty.kind]
theorem candN_list {n m:Nat}:candN (n+1) tList m=(listsT m).take 64:=by simp [candN,tList,Ty.kind]
theorem candN_unit {n m:Nat}:candN (n+1) tUnit m=[tm0 13 []]:=by simp [candN,tUnit,Ty.kind,Ty.args]
theorem candN_pair {n m:Nat} {a b:Ty}:candN (n+1) (tPair a b) m=(pairUp (candN n b m) [] (candN n a m)).take 64:=by simp [candN,tPair,Ty.kind,Ty.args]
theorem candN_fun {n m:Nat} {a b:Ty}:candN (n+1) (tFun a b) m=((if Ty.same a b then [tmT 2 a [tmVar 0]] else [])++(candN n b m).map fun c=>tmT 2 a [c]).take 64:=by simp [candN,tFun,Ty.kind,Ty.args]
theorem candN_len:∀ {n m:Nat} {t:Ty},(candN n t m).length≤64
 | 0,_,_=>by simp [candN]
 | n+1,_,_=>by rw [candN];simp only [List.length_take];omega
theorem numsT_len {m:Nat}:(numsT m).length=m+1:=by simp [numsT]
theorem numsT_get {m i:Nat} (h:i≤m):(numsT m)[i]? = some (numT i):=by simp [numsT,List.getElem?_range (show i<m+1 by omega)]
structure CandOk (g:List Ty) (t:Ty) (B:Nat) (x:Tm):Prop where
 ty:HasTy TyG g x t
 gd:TmG x
 sz:tmSz x≤B
 w:TmW x
theorem CandOk.up {g:List Ty} {t:Ty} {B C:Nat} {x:Tm} (h:CandOk g t B x) (hb:B≤C):CandOk g t C x:=⟨h.ty,h.gd,Nat.le_trans h.sz hb,h.w⟩
theorem CandOk.num {g:List Ty} {m:Nat}:∀ i,i≤m→CandOk g tNat (m+1) (numT i):=fun i hi=>⟨.num i,numT_G i,by rw [tmSz_num];omega,numT_W i⟩
theorem numsT_ok {g:List Ty} {m:Nat}:∀ x∈numsT m,CandOk g tNat (m+1) x:=by
 intro x hx
 simp only [numsT,List.mem_map,List.mem_range] at hx
 obtain ⟨i,hi,rfl⟩:=hx
 exact .num i (by omega)
theorem nilT_ok {g:List Ty}:CandOk g tList 1 nilT:=⟨.n0 (ty:=.mk 0 []) .nil,.t0 rfl rfl,by unfold nilT;rw [tmSz_0];omega,tm0_W0⟩
theorem consT_ok {g:List Ty} {A B:Nat} {a l:Tm} (ha:CandOk g tNat A a) (hl:CandOk g tList B l):CandOk g tList (A+B+1) (consT a l) :=
 ⟨.n2 (ty:=.mk 0 []) .cons ha.ty hl.ty,.t2 rfl rfl ha.gd hl.gd,by unfold consT;rw [tmSz_2];have:=ha.sz;have:=hl.sz;omega,tm0_W2 ha.w hl.w⟩
theorem listsT_ok {g:List Ty} {m:Nat}:∀ x∈listsT m,CandOk g tList (2 * m+6) x:=by
 intro x hx
 simp only [listsT,List.cons_append,List.mem_cons,List.mem_append,List.mem_map,List.mem_flatMap] at hx
 rcases hx with rfl|⟨a,ha,rfl⟩|⟨a,ha,b,hb,rfl⟩
 ·exact nilT_ok.up (by omega)
 ·exact (consT_ok (numsT_ok _ ha) nilT_ok).up (by omega)
 ·exact (consT_ok (numsT_ok _ ha) (consT_ok (numsT_ok _ hb) nilT_ok)).up (by omega)
theorem pairUp_mem {r:List Tm}:∀ {l out:List Tm} {x:Tm},x∈pairUp r out l→x∈out∨∃ a∈l,∃ b∈r,x=tm0 10 [a,b]
 | [],_,_,h=>.inl h
 | c::l,out,x,h=>by
  have one:x∈out++(r.map fun b=>tm0 10 [c,b])→x∈out∨∃ a∈c::l,∃ b∈r,x=tm0 10 [a,b]:=by
   intro h
   rcases List.mem_append.1 h with h|h
   ·exact .inl h
   ·obtain ⟨b,hb,rfl⟩:=List.mem_map.1 h
    exact .inr ⟨c,by simp,b,hb,rfl⟩
  rw [pairUp] at h
  split at h
  ·exact one h
  ·rcases pairUp_mem h with h|⟨a,ha,b,hb,rfl⟩
   ·exact one h
   ·exact .inr ⟨a,by simp [ha],b,hb,rfl⟩
theorem pairUp_pos {r:List Tm} (hr:1≤r.length):∀ {l out:List Tm},1≤l.length∨1≤out.length→1≤(pairUp r out l).length
 | [],out,h=>by rw [pairUp];simpa using h
 | c::l,out,h=>by
  rw [pairUp]
  split
  ·simp;omega
  ·exact pairUp_pos hr (.inr (by simp;omega))
theorem alloc_setRow (w:World) (a b:Array Value) (e:TypeId):(w.alloc (.cells a e)).setRow w.heap.size b=w.alloc (.cells b e):=by
 unfold World.setRow World.alloc
 simp only
 congr 1
 apply Array.ext
 ·simp
 ·intro i h1 h2
  simp only [Array.size_modify,Array.size_push] at h1
  rw [Array.getElem_modify]
  by_cases hi:w.heap.size=i
  ·subst hi;simp
  ·simp [hi,Array.getElem_push,show i<w.heap.size by omega]
theorem setRow_comm (w:World) {i j:Nat} (hij:i≠j) (a b:Array Value):(w.setRow i a).setRow j b=(w.setRow j b).setRow i a:=by
 unfold World.setRow
 simp only
 congr 1
 apply Array.ext
 ·simp
 ·intro k h1 h2
  simp only [Array.getElem_modify]
  by_cases hi:i=k
  ·subst hi;simp [Ne.symm hij]
  ·by_cases hj:j=k
   ·subst hj;simp [hi]
   ·simp [hi,hj]
def spliceA (vs:Array Value) (p:Nat) (xs:Array Value):Array Value:=(vs.toList.take p++xs.toList++vs.toList.drop (p+xs.size)).toArray
theorem spliceA_size {vs xs:Array Value} {p:Nat} (h:p+xs.size≤vs.size):(spliceA vs p xs).size=vs.size:=by
 unfold spliceA;simp;omega
theorem spliceA_lo {vs xs:Array Value} {p q:Nat} (h:p+xs.size≤vs.size) (hq:q<p):(spliceA vs p xs)[q]? = vs[q]? := by
 unfold spliceA
 rw [List.append_assoc]
 simp only [List.getElem?_toArray]
 rw [List.getElem?_append_left (by simp;omega),List.getElem?_take,if_pos hq]
 simp
theorem spliceA_mid {vs xs:Array Value} {p q:Nat} (h:p+xs.size≤vs.size) (hq:q<xs.size):(spliceA vs p xs)[p+q]? = xs[q]? := by
 have el:(vs.toList.take p).length=p:=by simp;omega
 unfold spliceA
 rw [List.append_assoc]
 simp only [List.getElem?_toArray]
 rw [List.getElem?_append_right (by omega),el,List.getElem?_append_left (by simp;omega)]
 rw [show p+q - p=q by omega]
 simp
theorem spliceA_two {vs xs ys:Array Value} {p:Nat} (h:p+xs.size≤vs.size) (hs:xs.size=ys.size):spliceA (spliceA vs p xs) p ys=spliceA vs p ys:=by
 apply Array.ext'
 unfold spliceA
 have el:(vs.toList.take p).length=p:=by simp;omega
 have ex:(xs.toList).length=ys.size:=by simpa using hs
 simp only [List.append_assoc]
 have e1:List.take p (vs.toList.take p++(xs.toList++vs.toList.drop (p+xs.size)))=vs.toList.take p:=by
  rw [List.take_append_of_le_length (by omega),List.take_take,Nat.min_self]
 have e2:List.drop (p+ys.size) (vs.toList.take p++(xs.toList++vs.toList.drop (p+xs.size)))=vs.toList.drop (p+ys.size):=by
  rw [List.drop_append,el,List.drop_of_length_le (by omega),List.nil_append,show p+ys.size - p=ys.size by omega,List.drop_append,List.drop_of_length_le (by omega),ex,Nat.sub_self,List.drop_zero,List.nil_append,hs]
 rw [e1,e2]
section
variable {P:Program} {env:Nat→Option (List V)} {g:G} {w:World} {h:H} {ρc:Operand→Value} (r:Rel env g w h)
include r
theorem app_raw {o:Oper} {x y:Operand} {t:TypeId} {i:TyI} (ho:o.op=.call { callee:=.builtin .append,args:=#[x,y],argTypes:=#[t,t] }) (hT:tyi P t=some i) (hk1:i.kind=4) (hk3:i.esize≠0) (hk4:i.ezero.length=i.esize)
  {c:Cap} {es:List (List V)} (hx:RV g w (ρc x) (.sl c es)) (hes':∀ e∈es,e.length=i.esize) {c0:Cap} {zs:List V} (hy:RV g w (ρc y) (.sl c0 [zs])) (hzs:zs.length=i.esize) (hz1:zs.all oneV=true)
  (hk8:(es.length+1) * i.ebytes≤140737488355328) (hk9:es.length+1≤140737488355328) {nid:Id} (hn:h nid=none) (hcc:c=.full∨∃ id,c=.own id∧h id=some (.tok es.length i.esize)) :
  ∃ id b off cap W1 vs1 ty,((c=.full∧id=nid)∨c=.own id)∧(execOp ρc o).run P w=.ok (.value (.slice (some ⟨b,off,none⟩) (es.length+1) cap)) W1∧W1.heap[b]? = some (.cells vs1 ty (0,0)) ∧
   off+es.length * i.esize+i.esize≤vs1.size∧(∀ j cs,h j=some (.box cs)→g.loc j≠b∧j≠id∧W1.heap[g.loc j]? = w.heap[g.loc j]?)∧w.heap.size≤W1.heap.size ∧
   ∀ (xs:Array Value) (e:List V),RVL g w xs e→e.length=i.esize→∃ g',Ext g w g' (W1.setRow b (spliceA vs1 (off+es.length * i.esize) xs))∧Rel env g' (W1.setRow b (spliceA vs1 (off+es.length * i.esize) xs)) (hset h id (.tok (es.length+1) i.esize)) ∧
    RV g' (W1.setRow b (spliceA vs1 (off+es.length * i.esize) xs)) (.slice (some ⟨b,off,none⟩) (es.length+1) cap) (.sl (.own id) (es++[e])):=by
 obtain ⟨inf,d,z,i1,i2,i0,is,ib,ia,iz,_,ik4,_,_,_,_,_,iez⟩:=tyi_inv hT
 obtain ⟨e,rfl,hes,heb,_⟩:=ik4 hk1
 obtain ⟨ie,de,he1,he2,he3⟩:=szOf_some (P:=P) (t:=e) (by rw [← hes];exact hk3)
 have hez:=(iez e (.inl rfl)).2 ie he1
 have hsz:ie.size=i.esize:=by rw [he3,hes]
 obtain ⟨ze,hze,hzel⟩:∃ ze,ie.zero=some ze∧ze.cells.size=i.esize:=by
  cases hz0:ie.zero with
  | none=>rw [hz0] at hez;rw [hez] at hk4;simp at hk4;exact absurd hk4.symm hk3
  | some ze=>rw [hz0] at hez;rw [hez] at hk4;exact ⟨ze,rfl,by simpa using hk4⟩
 have hbytes:ie.bytes=i.ebytes:=by rw [heb];simp [bytesOf,he1]
 cases hcx:ρc x<;>rw [hcx] at hx<;>cases hx
 rename_i a cap k cs hke hrs hruns hcaps hccs
 cases hcy:ρc y<;>rw [hcy] at hy<;>cases hy
 rename_i a2 cap2 k2 cx hkx hrx hrunx hcapx hccx
 have hruns':es≠[]→∃ b off,a=some ⟨b,off,none⟩∧off+es.length * i.esize≤g.lim b∧∀ j,j<es.length * i.esize→w.cell? ⟨b,off+j,none⟩=some (cs j):=by
  intro hne
  have:k=i.esize:=by
   cases es with
   | nil=>exact absurd rfl hne
   | cons e0 _=>rw [← hke e0 (by simp),hes' e0 (by simp)]
  rw [← this];exact hruns hne
 have hk2':k2=i.esize:=by rw [← hkx zs (by simp),hzs]
 subst hk2'
 simp only [List.length_cons,List.length_nil,Nat.zero_add,Nat.one_mul] at hrunx hcapx
 have hrunx':[zs]≠[]→∃ b off,a2=some ⟨b,off,none⟩∧off+[zs].length * i.esize≤g.lim b∧∀ j,j<[zs].length * i.esize→w.cell? ⟨b,off+j,none⟩=some (cx j):=by
  intro hne
  obtain ⟨b,off,q1,q2,q3⟩:=hrunx hne
  exact ⟨b,off,q1,by simpa using q2,by simpa using q3⟩
 have hone:∀ v∈(((List.range i.esize).map cx).toArray).toList,v.oneCell'=true:=by
  intro v hv
  simp only [List.mem_map,List.mem_range] at hv
  obtain ⟨q,hq,rfl⟩:=hv
  have hq':q<[zs].flatten.length:=by simp;omega
  rw [List.all_eq_true] at hz1
  exact oneCell_of (hrx q _ (List.getElem?_eq_getElem hq')) (hz1 _ (by have:=List.getElem_mem hq';simp only [List.flatten_cons,List.flatten_nil,List.append_nil] at this;simp))
 have hF1':=fun (w0:World) hw=>by
  have:=run_first (P:=P) (cap:=cap) hruns' w0 hw;rw [← hsz] at this;exact this
 have hF2':=fun (w0:World) hw=>by
  have:=run_first (P:=P) (cap:=cap2) hrunx' w0 hw;rw [← hsz] at this;exact this
 simp only [List.length_cons,List.length_nil,Nat.zero_add,Nat.one_mul] at hF2'
 have hmul:(es.length+1) * i.esize=es.length * i.esize+i.esize:=by rw [Nat.add_mul,Nat.one_mul]
 have hfl:=flat_len es i.esize hes'
 have hgrow:∀ id,(h id=none∨∃ n0 k0,h id=some (.tok n0 k0)∧n0<es.length+1)→cap<es.length+1→((c=.full∧id=nid)∨c=.own id)→∃ id b off cap W1 vs1 ty,((c=.full∧id=nid)∨c=.own id)∧(execOp ρc o).run P w=.ok (.value (.slice (some ⟨b,off,none⟩) (es.length+1) cap)) W1∧W1.heap[b]? = some (.cells vs1 ty (0,0)) ∧
   off+es.length * i.esize+i.esize≤vs1.size∧(∀ j cs,h j=some (.box cs)→g.loc j≠b∧j≠id∧W1.heap[g.loc j]? = w.heap[g.loc j]?)∧w.heap.size≤W1.heap.size ∧
   ∀ (xs:Array Value) (e:List V),RVL g w xs e→e.length=i.esize→∃ g',Ext g w g' (W1.setRow b (spliceA vs1 (off+es.length * i.esize) xs))∧Rel env g' (W1.setRow b (spliceA vs1 (off+es.length * i.esize) xs)) (hset h id (.tok (es.length+1) i.esize)) ∧
    RV g' (W1.setRow b (spliceA vs1 (off+es.length * i.esize) xs)) (.slice (some ⟨b,off,none⟩) (es.length+1) cap) (.sl (.own id) (es++[e])):=by
  intro id hid hlt hci
  have hnc:=nextcap_le (es.length+1) cap hlt
  have hcut:es.length+1≤es.length+1+w.tape w.drawn (.appendCap (es.length+1) cap e) % (9223372036854775808 - (es.length+1)):=Nat.le_add_right _ _
  generalize hq:w.tape w.drawn (.appendCap (es.length+1) cap e) % (9223372036854775808 - (es.length+1))=q at hcut
  obtain ⟨arr,harrd⟩:∃ arr:Array Value,arr=((List.range (es.length * ie.size)).map cs).toArray++((List.range ie.size).map cx).toArray++Builtin.zeroCells ze.cells q:=⟨_,rfl⟩
  have harr:arr.size=(es.length+1+q) * i.esize:=by
   rw [harrd]
   simp only [Array.size_append,zero_size,hzel,hsz]
   simp
   rw [Nat.add_mul,hmul]
  have hfit:0+es.length * i.esize+i.esize≤arr.size:=by rw [harr,Nat.add_mul,hmul];omega
  have hrun:(execOp ρc o).run P w=.ok (.value (.slice (some ⟨w.heap.size,0,none⟩) (es.length+1) (es.length+1+q))) (w.drew.alloc (.cells arr e)):=by
   have b1:¬ ((9223372036854775807:Int)<(es.length:Int)+1∧ie.bytes=0):=by omega
   have b2:¬ (281474976710656<Builtin.nextslicecap (es.length+1) cap * ie.bytes):=by
    rw [hbytes]
    have:Builtin.nextslicecap (es.length+1) cap * i.ebytes≤2 * (es.length+1) * i.ebytes:=Nat.mul_le_mul_right _ hnc
    rw [Nat.mul_assoc] at this;omega
   have b3:¬ (es.length+1≤cap):=by omega
   have f1:=hF1' w.drew (fun _=>rfl)
   have f2:=hF2' w.drew (fun _=>rfl)
   simp [execOp,ho,resolve,invoke,builtin,Builtin.append_,run_underlying i2,run_sizeOf' he1,hcx,hcy,Builtin.lenOf,typeInfo,he1,b3,Question.forced,Question.cut]
   rw [if_neg b1,if_neg b2,f1]
   simp only [Result.andThen_ok]
   rw [f2]
   have hq2:w.tape w.drawn (.appendCap (es.length+1) cap e) % (9223372036854775807 - es.length)=q:=by
    rw [← hq]
    congr 1
    omega
   simp [zeroValue,typeInfo,he1,hze,newRow,hq2,harrd]
   congr 2
   apply Array.ext'
   simp
  refine ⟨id,w.heap.size,0,es.length+1+q,_,arr,e,hci,hrun,World.alloc_heap_new w.drew _,hfit,fun j cs hj=>?_,by simp,fun xs ee hxs hee=>?_⟩
  ·have:=r.lt hj
   refine ⟨by omega,fun e=>?_,Go.RowKit.Below.heap_alloc w.drew _ _ this⟩
   subst e
   rcases hid with h1|⟨n0,k0,h1,_⟩<;>rw [h1] at hj<;>cases hj
  ·have hxl:xs.size=i.esize:=by rw [hxs.1,hee]
   have hfit':0+es.length * i.esize+xs.size≤arr.size:=by rw [hxl];exact hfit
   have harr2:(spliceA arr (0+es.length * i.esize) xs).size=(es.length+1+q) * i.esize:=by rw [spliceA_size hfit',harr]
   obtain ⟨g',hx',hr',hd',hb',hl'⟩:=grow r hid e harr2 hcut
   have hw:(w.drew.alloc (.cells arr e)).setRow w.heap.size (spliceA arr (0+es.length * i.esize) xs)=w.drew.alloc (.cells (spliceA arr (0+es.length * i.esize) xs) e):=alloc_setRow w.drew arr _ e
   rw [hw]
   refine ⟨g',hx',hr',?_⟩
   have hh:=rv_joined (g':=g') (w':=w.drew.alloc (.cells (spliceA arr (0+es.length * i.esize) xs) e)) (es:=es) (xs:=[ee]) (k:=i.esize) (cap:=es.length+1+q) (b:=w.heap.size) (off:=0) (cs:=cs) (cx:=fun j=>(xs[j]?).getD undef) (id:=id)
    hes' (by simpa using hee) (by simp) (by rw [hl'];simp) ?_ ?_ (fun i v hv=>(hrs i v hv).mono hx') ?_ hd' hb'
   ·simpa using hh
   ·intro q hq
    show (w.drew.alloc _).cell? ⟨w.drew.heap.size,0+_,none⟩=_
    rw [World.cell?_alloc_new,spliceA_lo hfit' (by omega),harrd]
    simp only [hsz,Nat.zero_add]
    rw [Array.getElem?_append_left (by simp;omega),Array.getElem?_append_left (by simp;omega)]
    simp [hq]
   ·intro q hq
    simp only [List.length_cons,List.length_nil,Nat.zero_add,Nat.one_mul] at hq
    show (w.drew.alloc _).cell? ⟨w.drew.heap.size,0+_,none⟩=_
    rw [World.cell?_alloc_new,← Nat.add_assoc,spliceA_mid hfit' (by omega)]
    have:q<xs.size:=by omega
    simp [this]
   ·intro j v hv
    simp only [List.flatten_cons,List.flatten_nil,List.append_nil] at hv
    obtain ⟨c1,hc1,hc2⟩:=hxs.at hv
    simp only [hc1,Option.getD_some]
    exact hc2.mono hx'
 rcases hcc with rfl|⟨id,rfl,hid⟩
 ·have hc':cap=es.length:=hccs
  exact hgrow nid (.inl hn) (by omega) (.inl ⟨rfl,rfl⟩)
 ·obtain ⟨t1,t2',t3,t4⟩:=r.tok id _ _ hid
  obtain ⟨c1,c2',c3⟩:=hccs
  have hbuf:=c3 t1.symm
  rw [hbuf] at t4
  simp only at t4
  by_cases hle:es.length+1≤cap
  ·have hcap2:(g.buf id).cap=cap:=by rw [hbuf]
   obtain ⟨b,off,vs,s1,s2,s3,s4,s5⟩:=t3 (by omega)
   rw [hbuf] at s1 s3 s4
   simp only at s1 s3 s4
   subst s1
   subst t4
   obtain ⟨ty,s2'⟩:=s2
   have hfit:off+es.length * i.esize+i.esize≤vs.size:=by
    have:(es.length+1) * i.esize≤cap * i.esize:=Nat.mul_le_mul_right _ hle
    rw [hmul] at this;omega
   have hst:=run_storeCells_at (P:=P) b (off+es.length * i.esize) ty ((List.range i.esize).map cx) 0 vs w s2' (by simp;omega) (by simpa using hone)
   simp only [Nat.add_zero,List.length_map,List.length_range] at hst
   have hnew:(vs.toList.take (off+es.length * i.esize)++(List.range i.esize).map cx++vs.toList.drop (off+es.length * i.esize+i.esize)).toArray=spliceA vs (off+es.length * i.esize) ((List.range i.esize).map cx).toArray:=by
    unfold spliceA;simp
   rw [hnew] at hst
   have hzl:((List.range i.esize).map cx).toArray.size=i.esize:=by simp
   have hfz:off+es.length * i.esize+((List.range i.esize).map cx).toArray.size≤vs.size:=by rw [hzl];exact hfit
   have hrun:(execOp ρc o).run P w=.ok (.value (.slice (some ⟨b,off,none⟩) (es.length+1) cap)) (w.setRow b (spliceA vs (off+es.length * i.esize) ((List.range i.esize).map cx).toArray)):=by
    have f2:=hF2' w (fun _=>rfl)
    simp [execOp,ho,resolve,invoke,builtin,Builtin.append_,run_underlying i2,run_sizeOf' he1,hcx,hcy,Builtin.lenOf,hle]
    rw [f2]
    simp [add_off,hsz]
    rw [hst]
    simp
   have hne:∀ j cs,h j=some (.box cs)→g.loc j≠b:=fun j cs hj e2=>r.apart id j _ _ cs hid (by omega) hj ⟨b,off,none⟩ (by rw [hbuf]) e2.symm
   refine ⟨id,b,off,cap,_,_,ty,.inr rfl,hrun,setRow_heap w b vs _ ty (0,0) s2',by rw [spliceA_size hfz];exact hfit,fun j cs hj=>⟨hne j cs hj,?_,setRow_other w _ _ _ (hne j cs hj)⟩,by simp,fun xs ee hxs hee=>?_⟩
   ·rintro rfl
    rw [hid] at hj;cases hj
   ·have hxl:xs.size=i.esize:=by rw [hxs.1,hee]
    have hfit':off+es.length * i.esize+xs.size≤vs.size:=by rw [hxl];exact hfit
    rw [setRow_setRow,spliceA_two hfz (by rw [hzl,hxl])]
    obtain ⟨g',hx',hr',hd',hb',hl'⟩:=advance r hid (m:=1) (by omega) hbuf hle ⟨ty,s2'⟩ s3 s4 s5 (spliceA_size hfit') (fun q hq=>spliceA_lo hfit' hq)
    refine ⟨g',hx',hr',?_⟩
    have hh:=rv_joined (g':=g') (w':=w.setRow b (spliceA vs (off+es.length * i.esize) xs)) (es:=es) (xs:=[ee]) (k:=i.esize) (cap:=cap) (b:=b) (off:=off) (cs:=cs) (cx:=fun j=>(xs[j]?).getD undef) (id:=id)
     hes' (by simpa using hee) (by simpa using hle) (by rw [hl'];simp) ?_ ?_ (fun i v hv=>(hrs i v hv).mono hx') ?_ hd' hb'
    ·simpa using hh
    ·intro q hq
     rw [cell_setRow_same w b _ vs _ ty (0,0) s2',spliceA_lo hfit' (by omega)]
     have hne:es≠[]:=by intro e;subst e;simp at hq
     obtain ⟨b2,off2,e1,_,e3⟩:=hruns' hne
     cases e1
     have:=e3 q hq
     simpa [World.cell?,s2'] using this
    ·intro q hq
     simp only [List.length_cons,List.length_nil,Nat.zero_add,Nat.one_mul] at hq
     rw [cell_setRow_same w b _ vs _ ty (0,0) s2',← Nat.add_assoc,spliceA_mid hfit' (by omega)]
     have:q<xs.size:=by omega
     simp [this]
    ·intro j v hv
     simp only [List.flatten_cons,List.flatten_nil,List.append_nil] at hv
     obtain ⟨c1,hc1,hc2⟩:=hxs.at hv
     simp only [hc1,Option.getD_some]
     exact hc2.mono hx'
  ·exact hgrow id (.inr ⟨_,_,hid,by omega⟩) (by omega) (.inr rfl)
end
theorem aops_preD {P:Program} {env:Nat→Option (List V)} {ops:Array Oper} {draw:Bool} {gen reg:Nat} {K:St→Prop} :
  ∀ (rest:List Oper) (i:Nat) (log:List LogE) (σ:St) (done:List (Nat × Option Eff)),(∀ j o,rest[j]? = some o→ops[i+j]? = some o) →
   (∀ x∈done,∀ e,x.2=some e→e.reads=[]∨(x.1,e.reads,e.writes.map (·.1))∈log)→(∀ x∈done,∀ e,x.2=some e→∀ p∈e.writes,p.1∈e.reads) →
   aops P env ops draw gen reg rest i log K σ →
   ∃ l σe,l.map (·.1)=(List.range rest.length).map (i+·)∧Chain P env ops gen reg l σ σe∧K σe ∧
    (draw=true→l.Pairwise (PairOk ops)∧∀ x∈done,∀ y∈l,PairOk ops x y)
 | [],i,log,σ,done,_,_,_,h=>⟨[],σ,rfl,.nil σ,h,fun _=>⟨.nil,by simp⟩⟩
 | o :: rest,i,log,σ,done,hr,hl,hw,h=>by
  have ho:ops[i]? = some o:=by have:=hr 0 o;simpa using this
  have hr':∀ j p,rest[j]? = some p→ops[i+1+j]? = some p:=fun j p hp=>by
   have:=hr (j+1) p (by simpa using hp)
   rw [show i+(j+1)=i+1+j by omega] at this
   exact this
  have hidx:i::(List.range rest.length).map (i+1+·)=(List.range (o::rest).length).map (i+·):=by
   rw [List.length_cons,List.range_succ_eq_map,List.map_cons,List.map_map]
   simp only [Nat.add_zero]
   congr 1
   apply List.map_congr_left
   intro j _;simp;omega
  rcases aops_stp h with ⟨hg,h'⟩|⟨hg,e,hs,hlog,h'⟩
  ·obtain ⟨l,σe,h1,h2,h3,h4⟩:=aops_preD rest (i+1) log _ ((i,none)::done) hr'
    (fun x hx e he=>by
     rcases List.mem_cons.1 hx with rfl|hx
     ·simp at he
     ·exact hl x hx e he)
    (fun x hx e he=>by
     rcases List.mem_cons.1 hx with rfl|hx
     ·simp at he
     ·exact hw x hx e he) h'
   refine ⟨(i,none)::l,σe,by rw [List.map_cons,h1];exact hidx,.cons _ _ _ _ _ ⟨o,ho,hg,rfl⟩ h2,h3,fun hd=>?_⟩
   obtain ⟨h5,h6⟩:=h4 hd
   refine ⟨List.pairwise_cons.2 ⟨fun y hy=>h6 _ (by simp) y hy,h5⟩,fun x hx y hy=>?_⟩
   rcases List.mem_cons.1 hy with rfl|hy
   ·right
    unfold indepE
    cases x.2<;>trivial
   ·exact h6 x (by simp [hx]) y hy
  ·have hws:=stp_writes hs
   obtain ⟨l,σe,h1,h2,h3,h4⟩:=aops_preD rest (i+1) (addLog i e log) _ ((i,some e)::done) hr'
    (fun x hx e' he=>by
     unfold addLog
     rcases List.mem_cons.1 hx with rfl|hx
     ·cases he
      cases hre:e.reads with
      | nil=>exact .inl rfl
      | cons r rs=>right;simp
     ·rcases hl x hx e' he with h|h
      ·exact .inl h
      ·right
       split
       ·exact h
       ·simp [h])
    (fun x hx e' he=>by
     rcases List.mem_cons.1 hx with rfl|hx
     ·cases he;exact hws
     ·exact hw x hx e' he) h'
   refine ⟨(i,some e)::l,σe,by rw [List.map_cons,h1];exact hidx,.cons _ _ _ _ _ ⟨o,ho,hg,hs,rfl⟩ h2,h3,fun hd=>?_⟩
   obtain ⟨h5,h6⟩:=h4 hd
   refine ⟨List.pairwise_cons.2 ⟨fun y hy=>h6 _ (by simp) y hy,h5⟩,fun x hx y hy=>?_⟩
   rcases List.mem_cons.1 hy with rfl|hy
   ·unfold PairOk indepE
    cases hx2:x.2 with
    | none=>right;trivial
    | some ex =>
     simp only
     rcases hl x hx ex hx2 with he|hm
     ·right
      have hwx:=hw x hx ex hx2
      refine ⟨fun p hp=>?_,fun p hp=>?_⟩
      ·have:=hwx p hp;rw [he] at this;simp at this
      ·rw [he];simp
     ·rcases logOk_spec (hlog hd) _ _ _ hm with h|⟨ha,hb⟩
      ·exact .inl h
      ·right
       exact ⟨fun p hp=>hb p.1 (List.mem_map.2 ⟨p,hp,rfl⟩),ha⟩
   ·exact h6 x (by simp [hx]) y hy
def tailOk (ops:Array Oper) (t0:Nat):Bool:=(List.range ops.size).all fun i=>decide (i<t0)||(List.range t0).all fun j=>(ops[i]?).elim true fun o=>o.after.any fun e=>Region.binds .any e&&e.on==j
theorem tailOk_spec {ops:Array Oper} {t0:Nat} (h:tailOk ops t0=true) {i:Nat} {o:Oper} (hi:t0≤i) (ho:ops[i]? = some o) {j:Nat} (hj:j<t0):∃ e∈o.after,Region.binds .any e=true∧e.on=j:=by
 unfold tailOk at h
 rw [List.all_eq_true] at h
 have h1:=h i (List.mem_range.2 (Array.getElem?_eq_some_iff.1 ho).1)
 rw [Bool.or_eq_true] at h1
 rcases h1 with h1|h1
 ·simp at h1;omega
 ·rw [List.all_eq_true] at h1
  have h2:=h1 j (List.mem_range.2 hj)
  rw [ho] at h2
  simp only [Option.elim_some,Array.any_eq_true,Bool.and_eq_true,beq_iff_eq] at h2
  obtain ⟨k,hk,h3,h4⟩:=h2
  exact ⟨_,Array.getElem_mem hk,h3,h4⟩
def frontL (n t0:Nat):Array Bool:=((List.range n).map fun i=>decide (i<t0)).toArray
theorem frontL_of {listed:Array Bool} {n t0:Nat} (hs:listed.size=n) (h:∀ i,i<n→(listed.getD i true=false↔t0≤i)):listed=frontL n t0:=by
 apply Array.ext
 ·simp [frontL,hs]
 ·intro i h1 h2
  have:=h i (by omega)
  simp [h1] at this
  simp only [frontL,List.getElem_toArray,List.getElem_map,List.getElem_range]
  by_cases hi:t0≤i
  ·have e:=this.2 hi
   rw [e];simp;omega
  ·cases e:listed[i] with
   | false=>exact absurd (this.1 e) hi
   | true=>simp;omega
section
variable {F:Fence} (hF:∀ f,F.fn f) (hdp:F.depth=none) {m:Nat} {ds:List Deferred}
variable {P:Program} (hcl:∀ k args w R,Calls P k args w R→CallsIn F (m - 1) P k args w R)
variable {env:Nat→Option (List V)} {ops:Array Oper} {gen reg n:Nat} (hn:dstOk n ops=true) (hok:drawOk ops=true)
include hF hdp hcl hn hok
theorem chain_preIn {t0:Nat} (ht:tailOk ops t0=true) (hle:t0≤ops.size) {Q:Exit→Act→World→Prop} {σe:St} {g0:G} {w0:World}
  (hk:∀ fuel g' a' w',ops.size - t0≤fuel→Ext g0 w0 g' w'→RelD ds env n g' w' a' σe→wpAnyIn F m P .any ops Q fuel (frontL ops.size t0) a' w') :
  ∀ (fuel:Nat) (l:List (Nat × Option Eff)) (listed:Array Bool) (σ:St) (g:G) (w:World) (a:Act),l.length+(ops.size - t0)≤fuel→listed.size=ops.size →
   (∀ i,(∃ x∈l,x.1=i)↔(i<t0∧listed.getD i true=false))→(∀ i,t0≤i→i<ops.size→listed.getD i true=false)→l.Pairwise (fun x y=>x.1<y.1)→l.Pairwise (PairOk ops) →
   (∀ j o,ops[j]? = some o→listed.getD j false=true→∀ e∈o.after,Region.binds .any e=true→listed.getD e.on false=true) →
   Chain P env ops gen reg l σ σe→Ext g0 w0 g w→RelD ds env n g w a σ→wpAnyIn F m P .any ops Q fuel listed a w:=by
 obtain ⟨htab,hsp⟩:=drawOk_spec hok
 intro fuel
 induction fuel with
 | zero =>
  intro l listed σ g w a hl hsz hm htl hp hpo hc hch hx r
  have:l=[]:=List.eq_nil_of_length_eq_zero (by omega)
  subst this
  cases hch
  have e:listed=frontL ops.size t0:=frontL_of hsz fun i hi=>⟨fun h=>Nat.le_of_not_lt fun hlt=>by
   obtain ⟨x,hx,_⟩:=(hm i).2 ⟨hlt,h⟩;simp at hx,fun h=>htl i h hi⟩
  rw [e]
  exact hk 0 g a w (by omega) hx r
 | succ fuel ih =>
  intro l listed σ g w a hl hsz hm htl hp hpo hc hch hx r
  cases l with
  | nil =>
   cases hch
   have e:listed=frontL ops.size t0:=frontL_of hsz fun i hi=>⟨fun h=>Nat.le_of_not_lt fun hlt=>by
    obtain ⟨x,hx,_⟩:=(hm i).2 ⟨hlt,h⟩;simp at hx,fun h=>htl i h hi⟩
   rw [e]
   exact hk (fuel+1) g a w (by simpa using hl) hx r
  | cons x0 l0 =>
  have hx0:=(hm x0.1).1 ⟨x0,by simp,rfl⟩
  have hx0sz:x0.1<ops.size:=by omega
  have hrd:x0.1∈Region.ready .any ops listed:=by
   rw [mem_ready]
   refine ⟨hx0.2,ops[x0.1]'hx0sz,Array.getElem?_eq_getElem hx0sz,fun e he hb=>?_⟩
   have hlt:=(hsp x0.1 _ (Array.getElem?_eq_getElem hx0sz)).1 e he hb
   cases hq:listed.getD e.on false with
   | true=>rfl
   | false =>
    have hsz':e.on<listed.size:=by omega
    have:listed.getD e.on true=false:=by
     simp [hsz'] at hq ⊢;exact hq
    obtain ⟨y,hy,e1⟩:=(hm e.on).2 ⟨by omega,this⟩
    rcases List.mem_cons.1 hy with rfl|hy
    ·omega
    ·have:=(List.pairwise_cons.1 hp).1 y hy;omega
  refine ⟨fun hr=>by rw [hr] at hrd;simp at hrd,fun i hi=>?_⟩
  ·have hi':=mem_ready.1 hi
   obtain ⟨h1,o,ho,hd⟩:=hi'
   have hisz:i<ops.size:=(Array.getElem?_eq_some_iff.1 ho).1
   have hit:i<t0:=by
    refine Nat.lt_of_not_le fun hge=>?_
    obtain ⟨e,he,hb,hon⟩:=tailOk_spec ht hge ho hx0.1
    have h2:=hd e he hb
    rw [hon] at h2
    have h3:=hx0.2
    have hsz':x0.1<listed.size:=by omega
    simp [hsz'] at h2 h3
    rw [h2] at h3;exact Bool.noConfusion h3
   obtain ⟨x,hxl,rfl⟩:=(hm i).2 ⟨hit,h1⟩
   obtain ⟨pre,post,hpp⟩:=List.append_of_mem hxl
   rw [hpp] at hl hm hp hpo hch
   have hpull:=pull (P:=P) (env:=env) (gen:=gen) (reg:=reg) ho pre post σ σe (fun y hy=>by
    have hy':=(hm y.1).1 ⟨y,by simp [hy],rfl⟩
    have hysz:y.1<ops.size:=by omega
    have hlt:y.1<x.1:=(List.pairwise_append.1 hp).2.2 y hy x (by simp)
    have hpk:PairOk ops y x:=(List.pairwise_append.1 hpo).2.2 y hy x (by simp)
    have hnord:ordB ops y.1 x.1≠true:=by
     intro hb
     have:=ord_listed htab hc x.1 o ho hd y.1 hysz hb
     have h2:=hy'.2
     have hsz':y.1<listed.size:=by rw [hsz];exact hysz
     simp [hsz'] at this h2
     rw [this] at h2;exact Bool.noConfusion h2
    refine ⟨ops[y.1]'hysz,Array.getElem?_eq_getElem hysz,?_,?_⟩
    ·exact ((hsp x.1 o ho).2 y.1 _ hlt (Array.getElem?_eq_getElem hysz)).resolve_left hnord
    ·exact hpk.resolve_left hnord) hch
   cases hpull with
   | cons _ _ _ σ1 _ hs t =>
    refine cstep_wpIn hF hdp hcl hn hs r fun g' a' w' hx' r'=>?_
    have hsub:(pre++post).Sublist (pre++x::post):=List.Sublist.append_left (List.sublist_cons_self x post) pre
    refine ih (pre++post) (listed.setIfInBounds x.1 true) σ1 g' w' a' (by simp at hl ⊢;omega) (by simpa using hsz) ?_ ?_ (hp.sublist hsub) (hpo.sublist hsub) ?_ t (hx.trans hx') r'
    ·intro i
     constructor
     ·rintro ⟨y,hy,rfl⟩
      have hy2:=(hm y.1).1 ⟨y,hsub.subset hy,rfl⟩
      have hne:x.1≠y.1:=by
       rcases List.mem_append.1 hy with hy|hy
       ·have:=(List.pairwise_append.1 hp).2.2 y hy x (by simp);omega
       ·have:=(List.pairwise_cons.1 (List.pairwise_append.1 hp).2.1).1 y hy;omega
      exact ⟨hy2.1,by rw [getD_set_ne true hne];exact hy2.2⟩
     ·rintro ⟨hi1,hi2⟩
      have hne:x.1≠i:=by
       intro e;subst e
       have:x.1<listed.size:=by rw [hsz];exact hisz
       simp [this] at hi2
      rw [getD_set_ne true hne] at hi2
      obtain ⟨y,hy,rfl⟩:=(hm i).2 ⟨hi1,hi2⟩
      rcases List.mem_append.1 hy with hy|hy
      ·exact ⟨y,by simp [hy],rfl⟩
      ·rcases List.mem_cons.1 hy with rfl|hy
       ·exact absurd rfl hne
       ·exact ⟨y,by simp [hy],rfl⟩
    ·intro i hi1 hi2
     rw [getD_set_ne true (by omega)]
     exact htl i hi1 hi2
    ·intro j o' ho' hj e he hb
     by_cases hjx:x.1=j
     ·subst hjx
      rw [ho] at ho';cases ho'
      exact getD_set_true (hd e he hb)
     ·rw [getD_set_ne false hjx] at hj
      exact getD_set_true (hc j o' ho' hj e he hb)
end
section
variable {F:Fence} (hF:∀ f,F.fn f) {m:Nat} {P:Program} {ops:Array Oper}
include hF
theorem plain_wpIn {o:Oper} {a:Act} {w:World} {K:Act→World→Prop} {Q:Exit→Act→World→Prop} {v:Value} {w':World} (hnd:∀ c,o.op≠.defer c)
  (hrun:(execOp a.eval o).run P w=.ok (.value v) w'∨((execOp a.eval o).run P w=.ok .skip w'∧v=undef)) (h:K (a.put o.dst v) w'):o.wpIn F m P a w K Q:=by
 refine ⟨fun f _=>hF f,?_⟩
 rw [Oper.semAt_plain F _ _ hnd]
 rcases hrun with hr|⟨hr,rfl⟩
 ·rw [hr];exact h
 ·rw [hr];exact h
theorem any_one {i:Nat} {o:Oper} {a:Act} {w:World} {Q:Exit→Act→World→Prop} {fuel:Nat} {listed:Array Bool} {v:Value} {w':World} (hr:i∈Region.ready .any ops listed) (ho:ops[i]? = some o) (hg:o.guard=none) (hnd:∀ c,o.op≠.defer c)
  (hrun:(execOp a.eval o).run P w=.ok (.value v) w'∨((execOp a.eval o).run P w=.ok .skip w'∧v=undef)) (h:wpAnyIn F m P .any ops Q fuel (listed.setIfInBounds i true) (a.put o.dst v) w') :
  wpOpIn F m P ops Q i (wpAnyIn F m P .any ops Q fuel (listed.setIfInBounds i true)) a w:=by
 unfold wpOpIn
 rw [ho]
 have hw:Region.wanted o (yielded ops a.tmps)=true:=by unfold Region.wanted;rw [hg]
 simp only [hw,if_true]
 exact plain_wpIn hF hnd hrun h
end
theorem eval_put_ne {a:Act} {d t:Nat} {v:Value} (h:t≠d):(a.put (some d) v).eval (.tmp t)=a.eval (.tmp t):=by
 show (a.tmps.setIfInBounds d v).getD t undef=a.tmps.getD t undef
 simp [Array.getD_eq_getD_getElem?,Array.getElem?_setIfInBounds,Ne.symm h]
theorem eval_put_eq {a:Act} {d:Nat} {v:Value} (h:d<a.tmps.size):(a.put (some d) v).eval (.tmp d)=v:=by
 show (a.tmps.setIfInBounds d v).getD d undef=v
 simp [Array.getD_eq_getD_getElem?,Array.getElem?_setIfInBounds,h]
theorem run_indexRaw {P:Program} {o:Oper} {t:TypeId} {x ix:Operand} {ρc:Operand→Value} {w:World} (ho:o.op=.indexAddr t x ix) {i:TyI} (hT:tyi P t=some i) (h4:i.kind=4) (hK:i.esize≠0)
  {b off len cap n:Nat} (hx:ρc x=.slice (some ⟨b,off,none⟩) len cap) {k:IntKind} (hi:ρc ix=.int k n) (hlt:n<len) :
  (execOp ρc o).run P w=.ok (.value (.pointer (some ⟨b,off+n * i.esize,none⟩))) w:=by
 obtain ⟨inf,d,z,h1,h2,h0,_,_,_,hz,_,hk4,hk5,_⟩:=tyi_inv hT
 obtain ⟨e,rfl,hes,_,_⟩:=hk4 h4
 obtain ⟨ie,de,he1,he2,he3⟩:=szOf_some (P:=P) (t:=e) (by rw [← hes];exact hK)
 simp [execOp,ho,Instr.indexAt,hi,hx,asIntOf,run_underlying h2,run_sizeOf' he1,add_off,hes,he3]
 intro hge;omega
theorem run_storeRaw {P:Program} {o:Oper} {t:TypeId} {x y:Operand} {ρc:Operand→Value} {w:World} (ho:o.op=.store t x y) {i:TyI} (hT:tyi P t=some i) {b p:Nat} (hx:ρc x=.pointer (some ⟨b,p,none⟩))
  {vs:Array Value} {ty:TypeId} (hb:w.heap[b]? = some (.cells vs ty (0,0))) (hsz:(ρc y).cells.size=i.size) (hfit:p+i.size≤vs.size) (hone:∀ v∈(ρc y).cells.toList,v.oneCell'=true) :
  (execOp ρc o).run P w=.ok .skip (w.setRow b (spliceA vs p (ρc y).cells)):=by
 obtain ⟨inf,d,z,h1,h2,h0,hs,_,ha,_⟩:=tyi_inv hT
 have hst:=run_storeCells_at (P:=P) b p ty (ρc y).cells.toList 0 vs w hb (by simp;omega) hone
 simp only [Nat.add_zero] at hst
 have e1:(ρc y).cells.size=inf.size:=by rw [hsz,hs]
 have e2:(vs.toList.take p++(ρc y).cells.toList++vs.toList.drop (p+(ρc y).cells.toList.length)).toArray=spliceA vs p (ρc y).cells:=by unfold spliceA;simp
 rw [e2] at hst
 simp [execOp,ho,Instr.storeAt,Instr.sureAddr,hx,storeVar,run_sizeOf' h1,e1]
 rw [hst]
 simp
structure TailSt (σ:St) (T:TyI) (ts ty tn tv tb:Nat) (c c0:Cap) (es:List (List V)) (zs e:List V) (v0:V) (bid nid:Id):Prop where
 row:σ.tm ts=.sl c es
 place:σ.tm ty=.sl c0 [zs]
 len:σ.tm tn=.int .i64 (es.length:Nat)
 elt:σ.tm tv=.agg e
 box:σ.tm tb=.ptr bid 0
 at':σ.h bid=some (.box [v0])
 hes:∀ x∈es,x.length=T.esize
 hzs:zs.length=T.esize
 hz1:zs.all oneV=true
 he:e.length=T.esize
 he1:e.all oneV=true
 b8:(es.length+1) * T.ebytes≤140737488355328
 b9:es.length+1≤140737488355328
 new:σ.h nid=none
 own:c=.full∨∃ id,c=.own id∧σ.h id=some (.tok es.length T.esize)
def tailH (σ:St) (T:TyI) (es:List (List V)) (e:List V) (bid id:Id) (d5 d6:Nat):St :=
 ⟨upd (upd σ.tm (some d5) (.sl (.own id) (es++[e]))) (some d6) .undef,hset (hset σ.h id (.tok (es.length+1) T.esize)) bid (.box [.sl (.own id) (es++[e])])⟩
section
variable {F:Fence} (hF:∀ f,F.fn f) {m:Nat} {ds:List Deferred} {P:Program} {env:Nat→Option (List V)} {ops:Array Oper} {n:Nat}
include hF
end
theorem rel_tok {env:Nat→Option (List V)} {g:G} {w:World} {h:H} (r:Rel env g w h) {bid nid:Id} (K:Nat) (hb:h bid=some (.box [.sl .full []])) (hn:h nid=none) :
  ∃ g',Ext g w g' w∧Rel env g' w (hset (hset h nid (.tok 0 K)) bid (.box [.sl (.own nid) []])):=by
 obtain ⟨vs,hc,hs,hv,hl,hw⟩:=r.box bid _ hb
 have hs1:vs.size=1:=hs
 have h0:vs[0]? = some vs[0]:=Array.getElem?_eq_getElem (by omega)
 have hrv:=hv 0 _ _ h0 rfl
 obtain ⟨a,hA⟩:∃ a,vs[0]=.slice a 0 0:=by
  generalize vs[0]=c at hrv
  cases hrv with
  | sl a cap _ _ k cell hk hcap hrun hr hc =>
   have:cap=0:=hc
   subst this
   exact ⟨a,rfl⟩
 have hne:bid≠nid:=by rintro rfl;rw [hn] at hb;cases hb
 obtain ⟨g',hg'⟩:∃ g':G,g'={ g with buf:=fun i=>if i=nid then ⟨a,0,0,K⟩ else g.buf i,dom:=fun i=>if i=nid then true else g.dom i,top:=max g.top (nid.gen+1) }:=⟨_,rfl⟩
 have hbuf:∀ i,i≠nid→g'.buf i=g.buf i:=fun i hi=>by rw [hg'];show (if i=nid then _ else g.buf i)=_;rw [if_neg hi]
 have hbufn:g'.buf nid=⟨a,0,0,K⟩:=by rw [hg'];show (if nid=nid then _ else g.buf nid)=_;rw [if_pos rfl]
 have hdom:∀ i,i≠nid→g'.dom i=g.dom i:=fun i hi=>by rw [hg'];show (if i=nid then true else g.dom i)=_;rw [if_neg hi]
 have hdomn:g'.dom nid=true:=by rw [hg'];show (if nid=nid then true else g.dom nid)=_;rw [if_pos rfl]
 have elim:g'.lim=g.lim:=by rw [hg']
 have ewr:g'.wr=g.wr:=by rw [hg']
 have eloc:g'.loc=g.loc:=by rw [hg']
 have etop:g'.top=max g.top (nid.gen+1):=by rw [hg']
 clear hg'
 have hnn:∀ i,h i≠none→i≠nid:=fun i hi e=>hi (by rw [e];exact hn)
 have hx:Ext g w g' w:=by
  refine ⟨rfl,rfl,rfl,Nat.le_refl _,fun b=>by rw [elim];exact Nat.le_refl _,fun _ _ _=>rfl,fun b _ q=>⟨rfl,by rw [ewr];exact q⟩,fun i hi=>?_,by rw [etop];exact Nat.le_max_left _ _⟩
  have:=hnn i ((r.dom i).1 hi)
  exact ⟨by rw [hdom i this];exact hi,by rw [eloc],.inl (hbuf i this)⟩
 have hold:∀ i o,(hset (hset h nid (.tok 0 K)) bid (.box [.sl (.own nid) []])) i=some o→(i=bid∧o=.box [.sl (.own nid) []])∨(i=nid∧o=.tok 0 K)∨(i≠bid∧i≠nid∧h i=some o):=by
  intro i o e
  by_cases h1:i=bid
  ·subst h1;rw [hset_same] at e;exact .inl ⟨rfl,(by cases e;rfl)⟩
  ·rw [hset_other h1] at e
   by_cases h2:i=nid
   ·subst h2;rw [hset_same] at e;exact .inr (.inl ⟨rfl,(by cases e;rfl)⟩)
   ·rw [hset_other h2] at e;exact .inr (.inr ⟨h1,h2,e⟩)
 have hboxold:∀ i cs,(hset (hset h nid (.tok 0 K)) bid (.box [.sl (.own nid) []])) i=some (.box cs)→∃ cs0,h i=some (.box cs0):=by
  intro i cs e
  rcases hold i _ e with ⟨rfl,_⟩|⟨_,h2⟩|⟨_,_,h2⟩
  ·exact ⟨_,hb⟩
  ·cases h2
  ·exact ⟨_,h2⟩
 refine ⟨g',hx,?_⟩
 refine ⟨fun i=>?_,fun i hi=>?_,fun i cs e=>?_,fun i i' cs cs' e e' heq=>?_,fun i n k e=>?_,fun i i' n k cs e hlt e'=>?_,fun i i' n n' k k' e hlt e' hlt'=>?_,fun b q=>by rw [elim];exact r.limnew b q,fun k cs e=>(r.glob k cs e).mono hx⟩
 ·by_cases h1:i=bid
  ·subst h1
   rw [hset_same,hdom i hne]
   simp [(r.dom i),hb]
  ·rw [hset_other h1]
   by_cases h2:i=nid
   ·subst h2;rw [hset_same,hdomn];simp
   ·rw [hset_other h2,hdom i h2];exact r.dom i
 ·rw [etop]
  by_cases h2:i=nid
  ·subst h2;exact Nat.lt_of_lt_of_le (Nat.lt_succ_self _) (Nat.le_max_right _ _)
  ·refine Nat.lt_of_lt_of_le (r.top i ?_) (Nat.le_max_left _ _)
   by_cases h1:i=bid
   ·subst h1;rw [hb];simp
   ·rwa [hset_other h1,hset_other h2] at hi
 ·rcases hold i _ e with ⟨rfl,h2⟩|⟨_,h2⟩|⟨h1,h2,h3⟩
  ·cases h2
   refine ⟨vs,by rw [eloc];exact hc,by rw [hs1];rfl,fun j c v q1 q2=>?_,by rw [elim,eloc];exact hl,by rw [ewr,eloc];exact hw⟩
   match j with
   | 0 =>
    rw [h0] at q1
    simp at q1 q2
    subst q1;subst q2
    rw [hA]
    exact .sl a 0 (.own nid) [] K (fun _=>undef) (by simp) (by simp) (by simp) (by simp) ⟨hdomn,by simp,fun _=>hbufn⟩
   | j+1=>simp at q2
  ·cases h2
  ·obtain ⟨vs',q1,q2,q3,q4,q5⟩:=r.box i cs h3
   exact ⟨vs',by rw [eloc];exact q1,q2,fun j c v x y=>(q3 j c v x y).mono hx,by rw [elim,eloc];exact q4,by rw [ewr,eloc];exact q5⟩
 ·obtain ⟨c0,q0⟩:=hboxold i cs e
  obtain ⟨c1,q1⟩:=hboxold i' cs' e'
  rw [eloc] at heq
  exact r.inj i i' _ _ q0 q1 heq
 ·rcases hold i _ e with ⟨_,h2⟩|⟨rfl,h2⟩|⟨h1,h2,h3⟩
  ·cases h2
  ·cases h2
   rw [hbufn]
   exact ⟨rfl,Nat.le_refl _,fun q=>absurd q (Nat.lt_irrefl _),rfl⟩
  ·obtain ⟨q1,q2,q3,q4⟩:=r.tok i n k h3
   rw [hbuf i h2]
   refine ⟨q1,q2,fun q=>?_,q4⟩
   obtain ⟨b,off,vs',s1,s2,s3,s4,s5⟩:=q3 q
   exact ⟨b,off,vs',by rw [hbuf i h2];exact s1,s2,by rw [hbuf i h2];exact s3,by rw [hbuf i h2,elim];exact s4,by rw [ewr];exact s5⟩
 ·rcases hold i _ e with ⟨_,h2⟩|⟨rfl,h2⟩|⟨h1,h2,h3⟩
  ·cases h2
  ·cases h2;rw [hbufn] at hlt;exact absurd hlt (Nat.lt_irrefl _)
  ·obtain ⟨c1,q1⟩:=hboxold i' cs e'
   rw [hbuf i h2] at hlt ⊢
   rw [eloc]
   exact r.apart i i' n k c1 h3 hlt q1
 ·rcases hold i _ e with ⟨_,h2⟩|⟨rfl,h2⟩|⟨h1,h2,h3⟩
  ·cases h2
  ·cases h2;rw [hbufn] at hlt;exact absurd hlt (Nat.lt_irrefl _)
  ·rcases hold i' _ e' with ⟨_,h2'⟩|⟨rfl,h2'⟩|⟨h1',h2',h3'⟩
   ·cases h2'
   ·cases h2';rw [hbufn] at hlt';exact absurd hlt' (Nat.lt_irrefl _)
   ·rw [hbuf i h2] at hlt ⊢
    rw [hbuf i' h2'] at hlt' ⊢
    exact r.apart2 i i' n n' k k' h3 hlt h3' hlt'
def Turns2 (P:Program) (env:Nat→Option (List V)) (f:FuncId) (args:List V) (es:List (Id × Obj)) (d:Id) (o:Obj) (e:Id) (p:Obj) (v:V) (o' p':Obj):Prop :=
 ∀ h:H,(∀ q∈es,h q.1=some q.2)→h d=some o→h e=some p→Ret P env f args h v (hset (hset h e p') d o')
theorem Call1_turn2 {P:Program} {env:Nat→Option (List V)} {k:FuncId} {args:List V} {h:H} {R:Eff→Prop} {es:List (Id × Obj)} {d e:Id} {o o' p p':Obj} {v:V}
  (hp:Turns2 P env k args es d o e p v o' p') (hes:∀ q∈es,h q.1=some q.2) (hd:h d=some o) (he:h e=some p)
  (hr:R ⟨v,d::e::es.map (·.1),[(e,p'),(d,o')]⟩):Call1 P env k args h R :=
 ⟨⟨v,d::e::es.map (·.1),[(e,p'),(d,o')]⟩,by simp,fun h2 hh=>by
  have:=hp h2 (fun q hq=>by rw [hh q.1 (by simp only [List.mem_cons,List.mem_map];exact .inr (.inr ⟨q,hq,rfl⟩)),hes q hq]) (by rw [hh d (by simp),hd]) (by rw [hh e (by simp),he])
  simpa [happly] using this,hr⟩
def AgreeBut2 (d e:Id) (h k:H):Prop:=∀ id,id≠d→id≠e→h id≠none→k id=h id
theorem AgreeBut2.refl (d e:Id) (h:H):AgreeBut2 d e h h:=fun _ _ _ _=>rfl
theorem AgreeBut2.new {d e:Id} {h k:H} {id:Id} {o:Obj} (a:AgreeBut2 d e h k) (hn:h id=none):AgreeBut2 d e h (hset k id o):=fun i h1 h2 hi=>by
 have:i≠id:=fun e=>hi (by rw [e];exact hn)
 rw [hset_other this];exact a i h1 h2 hi
theorem AgreeBut2.set1 {d e:Id} {h k:H} {o:Obj} (a:AgreeBut2 d e h k):AgreeBut2 d e h (hset k d o):=fun i h1 h2 hi=>by
 rw [hset_other h1];exact a i h1 h2 hi
theorem AgreeBut2.set2 {d e:Id} {h k:H} {o:Obj} (a:AgreeBut2 d e h k):AgreeBut2 d e h (hset k e o):=fun i h1 h2 hi=>by
 rw [hset_other h2];exact a i h1 h2 hi
theorem AR_fin_turn2 {P:Program} {env:Nat→Option (List V)} {n:Nat} {fn:Func} {g0:G} {w0:World} {h0:H} {v:V} {gen:Nat} {σ:St} {k:List It}
  {d e:Id} {o p:Obj} {o':List V} {N K:Nat} (hrel:Rel env g0 w0 h0) (hde:d≠e) (hd:h0 d=some o) (he:h0 e=some p)
  (hin:InV (fun id=>hset (hset h0 e (.tok N K)) d (.box o') id≠none) v) (hbox:InL (fun id=>hset (hset h0 e (.tok N K)) d (.box o') id≠none) o')
  (hag:AgreeBut2 d e h0 σ.h) (hat:σ.h d=some (.box o')) (hae:σ.h e=some (.tok N K))
  (hv:resOk P σ fn.results.toList v):AR ⟨P,env,n,fn,g0,w0,h0,v,hset (hset h0 e (.tok N K)) d (.box o')⟩ gen k .ret σ:=by
 unfold resOk at hv
 split at hv
 ·rename_i vs hvs
  refine AR_to_ret (AR_done hvs hv ?_ ?_ hin ?_ hrel)
  ·intro id hid
   by_cases e1:id=d
   ·subst e1;rw [hat];exact hset_same.symm
   ·by_cases e2:id=e
    ·subst e2;rw [hae];simp only [hset_other e1,hset_same]
    ·simp only [hset_other e1,hset_other e2] at hid ⊢
     exact hag id e1 e2 hid
  ·intro id hid
   by_cases e1:id=d
   ·subst e1;simp [hset_same]
   ·by_cases e2:id=e
    ·subst e2;simp [hset_other e1,hset_same]
    ·simpa only [hset_other e1,hset_other e2] using hid
  ·intro id cs e0
   by_cases e1:id=d
   ·subst e1
    simp only [hset_same,Option.some.injEq,Obj.box.injEq] at e0
    subst e0;exact .inr hbox
   ·by_cases e2:id=e
    ·subst e2
     simp only [hset_other e1,hset_same,Option.some.injEq] at e0
     cases e0
    ·left;simpa only [hset_other e1,hset_other e2] using e0
 ·exact hv.elim
theorem AR_tok {c:Ctx} {gen:Nat} {k:List It} {e:Exit} {σ:St} (bid nid:Id) (K:Nat) (hb:σ.h bid=some (.box [.sl .full []])) (hn:σ.h nid=none)
  (h:AR c gen k e ⟨σ.tm,hset (hset σ.h nid (.tok 0 K)) bid (.box [.sl (.own nid) []])⟩):AR c gen k e σ:=by
 intro ok hm g a w hx r
 obtain ⟨g',x1,r'⟩:=rel_tok r.rel K hb hn
 exact h ok hm g' a w (hx.trans x1) ⟨r',fun t=>(r.tm t).mono x1,r.size,r.defers⟩
theorem RV.weakEls {g:G} {w:World} {cv:Value} {c:Cap} {es:List (List V)} (h:RV g w cv (.sl c es)):RV g w cv (.sl c (weakLL es)):=by
 cases h with
 | sl a cap _ _ k cell hk hcap hrun hr hc =>
  have hl:(weakLL es).length=es.length:=by rw [weakLL_eq];simp
  rw [← hl]
  refine .sl a cap c _ k cell ?_ (by rw [hl];exact hcap) ?_ ?_ (by rw [hl];exact hc)
  ·intro e he
   rw [weakLL_eq] at he
   obtain ⟨e0,h0,rfl⟩:=List.mem_map.1 he
   rw [weakL_length];exact hk e0 h0
  ·intro hne
   rw [hl]
   exact hrun (by intro e;subst e;exact hne rfl)
  ·intro i v hv
   rw [flat_weakLL] at hv
   obtain ⟨u,hu,rfl⟩:=weakL_get hv
   exact (hr i u hu).weak
theorem AR_weakEls {c:Ctx} {gen:Nat} {k:List It} {e:Exit} {σ:St} (t:Nat) {cc:Cap} {es:List (List V)} (ht:σ.tm t=.sl cc es)
  (h:AR c gen k e ⟨upd σ.tm (some t) (.sl cc (weakLL es)),σ.h⟩):AR c gen k e σ :=
 fun ok hm g a w hx r=>h ok hm g a w hx ⟨r.rel,fun t'=>by
  by_cases e:t'=t
  ·subst e
   simp only [upd_at,if_true]
   have:=r.tm t'
   rw [ht] at this
   exact this.weakEls
  ·simp only [upd_at,if_neg e];exact r.tm t',r.size,r.defers⟩
theorem OwnS.weakEls {h0 h:H} {c:Cap} {k:Nat} {es:List (List V)} (a:OwnS h0 h (.sl c es) k es):OwnS h0 h (.sl c (weakLL es)) k (weakLL es):=by
 have hl:(weakLL es).length=es.length:=by rw [weakLL_eq];simp
 rcases a with a|⟨i,h1,h2,h3⟩
 ·cases a;exact .inl rfl
 ·cases h1;exact .inr ⟨i,rfl,by rw [hl];exact h2,h3⟩
theorem weakLL_appU (a b:List (List V)):weakLL (a++b)=weakLL a++weakLL b:=by rw [weakLL_eq,weakLL_eq,weakLL_eq,List.map_append]
structure TailReadyP (p:Nat) (ops:Array Oper) (L:Array Bool):Prop where
 q0:Region.ready .any ops L=[p]
 q1:Region.ready .any ops (L.setIfInBounds p true)=[p+1,p+3]
 q2:Region.ready .any ops ((L.setIfInBounds p true).setIfInBounds (p+1) true)=[p+2,p+3]
 q3:Region.ready .any ops ((L.setIfInBounds p true).setIfInBounds (p+3) true)=[p+1]
 q4:Region.ready .any ops (((L.setIfInBounds p true).setIfInBounds (p+1) true).setIfInBounds (p+2) true)=[p+3]
 q5:Region.ready .any ops (((L.setIfInBounds p true).setIfInBounds (p+1) true).setIfInBounds (p+3) true)=[p+2]
 q6:Region.ready .any ops (((L.setIfInBounds p true).setIfInBounds (p+3) true).setIfInBounds (p+1) true)=[p+2]
 q7:Region.ready .any ops ((((L.setIfInBounds p true).setIfInBounds (p+1) true).setIfInBounds (p+2) true).setIfInBounds (p+3) true)=[]
 q8:Region.ready .any ops ((((L.setIfInBounds p true).setIfInBounds (p+1) true).setIfInBounds (p+3) true).setIfInBounds (p+2) true)=[]
 q9:Region.ready .any ops ((((L.setIfInBounds p true).setIfInBounds (p+3) true).setIfInBounds (p+1) true).setIfInBounds (p+2) true)=[]
structure TailOpsP (p:Nat) (P:Program) (ops:Array Oper) (n:Nat) (t te:TypeId) (T Te:TyI) (ts ty tn tv tb d5 d6:Nat):Prop where
 o5:∃ o,ops[p]? = some o∧o.guard=none∧o.dst=some d5∧o.op=.call { callee:=.builtin .append,args:=#[.tmp ts,.tmp ty],argTypes:=#[t,t] }
 o6:∃ o,ops[p+1]? = some o∧o.guard=none∧o.dst=some d6∧o.op=.indexAddr t (.tmp d5) (.tmp tn)
 o7:∃ o,ops[p+2]? = some o∧o.guard=none∧o.dst=none∧o.op=.store te (.tmp d6) (.tmp tv)
 o8:∃ o,ops[p+3]? = some o∧o.guard=none∧o.dst=none∧o.op=.store t (.tmp tb) (.tmp d5)
 hT:tyi P t=some T
 hTe:tyi P te=some Te
 k4:T.kind=4
 sz:T.size=1
 ez:T.esize≠0
 ee:T.ezero.length=T.esize
 es:Te.size=T.esize
 d5n:d5<n
 d6n:d6<n
 n5:tn≠d5∧tv≠d5∧tb≠d5
 n6:d5≠d6∧tv≠d6∧tb≠d6
section
variable {F:Fence} (hF:∀ f,F.fn f) {m:Nat} {ds:List Deferred} {P:Program} {env:Nat→Option (List V)} {ops:Array Oper} {n:Nat}
include hF
theorem tail_growP {p:Nat} {t te:TypeId} {T Te:TyI} {ts ty tn tv tb d5 d6:Nat} (hO:TailOpsP p P ops n t te T Te ts ty tn tv tb d5 d6) {L:Array Bool} (hR:TailReadyP p ops L)
  {σ:St} {c c0:Cap} {es:List (List V)} {zs e:List V} {v0:V} {bid nid:Id} (hS:TailSt σ T ts ty tn tv tb c c0 es zs e v0 bid nid)
  {g:G} {w:World} {a:Act} (r:RelD ds env n g w a σ) {Q:Exit→Act→World→Prop} {fuel:Nat} (hfuel:4≤fuel)
  (hQ:∀ id,((c=.full∧id=nid)∨c=.own id)→∀ a' g' w',Ext g w g' w'→RelD ds env n g' w' a' (tailH σ T es e bid id d5 d6)→Q .normal a' w') :
  wpAnyIn F m P .any ops Q fuel L a w:=by
 obtain ⟨f,rfl⟩:∃ f,fuel=f+1+1+1+1:=⟨fuel - 4,by omega⟩
 obtain ⟨q0,q1,q2,q3,q4,q5,q6,q7,q8,q9⟩:=hR
 obtain ⟨⟨p5,a5,g5,x5,y5⟩,⟨p6,a6,g6,x6,y6⟩,⟨p7,a7,g7,x7,y7⟩,⟨p8,a8,g8,x8,y8⟩,hT,hTe,k4,sz1,ez,ee,esz,d5n,d6n,⟨n51,n52,n53⟩,⟨n61,n62,n63⟩⟩:=hO
 obtain ⟨s1,s2,s3,s4,s5,s6,hes,hzs,hz1,he,he1,b8,b9,hnew,hown⟩:=hS
 have nd5:∀ c,p5.op≠.defer c:=by intro c hc;rw [y5] at hc;cases hc
 have nd6:∀ c,p6.op≠.defer c:=by intro c hc;rw [y6] at hc;cases hc
 have nd7:∀ c,p7.op≠.defer c:=by intro c hc;rw [y7] at hc;cases hc
 have nd8:∀ c,p8.op≠.defer c:=by intro c hc;rw [y8] at hc;cases hc
 have v1:=r.av (.tmp ts)
 have v2:=r.av (.tmp ty)
 have v3:=r.av (.tmp tn)
 have v4:=r.av (.tmp tv)
 have v5:=r.av (.tmp tb)
 simp only [av] at v1 v2 v3 v4 v5
 rw [s1] at v1;rw [s2] at v2;rw [s3] at v3;rw [s4] at v4;rw [s5] at v5
 have i3:a.eval (.tmp tn)=.int .i64 es.length:=by
  generalize a.eval (.tmp tn)=v at v3
  cases v3;rfl
 have i5:a.eval (.tmp tb)=.pointer (some ⟨g.loc bid,0,none⟩):=by
  generalize a.eval (.tmp tb)=v at v5
  cases v5;rfl
 have c4:RVL g w (a.eval (.tmp tv)).cells e:=rv_cells v4 (by simp [cellsOf])
 have hone:∀ v∈(a.eval (.tmp tv)).cells.toList,v.oneCell'=true:=by
  intro v hv
  obtain ⟨j,hj,ej⟩:=List.mem_iff_getElem.1 hv
  have hj':j<e.length:=by rw [← c4.1];simpa using hj
  have hxs:e[j]? = some e[j]:=by simp [hj']
  have hcs:(a.eval (.tmp tv)).cells[j]? = some v:=by
   have:(a.eval (.tmp tv)).cells.toList[j]? = some v:=by rw [List.getElem?_eq_getElem hj,ej]
   simpa using this
  have hrv:=c4.2 j v e[j] hcs hxs
  rw [List.all_eq_true] at he1
  exact oneCell_of hrv (he1 _ (List.getElem_mem hj'))
 have hsize:n≤a.tmps.size:=r.1.size
 obtain ⟨id,b,off,cap,W1,vs1,ty1,hid,run5,hb1,hfit,hbox,hWs,fin⟩:=app_raw r.1.rel (ρc:=a.eval) y5 hT k4 ez ee v1 hes v2 hzs hz1 b8 b9 hnew hown
 obtain ⟨w9,⟨ty9,hb9⟩,hs9,_,_,_⟩:=r.1.rel.box bid _ s6
 obtain ⟨hne9,hnid9,hk9⟩:=hbox bid _ s6
 obtain ⟨g',x',r',v'⟩:=fin _ e c4 he
 have hxl:(a.eval (.tmp tv)).cells.size=T.esize:=by rw [c4.1,he]
 obtain ⟨sv,hsv⟩:∃ sv:Value,sv=.slice (some ⟨b,off,none⟩) (es.length+1) cap:=⟨_,rfl⟩
 obtain ⟨pv,hpv⟩:∃ pv:Value,pv=.pointer (some ⟨b,off+es.length * T.esize,none⟩):=⟨_,rfl⟩
 rw [← hsv] at run5 v'
 have ev5:(a.put (some d5) sv).eval (.tmp d5)=sv:=eval_put_eq (by omega)
 have run6:∀ W,(execOp (a.put (some d5) sv).eval p6).run P W=.ok (.value pv) W:=fun W=>by
  rw [hpv]
  exact run_indexRaw y6 hT k4 ez (by rw [ev5,hsv]) (by rw [eval_put_ne n51];exact i3) (by omega)
 have hsz2:((a.put (some d5) sv).put (some d6) pv).eval (.tmp d6)=pv:=eval_put_eq (by show d6<(a.tmps.setIfInBounds d5 sv).size;simp;omega)
 have etv:((a.put (some d5) sv).put (some d6) pv).eval (.tmp tv)=a.eval (.tmp tv):=by rw [eval_put_ne n62,eval_put_ne n52]
 have etb:((a.put (some d5) sv).put (some d6) pv).eval (.tmp tb)=a.eval (.tmp tb):=by rw [eval_put_ne n63,eval_put_ne n53]
 have etb1:(a.put (some d5) sv).eval (.tmp tb)=a.eval (.tmp tb):=eval_put_ne n53
 have ed5:((a.put (some d5) sv).put (some d6) pv).eval (.tmp d5)=sv:=by rw [eval_put_ne n61,ev5]
 have run7:∀ W,W.heap[b]? = some (.cells vs1 ty1 (0,0))→(execOp ((a.put (some d5) sv).put (some d6) pv).eval p7).run P W=.ok .skip (W.setRow b (spliceA vs1 (off+es.length * T.esize) (a.eval (.tmp tv)).cells)):=fun W hW=>by
  have:=run_storeRaw (P:=P) (w:=W) y7 hTe (ρc:=((a.put (some d5) sv).put (some d6) pv).eval) (by rw [hsz2,hpv]) hW (by rw [etv,hxl,esz]) (by rw [esz];exact hfit) (by rw [etv];exact hone)
  rw [etv] at this
  exact this
 have hsc:sv.cells=#[sv]:=by rw [hsv];rfl
 have hso:sv.oneCell'=true:=by rw [hsv];rfl
 have hs9':w9.size=1:=hs9
 have hspl:spliceA w9 0 #[sv]=#[sv]:=by
  unfold spliceA
  apply Array.ext'
  have:(w9.toList.drop 1)=[]:=List.drop_of_length_le (by simp [hs9'])
  simp [this]
 have run8:∀ (ac:Act) W,ac.eval (.tmp tb)=a.eval (.tmp tb)→ac.eval (.tmp d5)=sv→W.heap[g.loc bid]? = some (.cells w9 ty9 (0,0))→(execOp ac.eval p8).run P W=.ok .skip (W.setRow (g.loc bid) #[sv]):=fun ac W h1 h2 hW=>by
  have:=run_storeRaw (P:=P) (w:=W) y8 hT (ρc:=ac.eval) (b:=g.loc bid) (p:=0) (by rw [h1,i5]) hW (by rw [h2,hsc,sz1];rfl) (by rw [sz1,hs9'];omega) (by rw [h2,hsc];simp [hso])
  rw [h2,hsc,hspl] at this
  exact this
 have hW1:W1.heap[g.loc bid]? = some (.cells w9 ty9 (0,0)):=by rw [hk9];exact hb9
 have hloc:g'.loc bid=g.loc bid:=(x'.dom bid ((r.1.rel.dom bid).2 (by rw [s6];simp))).2.1
 have hb':(hset σ.h id (.tok (es.length+1) T.esize)) bid=some (.box [v0]):=by rw [hset_other hnid9];exact s6
 obtain ⟨x'',r''⟩:=set_box r' hb' (vs:=#[sv]) (cs:=[.sl (.own id) (es++[e])]) ⟨rfl,fun j c1 v1 e1 e2=>by
  match j with
  | 0=>simp at e1 e2;subst e1;subst e2;exact v'
  | j+1=>simp at e2⟩
 rw [hloc] at x'' r''
 have hx3:=x'.trans x''
 have rf:RelD ds env n g' ((W1.setRow b (spliceA vs1 (off+es.length * T.esize) (a.eval (.tmp tv)).cells)).setRow (g.loc bid) #[sv]) ((a.put (some d5) sv).put (some d6) pv) (tailH σ T es e bid id d5 d6) :=
  (r.put hx3 (d:=some d5) (fun t ht=>by cases ht;exact d5n) r'' (v'.mono x'')).put (Ext.refl _ _) (d:=some d6) (fun t ht=>by cases ht;exact d6n) r'' (.undef _)
 have hend:=hQ id hid _ g' _ hx3 rf
 have e5:a.put p5.dst sv=a.put (some d5) sv:=by rw [x5]
 have e6:∀ ac:Act,ac.put p6.dst pv=ac.put (some d6) pv:=fun ac=>by rw [x6]
 have e7:∀ ac:Act,ac.put p7.dst undef=ac:=fun ac=>by rw [x7];rfl
 have e8:∀ ac:Act,ac.put p8.dst undef=ac:=fun ac=>by rw [x8];rfl
 refine ⟨fun h=>(by rw [q0] at h;cases h),fun i hi=>?_⟩
 rw [q0] at hi
 simp only [List.mem_cons,List.not_mem_nil,or_false] at hi
 subst hi
 refine any_one hF (by rw [q0];simp) a5 g5 nd5 (.inl run5) ?_
 rw [e5]
 refine ⟨fun h=>(by rw [q1] at h;cases h),fun i hi=>?_⟩
 rw [q1] at hi
 simp only [List.mem_cons,List.not_mem_nil,or_false] at hi
 rcases hi with rfl|rfl
 ·refine any_one hF (by rw [q1];simp) a6 g6 nd6 (.inl (run6 W1)) ?_
  rw [e6]
  refine ⟨fun h=>(by rw [q2] at h;cases h),fun i hi=>?_⟩
  rw [q2] at hi
  simp only [List.mem_cons,List.not_mem_nil,or_false] at hi
  rcases hi with rfl|rfl
  ·refine any_one hF (by rw [q2];simp) a7 g7 nd7 (.inr ⟨run7 W1 hb1,rfl⟩) ?_
   rw [e7]
   refine ⟨fun h=>(by rw [q4] at h;cases h),fun i hi=>?_⟩
   rw [q4] at hi
   simp only [List.mem_cons,List.not_mem_nil,or_false] at hi
   subst hi
   refine any_one hF (by rw [q4];simp) a8 g8 nd8 (.inr ⟨run8 _ _ etb ed5 (by rw [setRow_other _ _ _ _ hne9];exact hW1),rfl⟩) ?_
   rw [e8]
   exact wpAnyIn_done q7 hend f
  ·refine any_one hF (by rw [q2];simp) a8 g8 nd8 (.inr ⟨run8 _ _ etb ed5 hW1,rfl⟩) ?_
   rw [e8]
   refine ⟨fun h=>(by rw [q5] at h;cases h),fun i hi=>?_⟩
   rw [q5] at hi
   simp only [List.mem_cons,List.not_mem_nil,or_false] at hi
   subst hi
   refine any_one hF (by rw [q5];simp) a7 g7 nd7 (.inr ⟨run7 _ (by rw [setRow_other _ _ _ _ (Ne.symm hne9)];exact hb1),rfl⟩) ?_
   rw [e7,setRow_comm _ hne9]
   exact wpAnyIn_done q8 hend f
 ·refine any_one hF (by rw [q1];simp) a8 g8 nd8 (.inr ⟨run8 _ _ etb1 ev5 hW1,rfl⟩) ?_
  rw [e8]
  refine ⟨fun h=>(by rw [q3] at h;cases h),fun i hi=>?_⟩
  rw [q3] at hi
  simp only [List.mem_cons,List.not_mem_nil,or_false] at hi
  subst hi
  refine any_one hF (by rw [q3];simp) a6 g6 nd6 (.inl (run6 _)) ?_
  rw [e6]
  refine ⟨fun h=>(by rw [q6] at h;cases h),fun i hi=>?_⟩
  rw [q6] at hi
  simp only [List.mem_cons,List.not_mem_nil,or_false] at hi
  subst hi
  refine any_one hF (by rw [q6];simp) a7 g7 nd7 (.inr ⟨run7 _ (by rw [setRow_other _ _ _ _ (Ne.symm hne9)];exact hb1),rfl⟩) ?_
  rw [e7,setRow_comm _ hne9]
  exact wpAnyIn_done q9 hend f
end
def Wk (σ σ2:St):Prop:=σ2.h=σ.h∧∀ t,σ2.tm t=σ.tm t∨σ2.tm t=weak (σ.tm t)
theorem Wk.rel {σ σ2:St} (h:Wk σ σ2) {ds:List Deferred} {env:Nat→Option (List V)} {n:Nat} {g:G} {w:World} {a:Act} (r:RelD ds env n g w a σ):RelD ds env n g w a σ2 :=
 ⟨⟨by rw [h.1];exact r.1.rel,fun t=>by
  rcases h.2 t with e|e
  ·rw [e];exact r.1.tm t
  ·rw [e];exact (r.1.tm t).weak,r.1.size,r.1.defers⟩,r.2⟩
theorem AR_region_grow {c:Ctx} {gen:Nat} {k:List It} {σ:St} {id:Nat} {ops:Array Oper} (p:Nat)
  (ht:tailOk ops p=true) (hsz:ops.size=p+4) (hR:TailReadyP p ops (frontL (p+4) p)) {t te:TypeId} {T Te:TyI} {ts ty tn tv tb d5 d6:Nat} (hO:TailOpsP p c.P ops c.n t te T Te ts ty tn tv tb d5 d6)
  {K:St→Prop} (hK:∀ σ1,K σ1→∃ σ2,Wk σ1 σ2∧∃ cc c0 es zs e v0 bid nid,TailSt σ2 T ts ty tn tv tb cc c0 es zs e v0 bid nid ∧
   ∀ id',((cc=.full∧id'=nid)∨cc=.own id')→AR c gen k .normal (tailH σ2 T es e bid id' d5 d6))
  (h:aops c.P c.env ops true gen id (ops.toList.take p) 0 [] K σ):AR c gen (.code (.region id ops true)::k) .normal σ:=by
 intro okk hm g a w hx r
 have okk':=okk
 simp only [okStk,okCode,Bool.and_eq_true,Bool.or_eq_true,Bool.not_eq_true'] at okk
 obtain ⟨⟨hd,hdr⟩,okk2⟩:=okk
 have hdk:drawOk ops=true:=by simpa using hdr
 obtain ⟨l,σe,h1,h2,hk,h4⟩:=aops_preD (ops.toList.take p) 0 [] σ [] (fun j o h=>by
  rw [List.getElem?_take] at h
  split at h
  ·simpa using h
  ·cases h) (by simp) (by simp) h
 obtain ⟨σ2,hwk,cc,c0,es,zs,e,v0,bid,nid,hS,h3⟩:=hK σe hk
 have hl:l.map (·.1)=List.range p:=by
  rw [h1,List.length_take]
  simp [hsz]
 have hx1:Ext g w g { w with drawn:=w.drawn+1 } :=
  ⟨rfl,rfl,rfl,Nat.le_refl _,fun _=>Nat.le_refl _,fun _ _ _=>rfl,fun _ _ h=>⟨rfl,h⟩,fun _ h=>⟨h,rfl,.inl rfl⟩,Nat.le_refl _⟩
 have hrel:Rel c.env g { w with drawn:=w.drawn+1 } σ.h:=by
  have q:=r.rel
  refine ⟨q.dom,q.top,fun id cs e=>?_,q.inj,fun id n k e=>?_,q.apart,q.apart2,q.limnew,fun k cs e=>(q.glob k cs e).mono hx1⟩
  ·obtain ⟨vs,h1,h2,h3,h4,h5⟩:=q.box id cs e
   exact ⟨vs,h1,h2,fun i c v x y=>(h3 i c v x y).mono hx1,h4,h5⟩
  ·obtain ⟨h1,h2,h3,h4⟩:=q.tok id n k e
   exact ⟨h1,h2,h3,h4⟩
 refine (wpIn_wide (n:=0) (Q:=postI c k)).1 (wpIn_region_any hm (chain_preIn (F:=Fence.wide) (m:=0) (ds:=[]) (fun _=>trivial) rfl (fun k args w R h=>callsIn_wide.2 h) hd hdk ht (by omega) (g0:=g) (w0:=w) (Q:=postI c k) ?_ ops.size l _ σ g _ a ?_ (by simp) ?_ ?_ ?_ (h4 rfl).1 ?_ h2 hx1
  (RelD.of ⟨hrel,fun t=>(r.tm t).mono hx1,r.size,r.defers⟩)))
 ·intro fuel g' a' w' hf hx' r'
  rw [hsz] at hf ⊢
  exact tail_growP (F:=Fence.wide) (m:=0) (fun _=>trivial) hO hR hS (hwk.rel r') (by omega) fun id' hid a2 g2 w2 x2 r2=>h3 id' hid okk2 hm g2 a2 w2 ((hx.trans hx').trans x2) r2.st
 ·have:=congrArg List.length hl;simp at this;omega
 ·intro i
  have:(∃ x∈l,x.1=i)↔i∈l.map (·.1):=by simp
  rw [this,hl,List.mem_range]
  constructor
  ·intro h
   have hi':i<ops.size:=by omega
   exact ⟨h,by simp [hi']⟩
  ·exact fun h=>h.1
 ·intro i _ hi
  simp [hi]
 ·have:(l.map (·.1)).Pairwise (·<·):=by rw [hl];exact List.pairwise_lt_range
  rw [List.pairwise_map] at this
  exact this
 ·intro j o ho hj
  have hjl:j<ops.size:=(Array.getElem?_eq_some_iff.1 ho).1
  simp [hjl] at hj
def grownB (σ:St) (es:List (List V)) (e:List V) (bid tk:Id) (d5 d6:Nat):St :=
 ⟨upd (upd σ.tm (some d5) (.sl (.own tk) (es++[e]))) (some d6) .undef,hset (hset σ.h tk (.tok (es.length+1) 5)) bid (.box [.sl (.own tk) (es++[e])])⟩
theorem AR_growB {c:Ctx} {gen:Nat} {k:List It} {σ:St} {id:Nat} {ops:Array Oper} (p:Nat) (bid tk nid:Id) (es:List (List V)) (e:List V)
  (h5:∀ x∈es,x.length=5) (hl:es.length≤100000) (he:e.length=5) (he1:e.all oneV=true)
  (ht:tailOk ops p=true) (hsz:ops.size=p+4) (hR:TailReadyP p ops (frontL (p+4) p)) {t te:TypeId} {T Te:TyI} {ts ty tn tv tb d5 d6:Nat} (hO:TailOpsP p c.P ops c.n t te T Te ts ty tn tv tb d5 d6)
  (hnv:ts≠tv∧ty≠tv∧tn≠tv∧tb≠tv) (hT5:T.esize=5) (hTb:T.ebytes≤1000)
  (h:aops c.P c.env ops true gen id (ops.toList.take p) 0 [] (fun σ1=>σ1.tm ts=.sl (.own tk) es∧σ1.tm ty=.sl .full [[.int .i64 0,.int .i64 0,.int .i64 0,.sl .full [],.sl .full []]] ∧
   σ1.tm tn=.int .i64 (es.length:Nat)∧weak (σ1.tm tv)=.agg e∧σ1.tm tb=.ptr bid 0∧σ1.h bid=some (.box [.sl (.own tk) es])∧σ1.h tk=some (.tok es.length 5)∧σ1.h nid=none ∧
   AR c gen k .normal (grownB ⟨upd σ1.tm (some tv) (.agg e),σ1.h⟩ es e bid tk d5 d6)) σ):AR c gen (.code (.region id ops true)::k) .normal σ:=by
 refine AR_region_grow p ht hsz hR hO ?_ h
 rintro σ1 ⟨q1,q2,q3,q4,q5,q6,q7,q8,q9⟩
 have hb:(es.length+1) * T.ebytes≤100001 * 1000:=Nat.mul_le_mul (by omega) hTb
 obtain ⟨nv1,nv2,nv3,nv4⟩:=hnv
 refine ⟨⟨upd σ1.tm (some tv) (.agg e),σ1.h⟩,⟨rfl,fun t=>?_⟩,.own tk,.full,es,[.int .i64 0,.int .i64 0,.int .i64 0,.sl .full [],.sl .full []],e,_,bid,nid,⟨?_,?_,?_,?_,?_,q6,fun x hx=>by rw [hT5];exact h5 x hx,by rw [hT5];rfl,rfl,by rw [hT5];exact he,he1,by omega,by omega,q8,.inr ⟨tk,rfl,by rw [hT5];exact q7⟩⟩,fun id' hid=>?_⟩
 ·by_cases ht:t=tv
  ·subst ht;right;simp only [upd,if_true];exact q4.symm
  ·left;simp only [upd,if_neg ht]
 ·simp only [upd,if_neg nv1];exact q1
 ·simp only [upd,if_neg nv2];exact q2
 ·simp only [upd,if_neg nv3];exact q3
 ·simp only [upd,if_true]
 ·simp only [upd,if_neg nv4];exact q5
 have hid':id'=tk:=by
  rcases hid with ⟨h1,_⟩|h1
  ·cases h1
  ·cases h1;rfl
 subst hid'
 have e1:tailH ⟨upd σ1.tm (some tv) (.agg e),σ1.h⟩ T es e bid id' d5 d6=grownB ⟨upd σ1.tm (some tv) (.agg e),σ1.h⟩ es e bid id' d5 d6:=by unfold tailH grownB;rw [hT5]
 rw [e1];exact q9
theorem AR_regionN {c:Ctx} {gen:Nat} {k:List It} {σ:St} {id:Nat} {ops:Array Oper} (h:aops c.P c.env ops false gen id ops.toList 0 [] (fun σ'=>AR c gen k .normal σ') σ):AR c gen (.code (.region id ops false)::k) .normal σ:=AR_region h
theorem PlainTy.plT {t:Ty} (h:PlainTy t):PlT t:=by
 rcases h with rfl|rfl|rfl|rfl|rfl
 ·exact .nat
 ·exact .list
 ·exact .unit
 ·exact .pair .nat .list
 ·exact .pair .nat .nat
theorem PlainTy.sz {t:Ty} (h:PlainTy t):tySz t≤3:=by
 rcases h with rfl|rfl|rfl|rfl|rfl
 ·rw [tySz_nat];omega
 ·rw [tySz_list];omega
 ·rw [tySz_unit];omega
 ·rw [tySz_pair,tySz_nat,tySz_list];omega
 ·rw [tySz_pair,tySz_nat];omega
theorem numP_inj {a b:Nat} (h:numP a=numP b):a=b:=by
 simp only [numP,PVl.mk.injEq] at h
 omega
theorem listP_inj {a b:List Nat} (h:listP a=listP b):a=b:=by
 simp only [listP,PVl.mk.injEq,true_and,and_true] at h
 exact (List.map_inj_right (fun x y e=>by omega)).1 h
theorem valsN_nodup (b:Nat):(valsN b).Pairwise (·≠·):=by
 unfold valsN
 rw [List.pairwise_map]
 exact (List.nodup_range (n:=b)).imp fun h e=>h (numP_inj e)
theorem pairs_nodup {α β γ:Type} {l:List α} {r:List β} {f:α→β→γ} (hf:∀ a b a' b',f a b=f a' b'→a=a'∧b=b') (hl:l.Pairwise (·≠·)) (hr:r.Pairwise (·≠·)):(l.flatMap fun a=>r.map fun c=>f a c).Pairwise (·≠·):=by
 rw [List.pairwise_flatMap]
 refine ⟨fun a _=>?_,hl.imp fun h x hx y hy e=>?_⟩
 ·rw [List.pairwise_map]
  exact hr.imp fun h e=>h (hf _ _ _ _ e).2
 ·obtain ⟨c,_,rfl⟩:=List.mem_map.1 hx
  obtain ⟨d,_,rfl⟩:=List.mem_map.1 hy
  exact h (hf _ _ _ _ e).1
theorem valsP_nodup {l r:List PVl} (hl:l.Pairwise (·≠·)) (hr:r.Pairwise (·≠·)):(valsP l r).Pairwise (·≠·):=by
 unfold valsP
 refine pairs_nodup (fun a b a' b' h=>?_) hl hr
 simp only [pairP,PVl.mk.injEq,List.cons.injEq,and_true,true_and] at h
 exact h
theorem valsL_nodup (b:Nat):(valsL b).Pairwise (·≠·):=by
 unfold valsL
 rw [List.pairwise_append]
 refine ⟨?_,?_,?_⟩
 ·rw [List.pairwise_cons]
  refine ⟨fun x hx e=>?_,?_⟩
  ·obtain ⟨n,_,rfl⟩:=List.mem_map.1 hx
   have:=listP_inj e
   simp at this
  ·rw [List.pairwise_map]
   exact (List.nodup_range (n:=b)).imp fun h e=>h (by have:=listP_inj e;simpa using this)
 ·refine pairs_nodup (fun a c a' c' h=>?_) (List.nodup_range (n:=b)) (List.nodup_range (n:=b))
  have:=listP_inj h
  simpa using this
 ·intro x hx y hy e
  obtain ⟨n,_,h⟩:=List.mem_flatMap.1 hy
  obtain ⟨m,_,rfl⟩:=List.mem_map.1 h
  rcases List.mem_cons.1 hx with rfl|hx
  ·have:=listP_inj e;simp at this
  ·obtain ⟨k,_,rfl⟩:=List.mem_map.1 hx
   have:=listP_inj e;simp at this
theorem tyH_pos {t:Ty}:1≤tyH t:=by cases t;rw [tyH];omega
theorem tyH_two {k:Int} {a b:Ty} {n:Nat} (h:tyH (.mk k [a,b])≤n+1):tyH a≤n∧tyH b≤n:=by
 rw [tyH,tyHL,tyHL,tyHL] at h;omega
theorem candN_pos' {t:Ty} (h:TyF t) {m:Nat}:∀ {n:Nat},tyH t≤n→1≤(candN n t m).length:=by
 induction h with
 | nat=>intro n hn;obtain ⟨n,rfl⟩:∃ k,n=k+1:=⟨n - 1,by have:=@tyH_pos tNat;omega⟩;rw [candN_nat];simp [numsT]<;>omega
 | list=>intro n hn;obtain ⟨n,rfl⟩:∃ k,n=k+1:=⟨n - 1,by have:=@tyH_pos tList;omega⟩;rw [candN_list];simp [listsT]<;>omega
 | unit=>intro n hn;obtain ⟨n,rfl⟩:∃ k,n=k+1:=⟨n - 1,by have:=@tyH_pos tUnit;omega⟩;rw [candN_unit];simp
 | @pair a b _ _ h1 h2 =>
  intro n hn
  obtain ⟨n,rfl⟩:∃ k,n=k+1:=⟨n - 1,by have:=@tyH_pos (tPair a b);omega⟩
  obtain ⟨g1,g2⟩:=tyH_two hn
  rw [candN_pair];have:=pairUp_pos (h2 g2) (out:=[]) (.inl (h1 g1));simp;omega
 | @func a b _ _ h1 h2 =>
  intro n hn
  obtain ⟨n,rfl⟩:∃ k,n=k+1:=⟨n - 1,by have:=@tyH_pos (tFun a b);omega⟩
  obtain ⟨g1,g2⟩:=tyH_two hn
  rw [candN_fun];have:=h2 g2;simp;omega
theorem candN_ok' {K:Nat} {t:Ty} (h:TyF t) {m:Nat} (hm:2 * m+6≤K):tySz t≤64→∀ {n:Nat} {g:List Ty},tyH t≤n→∀ x∈candN n t m,CandOk g t (K * tySz t) x:=by
 induction h with
 | nat =>
  intro _ n g hn x hx
  obtain ⟨n,rfl⟩:∃ k,n=k+1:=⟨n - 1,by have:=@tyH_pos tNat;omega⟩
  rw [candN_nat] at hx
  exact (numsT_ok x (List.mem_of_mem_take hx)).up (by rw [tySz_nat];omega)
 | list =>
  intro _ n g hn x hx
  obtain ⟨n,rfl⟩:∃ k,n=k+1:=⟨n - 1,by have:=@tyH_pos tList;omega⟩
  rw [candN_list] at hx
  exact (listsT_ok x (List.mem_of_mem_take hx)).up (by rw [tySz_list];omega)
 | unit =>
  intro _ n g hn x hx
  obtain ⟨n,rfl⟩:∃ k,n=k+1:=⟨n - 1,by have:=@tyH_pos tUnit;omega⟩
  rw [candN_unit] at hx
  obtain rfl:=List.mem_singleton.1 hx
  exact ⟨.n0 (ty:=.mk 0 []) .unit,.t0 rfl rfl,by rw [tmSz_0,tySz_unit];omega,tm0_W0⟩
 | @pair a b ha hb h1 h2 =>
  intro hz n g hn x hx
  obtain ⟨n,rfl⟩:∃ k,n=k+1:=⟨n - 1,by have:=@tyH_pos (tPair a b);omega⟩
  obtain ⟨g1,g2⟩:=tyH_two hn
  rw [tySz_pair] at hz
  rw [candN_pair] at hx
  rcases pairUp_mem (List.mem_of_mem_take hx) with h|⟨c,hc,d,hd,rfl⟩
  ·simp at h
  have k1:=h1 (by omega) (g:=g) g1 c hc
  have k2:=h2 (by omega) (g:=g) g2 d hd
  exact ⟨.n2 (ty:=.mk 0 []) (.pair (.pair' ha hb (by omega))) k1.ty k2.ty,.t2 rfl rfl k1.gd k2.gd,by rw [tmSz_2,tySz_pair,Nat.mul_add,Nat.mul_add];have:=k1.sz;have:=k2.sz;omega,tm0_W2 k1.w k2.w⟩
 | @func a b ha hb h1 h2 =>
  intro hz n g hn x hx
  obtain ⟨n,rfl⟩:∃ k,n=k+1:=⟨n - 1,by have:=@tyH_pos (tFun a b);omega⟩
  obtain ⟨g1,g2⟩:=tyH_two hn
  rw [tySz_fun] at hz
  rw [candN_fun] at hx
  have hq:TyG (tFun a b):=.fun' ha hb (by omega)
  have hg:TyG a:=⟨ha,by omega⟩
  have:=tySz_pos b
  rcases List.mem_append.1 (List.mem_of_mem_take hx) with h|h
  ·split at h
   ·next he =>
    obtain rfl:=List.mem_singleton.1 h
    have e:=Ty.same_true he
    subst e
    exact ⟨.lam hq .v0,.lam hg (.var (by omega)),by rw [tmSz_T1,tmSz_v,tySz_fun,Nat.mul_add,Nat.mul_add];omega,tmT_W1 hg.1.W (tmVar_W 0)⟩
   ·simp at h
  ·obtain ⟨c,hc,rfl⟩:=List.mem_map.1 h
   have k2:=h2 (by omega) (g:=g++[a]) g2 c hc
   exact ⟨.lam hq k2.ty,.lam hg k2.gd,by rw [tmSz_T1,tySz_fun,Nat.mul_add,Nat.mul_add];have:=k2.sz;omega,tmT_W1 hg.1.W k2.w⟩
inductive Zip2 {α β:Type} (R:α→β→Prop):List α→List β→Prop
 | nil:Zip2 R [] []
 | cons {a:α} {b:β} {l:List α} {r:List β}:R a b→Zip2 R l r→Zip2 R (a::l) (b::r)
section
variable {α β γ δ:Type} {R:α→β→Prop} {S:γ→δ→Prop}
theorem Zip2.app {l l':List α} {r r':List β} (h:Zip2 R l r) (h':Zip2 R l' r'):Zip2 R (l++l') (r++r'):=by
 induction h with
 | nil=>exact h'
 | cons h _ ih=>exact .cons h ih
theorem Zip2.take {l:List α} {r:List β} (h:Zip2 R l r):∀ n,Zip2 R (l.take n) (r.take n):=by
 induction h with
 | nil=>intro n;simp;exact .nil
 | cons h _ ih =>
  intro n
  cases n with
  | zero=>exact .nil
  | succ n=>exact .cons h (ih n)
theorem Zip2.map {l:List α} {r:List β} (h:Zip2 R l r) {f:α→γ} {g:β→δ} (hf:∀ a b,R a b→S (f a) (g b)):Zip2 S (l.map f) (r.map g):=by
 induction h with
 | nil=>exact .nil
 | cons h _ ih=>exact .cons (hf _ _ h) ih
theorem Zip2.flat {l:List α} {r:List β} (h:Zip2 R l r) {f:α→List γ} {g:β→List δ} (hf:∀ a b,R a b→Zip2 S (f a) (g b)):Zip2 S (l.flatMap f) (r.flatMap g):=by
 induction h with
 | nil=>exact .nil
 | cons h _ ih =>
  rw [List.flatMap_cons,List.flatMap_cons]
  exact (hf _ _ h).app ih
theorem Zip2.len {l:List α} {r:List β} (h:Zip2 R l r):l.length=r.length:=by
 induction h with
 | nil=>rfl
 | cons _ _ ih=>simp [ih]
theorem Zip2.at {l:List α} {r:List β} (h:Zip2 R l r):∀ {i:Nat} {a:α} {b:β},l[i]? = some a→r[i]? = some b→R a b:=by
 induction h with
 | nil=>intro i a b h;simp at h
 | cons h _ ih =>
  intro i x y hx hy
  cases i with
  | zero=>simp at hx hy;subst hx;subst hy;exact h
  | succ i=>exact ih (by simpa using hx) (by simpa using hy)
theorem Zip2.self {l:List α} {f:α→γ} {g:α→δ} (h:∀ a∈l,S (f a) (g a)):Zip2 S (l.map f) (l.map g):=by
 induction l with
 | nil=>exact .nil
 | cons a l ih=>exact .cons (h a (by simp)) (ih fun x hx=>h x (by simp [hx]))
end
theorem pairUp_take' {r:List Tm}:∀ {l out:List Tm},(pairUp r out l).take 64=(out++l.flatMap fun a=>r.map fun b=>tm0 10 [a,b]).take 64
 | [],out=>by rw [pairUp];simp
 | a::l,out=>by
  rw [pairUp]
  split
  ·rename_i hge
   rw [List.flatMap_cons,← List.append_assoc,List.take_append_of_le_length hge]
  ·rw [pairUp_take',List.flatMap_cons,← List.append_assoc]
def candP:Nat→Ty→Nat→List PVl
 | 0,_,_=>[]
 | n+1,t,m =>
  let o:List PVl :=
   if t.kind==1 then valsN (m+1)
   else if t.kind==2 then valsL (m+1)
   else match t.kind==3,t.args with
    | true,[a,b]=>valsP (candP n a m) (candP n b m)
    | _,_=>[unitP]
  o.take 64
theorem candP_nat {n m:Nat}:candP (n+1) tNat m=(valsN (m+1)).take 64:=by simp [candP,tNat,Ty.kind]
theorem candP_list {n m:Nat}:candP (n+1) tList m=(valsL (m+1)).take 64:=by simp [candP,tList,Ty.kind]
theorem candP_unit {n m:Nat}:candP (n+1) tUnit m=[unitP]:=by simp [candP,tUnit,Ty.kind,Ty.args]
theorem candP_pair {n m:Nat} {a b:Ty}:candP (n+1) (tPair a b) m=(valsP (candP n a m) (candP n b m)).take 64:=by simp [candP,tPair,Ty.kind,Ty.args]
theorem candP_zip {t:Ty} (h:PlT t) {m:Nat}:∀ {n:Nat},tyH t≤n→Zip2 (fun v x=>IsVl t v x) (candP n t m) (candN n t m):=by
 induction h with
 | nat =>
  intro n hn;obtain ⟨n,rfl⟩:∃ k,n=k+1:=⟨n - 1,by have:=@tyH_pos tNat;omega⟩
  rw [candP_nat,candN_nat]
  exact (Zip2.self fun a _=>IsVl.num a).take 64
 | list =>
  intro n hn;obtain ⟨n,rfl⟩:∃ k,n=k+1:=⟨n - 1,by have:=@tyH_pos tList;omega⟩
  rw [candP_list,candN_list]
  refine Zip2.take (Zip2.app (.cons (IsVl.list []) ?_) ?_) 64
  ·simp only [numsT,List.map_map]
   exact Zip2.self fun a _=>IsVl.list [a]
  ·simp only [numsT,List.flatMap_map,List.map_map]
   have key:∀ l:List Nat,Zip2 (fun v x=>IsVl tList v x) (l.flatMap fun a=>(List.range (m+1)).map fun c=>listP [a,c]) (l.flatMap fun a=>(List.range (m+1)).map fun c=>consT (numT a) (consT (numT c) nilT)):=by
    intro l
    induction l with
    | nil=>exact .nil
    | cons a l ih =>
     rw [List.flatMap_cons,List.flatMap_cons]
     exact (Zip2.self fun c _=>IsVl.list [a,c]).app ih
   exact key _
 | unit =>
  intro n hn;obtain ⟨n,rfl⟩:∃ k,n=k+1:=⟨n - 1,by have:=@tyH_pos tUnit;omega⟩
  rw [candP_unit,candN_unit]
  exact .cons .unit .nil
 | @pair a b _ _ h1 h2 =>
  intro n hn;obtain ⟨n,rfl⟩:∃ k,n=k+1:=⟨n - 1,by have:=@tyH_pos (tPair a b);omega⟩
  obtain ⟨q1,q2⟩:=tyH_two (k:=3) (a:=a) (b:=b) hn
  rw [candP_pair,candN_pair,pairUp_take',List.nil_append]
  exact ((h1 q1).flat fun v x hv=>(h2 q2).map fun w y hw=>IsVl.pair hv hw).take 64
theorem candP_nodup {t:Ty} (h:PlT t) {m:Nat}:∀ {n:Nat},(candP n t m).Pairwise (·≠·):=by
 induction h with
 | nat=>intro n;cases n with
  | zero=>exact .nil
  | succ n=>rw [candP_nat];exact (valsN_nodup _).sublist (List.take_sublist _ _)
 | list=>intro n;cases n with
  | zero=>exact .nil
  | succ n=>rw [candP_list];exact (valsL_nodup _).sublist (List.take_sublist _ _)
 | unit=>intro n;cases n with
  | zero=>exact .nil
  | succ n=>rw [candP_unit];simp
 | pair _ _ h1 h2=>intro n;cases n with
  | zero=>exact .nil
  | succ n=>rw [candP_pair];exact (valsP_nodup h1 h2).sublist (List.take_sublist _ _)
theorem candP_len {n:Nat} {t:Ty} {m:Nat}:(candP n t m).length≤64:=by
 cases n with
 | zero=>simp [candP]
 | succ n=>rw [candP];simp only [List.length_take];omega
def longerV (L:List (List PVl)) (W:List PVl):List (List PVl):=(L.flatMap fun l=>W.map fun v=>l++[v]).take 64
def inputsV (m:Nat) (ts:List Ty):List (List PVl):=ts.foldl (fun L t=>longerV L (candP (tyH t) t m)) [[]]
theorem inputsV_snoc {m:Nat} {ts:List Ty} {t:Ty}:inputsV m (ts++[t])=longerV (inputsV m ts) (candP (tyH t) t m):=by simp [inputsV]
theorem longerV_len {L:List (List PVl)} {W:List PVl}:(longerV L W).length≤64:=by unfold longerV;simp only [List.length_take];omega
theorem longerV_pos {L:List (List PVl)} {W:List PVl} (h1:1≤L.length) (h2:1≤W.length):1≤(longerV L W).length:=by
 obtain ⟨l,L,rfl⟩:∃ l r,L=l::r:=by cases L with|nil=>simp at h1|cons l r=>exact ⟨l,r,rfl⟩
 unfold longerV
 simp only [List.length_take,List.flatMap_cons,List.length_append,List.length_map];omega
theorem longerV_mem {L:List (List PVl)} {W:List PVl} {x:List PVl} (h:x∈longerV L W):∃ l∈L,∃ v∈W,x=l++[v]:=by
 have h:=List.mem_of_mem_take h
 obtain ⟨l,hl,h⟩:=List.mem_flatMap.1 h
 obtain ⟨v,hv,rfl⟩:=List.mem_map.1 h
 exact ⟨l,hl,v,hv,rfl⟩
theorem longerV_nodup {L:List (List PVl)} {W:List PVl} (h1:L.Pairwise (·≠·)) (h2:W.Pairwise (·≠·)):(longerV L W).Pairwise (·≠·) :=
 (pairs_nodup (f:=fun l v=>l++[v]) (fun a b a' b' h=>by
  have:=List.append_inj' h rfl
  exact ⟨this.1,by simpa using this.2⟩) h1 h2).sublist (List.take_sublist _ _)
structure InOk (ts:List Ty) (L:List (List PVl)):Prop where
 pos:1≤L.length
 len:L.length≤64
 nodup:L.Pairwise (·≠·)
 val:∀ l∈L,l.length=ts.length∧∀ (k:Nat) (t:Ty) (v:PVl),ts[k]? = some t→l[k]? = some v→∃ x,IsVl t v x∧tmSz x≤2500
theorem candP_pos {t:Ty} (h:PlT t) (hF:TyF t) {m:Nat}:1≤(candP (tyH t) t m).length:=by
 rw [(candP_zip h (Nat.le_refl _)).len]
 exact candN_pos' hF (Nat.le_refl _)
theorem candP_val {t:Ty} (h:PlT t) (hF:TyF t) (hz:tySz t≤64) {m:Nat} (hm:m≤16) {v:PVl} (hv:v∈candP (tyH t) t m):∃ x,IsVl t v x∧tmSz x≤2500:=by
 obtain ⟨i,hi⟩:=List.mem_iff_getElem?.1 hv
 have zp:=candP_zip h (m:=m) (Nat.le_refl (tyH t))
 have hlt:i<(candN (tyH t) t m).length:=by rw [← zp.len];exact (List.getElem?_eq_some_iff.1 hi).1
 have hx:=List.getElem?_eq_getElem hlt
 have ok:=candN_ok' (K:=38) hF (m:=m) (by omega) hz (n:=tyH t) (g:=[]) (Nat.le_refl _) _ (List.mem_of_getElem? hx)
 exact ⟨_,zp.at hi hx,by have:=ok.sz;omega⟩
theorem inputsV_ok {m:Nat} (hm:m≤16):∀ {ts:List Ty},(∀ t∈ts,PlT t∧TyF t∧tySz t≤64)→InOk ts (inputsV m ts):=by
 intro ts
 have key:∀ n (ts:List Ty),ts.length=n→(∀ t∈ts,PlT t∧TyF t∧tySz t≤64)→InOk ts (inputsV m ts):=by
  intro n
  induction n with
  | zero =>
   intro ts hn _
   have:ts=[]:=List.eq_nil_of_length_eq_zero hn
   subst this
   exact ⟨by simp [inputsV],by simp [inputsV],by simp [inputsV],fun l hl=>by
    simp [inputsV] at hl
    subst hl
    exact ⟨rfl,fun k t v h=>by simp at h⟩⟩
  | succ n ih =>
   intro ts hn ht
   obtain ⟨ts',t,rfl⟩:∃ r t,ts=r++[t]:=⟨ts.dropLast,ts.getLast (by intro e;subst e;simp at hn),(List.dropLast_concat_getLast _).symm⟩
   have io:=ih ts' (by simpa using hn) (fun x hx=>ht x (by simp [hx]))
   obtain ⟨p1,p2,p3⟩:=ht t (by simp)
   rw [inputsV_snoc]
   refine ⟨longerV_pos io.pos (candP_pos p1 p2),longerV_len,longerV_nodup io.nodup (candP_nodup p1),fun l hl=>?_⟩
   obtain ⟨l',hl',v,hv,rfl⟩:=longerV_mem hl
   obtain ⟨q1,q2⟩:=io.val l' hl'
   refine ⟨by simp [q1],fun k s w hs hw=>?_⟩
   rcases Nat.lt_or_ge k ts'.length with hk|hk
   ·rw [List.getElem?_append_left hk] at hs
    rw [List.getElem?_append_left (by omega)] at hw
    exact q2 k s w hs hw
   ·rw [List.getElem?_append_right hk] at hs
    rw [List.getElem?_append_right (by omega)] at hw
    rw [q1] at hw
    have hk0:k - ts'.length=0:=by
     have:=(List.getElem?_eq_some_iff.1 hs).1
     simp at this;omega
    rw [hk0] at hs hw
    simp at hs hw
    subst hs;subst hw
    exact candP_val p1 p2 p3 hm hv
 exact key _ ts rfl
def rowsI (L:List (List PVl)):List (List V):=L.map fun l=>[V.sl .any (l.map PVl.cells)]
theorem rowsI_len {L:List (List PVl)}:(rowsI L).length=L.length:=by simp [rowsI]
theorem rowsI_app {L M:List (List PVl)}:rowsI (L++M)=rowsI L++rowsI M:=by simp [rowsI]
theorem rowsI_weak {L:List (List PVl)}:weakLL (rowsI L)=rowsI L:=by
 rw [weakLL_eq,rowsI,List.map_map]
 apply List.map_congr_left
 intro l _
 simp only [Function.comp,weakL,weak,weakLL_PVl]
theorem rowsI_in {S:Id→Prop} {L:List (List PVl)}:InLL S (rowsI L):=by
 rw [InLL_mem]
 intro e he
 obtain ⟨l,_,rfl⟩:=List.mem_map.1 he
 simp only [InL,InV,capIn,true_and,and_true]
 rw [InLL_mem]
 intro e he
 obtain ⟨v,_,rfl⟩:=List.mem_map.1 he
 exact InL_PVl v
theorem hc_none {f:Fm} (h:f.fl.c=false):f.hc=false:=by
 unfold Fm.hc Fm.has
 split
 ·rfl
 ·exact h
theorem rlF_of {f:Fm} {t:Tm} (hf:FmG true f) (zf:fmSz f≤4096) (ht:TmG t) (zt:tmSz t≤4096) (lf:f.least 268435456=true) (lt:t.least 268435456=true):rlF f t=rlOf (fdp f) f (if f.fl.c then t else tm0 13 []):=by
 unfold rlF
 rw [hf.err0 zf,ht.err0 zt,far_least,lf,lt,hc_c hf zf]
 rfl
def askF (g:Tm):Fm:=fmQ 4 tNat (fmQ 5 tNat (fmEq (tmVar 0) (tm0 3 [g,tmVar 1])))
def ask1 (g:Tm):Fm:=fmQ 5 tNat (fmEq (tmVar 0) (tm0 3 [g,tmVar 1]))
def sucT:Tm:=tmT 2 tNat [tm0 5 [tmVar 0]]
def askR (g t:Tm):Fm:=fmQ 4 tNat (fmEq (tm0 3 [t,tmVar 0]) (tm0 3 [g,tmVar 0]))
def askI (g t:Tm) (n:Nat):Fm:=fmEq (tm0 3 [t,numT n]) (tm0 3 [g,numT n])
theorem suc_W:TmW sucT:=tmT_W1 tNat_W (tm0_W1 (tmVar_W 0))
theorem askF_W {g:Tm} (h:TmW g):FmW (askF g):=fmQ_W tNat_W (fmQ_W tNat_W (fmEq_W (tmVar_W 0) (tm0_W2 h (tmVar_W 1))))
theorem suc_ty:HasTy TyG [] sucT (tFun tNat tNat):=.lam1 tNN (.n1 (ty:=.mk 0 []) .succ .v0)
theorem suc_G:TmG sucT:=.lam ⟨.nat,by rw [tySz_nat];omega⟩ (.t1 rfl rfl (.var (by omega)))
theorem suc_err:fmErr (askF sucT)=0:=by rfl
theorem suc_cty:(askF sucT).cty=(tFun tNat tNat,0):=by rfl
theorem suc_cty1:(ask1 sucT).cty=(tNat,0):=by rfl
theorem suc_rl:rlF (askF sucT) sucT=(askR sucT sucT,0):=by rfl
theorem suc_has:(askF sucT).has 1=(true,0):=by rfl
theorem suc_ev:ev 5000 5 0 sucT []=some (cloR (tm0 5 [tmVar 0]) [],1,false):=by rfl
theorem suc_call (n:Nat):evCall (ev 5000 5) 1 (cloR (tm0 5 [tmVar 0]) []) (numR n)=some (numR (n+1),3,false):=by rfl
theorem suc_d {n:Nat} (h:n≤3):(fun a:Ans=>(a.1,a.2.2)) (dT 5000 (fdp (askI sucT sucT n)) 0 (askI sucT sucT n))=(true,0):=by
 have:n=0∨n=1∨n=2∨n=3:=by omega
 rcases this with rfl|rfl|rfl|rfl<;>rfl
theorem suc_dw {n:Nat} (h:n≤3):(dT 5000 (fdp (askI sucT sucT n)) 0 (askI sucT sucT n)).2.1≤5000:=by
 have:n=0∨n=1∨n=2∨n=3:=by omega
 rcases this with rfl|rfl|rfl|rfl<;>exact Nat.le_of_ble_eq_true rfl
theorem suc_put {n:Nat} (h:n≤3):putR (fmEq (tm0 3 [sucT,tmVar 0]) (tm0 3 [sucT,tmVar 0])) (numT n)=(askI sucT sucT n,0):=by
 have:n=0∨n=1∨n=2∨n=3:=by omega
 rcases this with rfl|rfl|rfl|rfl<;>rfl
theorem suc_has4 {n:Nat} (h:n≤3):(askI sucT sucT n).has 4=(true,0):=by
 have:n=0∨n=1∨n=2∨n=3:=by omega
 rcases this with rfl|rfl|rfl|rfl<;>rfl
theorem askI_W {g t:Tm} (hg:TmW g) (ht:TmW t) (n:Nat):FmW (askI g t n):=fmEq_W (tm0_W2 ht (numT_W n)) (tm0_W2 hg (numT_W n))
theorem askI_dc {g t:Tm} (hg:HasTy TyG [] g (tFun tNat tNat)) (ht:HasTy TyG [] t (tFun tNat tNat)) (gg:TmG g) (gt:TmG t) (n:Nat):Dc [] (askI g t n) :=
 .eq (.t2 rfl rfl gt (numT_G n)) (.t2 rfl rfl gg (numT_G n)) (.n2 (ty:=.mk 0 []) .app ht (.num n)) (.n2 (ty:=.mk 0 []) .app hg (.num n))
theorem askI_sz {g t:Tm} {n:Nat}:fmSz (askI g t n)=tmSz t+tmSz g+2 * n+5:=by
 unfold askI
 rw [fmSz_eq,tmSz_2,tmSz_2,tmSz_num];omega
theorem askF_ty {g:Tm} (hg:HasTy TyG [tNat,tNat] g (tFun tNat tNat)):FmTy TyG [] (askF g) :=
 .q (.inl rfl) (.q (.inr (.inl rfl)) (.eq .v0 (.n2 (ty:=.mk 0 []) .app hg (.var (by decide) rfl))))
theorem suc_ty2:HasTy TyG [tNat,tNat] sucT (tFun tNat tNat):=.lam1 tNN (.n1 (ty:=.mk 0 []) .succ .v0)
theorem suc_terr:tmErr sucT=0:=by rfl
theorem suc_sz:tmSz sucT=3:=by rfl
theorem suc_FG:FmG true (askF sucT):=.q (.inl rfl) ⟨.nat,by rw [tySz_nat];omega⟩ (.q (.inr (.inl rfl)) ⟨.nat,by rw [tySz_nat];omega⟩ (.eq (.var (by omega)) (.t2 rfl rfl suc_G (.var (by omega)))))
theorem suc_F1G:FmG true (ask1 sucT):=.q (.inr (.inl rfl)) ⟨.nat,by rw [tySz_nat];omega⟩ (.eq (.var (by omega)) (.t2 rfl rfl suc_G (.var (by omega))))
theorem suc_fsz:fmSz (askF sucT)≤100:=by rw [askF,fmSz_q,fmSz_q,fmSz_eq,tmSz_v,tmSz_2,tmSz_v,suc_sz];omega
theorem suc_F1W:FmW (ask1 sucT):=fmQ_W tNat_W (fmEq_W (tmVar_W 0) (tm0_W2 suc_W (tmVar_W 1)))
def sucB:Fm:=fmEq (tm0 3 [sucT,tmVar 0]) (tm0 3 [sucT,tmVar 0])
theorem sucB_W:FmW sucB:=fmEq_W (tm0_W2 suc_W (tmVar_W 0)) (tm0_W2 suc_W (tmVar_W 0))
theorem sucB_G:FmG true sucB:=.eq (.t2 rfl rfl suc_G (.var (by omega))) (.t2 rfl rfl suc_G (.var (by omega)))
theorem sucB_sz:fmSz sucB≤100:=by rw [sucB,fmSz_eq,tmSz_2,tmSz_v,suc_sz];omega
theorem sucB_l:sucB.least 536870912=true:=by rfl
theorem suc_in:rowsI (inputsV 2 [tNat])=[0,1,2].map fun n:Nat=>[V.sl .any [[V.int .i64 1,V.int .i64 n,V.sl .any [],V.sl .any []]]]:=by
 have h:inputsV 2 [tNat]=[[numP 0],[numP 1],[numP 2]]:=by
  have e:candP (tyH tNat) tNat 2=[numP 0,numP 1,numP 2]:=by rw [tyH_nat,candP_nat];rfl
  simp only [inputsV,List.foldl_cons,List.foldl_nil,e,longerV];rfl
 rw [h]
 simp only [rowsI,List.map_cons,List.map_nil,numP,PVl.cells_eq]
 rfl
inductive U where
 | nat|list|unit
 | pair (a b:U)
 | fn (a b:U)
deriving DecidableEq
def U.ty:U→Ty
 | .nat=>tNat
 | .list=>tList
 | .unit=>tUnit
 | .pair a b=>tPair a.ty b.ty
 | .fn a b=>tFun a.ty b.ty
@[reducible] def U.val:U→Type
 | .nat=>Nat
 | .list=>List Nat
 | .unit=>Unit
 | .pair a b=>a.val × b.val
 | .fn a b=>a.val→b.val
abbrev DV:=Σ u:U,u.val
def recD {α:Type} (z:α) (s:Nat→α→α):Nat→α
 | 0=>z
 | n+1=>s n (recD z s n)
def foldD {α:Type} (z:α) (s:Nat→List Nat→α→α):List Nat→α
 | []=>z
 | x::l=>s x l (foldD z s l)
inductive Den:List DV→Tm→(u:U)→u.val→Prop
 | var {p:List DV} {i:Nat} {u:U} {d:u.val}:p[i]? = some ⟨u,d⟩→Den p (tmVar i) u d
 | lam {p:List DV} {a u:U} {b:Tm} {f:a.val→u.val}:(∀ x:a.val,Den (⟨a,x⟩::p) b u (f x))→Den p (tmT 2 a.ty [b]) (.fn a u) f
 | app {p:List DV} {ty:Ty} {a b:U} {s t:Tm} {f:a.val→b.val} {x:a.val}:Den p s (.fn a b) f→Den p t a x→Den p (tmT 3 ty [s,t]) b (f x)
 | zero {p:List DV} {ty:Ty}:Den p (tmT 4 ty []) .nat (0:Nat)
 | succ {p:List DV} {ty:Ty} {t:Tm} {n:Nat}:Den p t .nat n→Den p (tmT 5 ty [t]) .nat (n+1:Nat)
 | recr {p:List DV} {a:U} {z s t:Tm} {x:a.val} {f:Nat→a.val→a.val} {n:Nat}:Den p z a x→Den p s (.fn .nat (.fn a a)) f→Den p t .nat n →
   Den p (tmT 6 a.ty [z,s,t]) a (recD x f n)
 | nil {p:List DV} {ty:Ty}:Den p (tmT 7 ty []) .list ([]:List Nat)
 | cons {p:List DV} {ty:Ty} {s t:Tm} {n:Nat} {l:List Nat}:Den p s .nat n→Den p t .list l→Den p (tmT 8 ty [s,t]) .list (n::l:List Nat)
 | fold {p:List DV} {a:U} {z s t:Tm} {x:a.val} {f:Nat→List Nat→a.val→a.val} {l:List Nat}:Den p z a x→Den p s (.fn .nat (.fn .list (.fn a a))) f→Den p t .list l →
   Den p (tmT 9 a.ty [z,s,t]) a (foldD x f l)
 | pair {p:List DV} {ty:Ty} {a b:U} {s t:Tm} {x:a.val} {y:b.val}:Den p s a x→Den p t b y→Den p (tmT 10 ty [s,t]) (.pair a b) (x,y)
 | fst {p:List DV} {ty:Ty} {a b:U} {t:Tm} {x:a.val × b.val}:Den p t (.pair a b) x→Den p (tmT 11 ty [t]) a x.1
 | snd {p:List DV} {ty:Ty} {a b:U} {t:Tm} {x:a.val × b.val}:Den p t (.pair a b) x→Den p (tmT 12 ty [t]) b x.2
 | unit {p:List DV} {ty:Ty}:Den p (tmT 13 ty []) .unit ()
def RD:(u:U)→Res→u.val→Prop
 | .nat,r,n=>r.num=n
 | .list,r,l=>r.list=l
 | .unit,_,_=>True
 | .pair a b,r,p=>∃ x y,r.pair=[x,y]∧RD a x p.1∧RD b y p.2
 | .fn a b,r,f=>∀ (most n u:Nat) (x:Res) (v:a.val) (r':Res) (u':Nat),RD a x v→evCall (ev most n) u r x=some (r',u',false)→RD b r' (f v)
def EnvR (es:List Res) (p:List DV):Prop:=es.length=p.length∧∀ (i:Nat) (u:U) (d:u.val),p[i]? = some ⟨u,d⟩→∃ r,es[es.length - 1 - i]? = some r∧RD u r d
theorem EnvR.snoc {es:List Res} {p:List DV} (h:EnvR es p) {u:U} {r:Res} {d:u.val} (hr:RD u r d):EnvR (es++[r]) (⟨u,d⟩::p):=by
 refine ⟨by simp [h.1],fun i w x hx=>?_⟩
 cases i with
 | zero =>
  simp only [List.getElem?_cons_zero,Option.some.injEq,Sigma.mk.injEq] at hx
  obtain ⟨rfl,hx⟩:=hx
  obtain rfl:=eq_of_heq hx
  exact ⟨r,by simp,hr⟩
 | succ i =>
  rw [List.getElem?_cons_succ] at hx
  obtain ⟨r',h1,h2⟩:=h.2 i w x hx
  have hi:i<p.length:=(List.getElem?_eq_some_iff.1 hx).1
  have e:(es++[r]).length - 1 - (i+1)=es.length - 1 - i:=by simp;omega
  have hl:es.length - 1 - i<es.length:=by have:=h.1;omega
  exact ⟨r',by rw [e,List.getElem?_append_left hl];exact h1,h2⟩
theorem evArgs_cons {E:Evl} {e:List Res} {u:Nat} {t:Tm} {l:List Tm} {l':List Res} {u':Nat} (h:evArgs E e u (t::l)=some (l',u',false)) :
  ∃ r u1 l1,E u t e=some (r,u1,false)∧evArgs E e u1 l=some (l1,u',false)∧l'=r::l1:=by
 rw [evArgs] at h
 split at h
 ·cases h
 ·cases h
 ·next r u1 he =>
  split at h
  ·cases h
  ·next l1 u2 o hl =>
   simp only [Option.some.injEq,Prod.mk.injEq] at h
   obtain ⟨rfl,rfl,rfl⟩:=h
   exact ⟨r,u1,l1,he,hl,rfl⟩
theorem evArgs_nil {E:Evl} {e:List Res} {u u':Nat} {l':List Res} (h:evArgs E e u []=some (l',u',false)):l'=[]∧u'=u:=by
 rw [evArgs] at h
 simp only [Option.some.injEq,Prod.mk.injEq] at h
 exact ⟨h.1.symm,h.2.1.symm⟩
theorem evNode {most n:Nat} {k:Int} {ty:Ty} {l:List Tm} {u u':Nat} {es:List Res} {r:Res} (k1:(k==1)=false) (k2:(k==2)=false)
  (h:ev most (n+1) u (tmT k ty l) es=some (r,u',false)):∃ l' u1,evArgs (ev most n) es (u+1) l=some (l',u1,false)∧evOf (ev most n) k u1 l'=some (r,u',false):=by
 rw [ev_succ] at h
 unfold evStep at h
 split at h
 ·cases h
 ·simp only [tmT,Tm.kind,Tm.args,k1,k2,Bool.false_eq_true,if_false] at h
  split at h
  ·cases h
  ·cases h
  ·next l' u1 he=>exact ⟨l',u1,he,h⟩
theorem evRec_R {a:U} {s:Res} {f:Nat→a.val→a.val} (hs:RD (.fn .nat (.fn a a)) s f) {most n:Nat} {z:a.val} :
  ∀ (m k u:Nat) (r r':Res) (u':Nat),RD a r (recD z f k)→evRec (ev most n) s m k u r=some (r',u',false)→RD a r' (recD z f (k+m))
 | 0,k,u,r,r',u',hr,h=>by
  rw [evRec] at h
  simp only [Option.some.injEq,Prod.mk.injEq] at h
  obtain ⟨rfl,_⟩:=h
  exact hr
 | m+1,k,u,r,r',u',hr,h=>by
  rw [evRec] at h
  split at h
  ·cases h
  ·cases h
  ·next g u1 h1 =>
   have hg:=hs _ _ _ (numR k) k g u1 rfl h1
   split at h
   ·cases h
   ·cases h
   ·next r1 u2 h2 =>
    have h3:=hg _ _ _ r (recD z f k) r1 u2 hr h2
    have:=evRec_R hs m (k+1) u2 r1 r' u' h3 h
    rw [show k+(m+1)=k+1+m by omega]
    exact this
theorem evFold_R {a:U} {s:Res} {f:Nat→List Nat→a.val→a.val} (hs:RD (.fn .nat (.fn .list (.fn a a))) s f) {most n:Nat} {z:a.val} {l:List Nat} :
  ∀ (m u:Nat) (r r':Res) (u':Nat),m≤l.length→RD a r (foldD z f (l.drop m))→evFold (ev most n) s l m u r=some (r',u',false)→RD a r' (foldD z f l)
 | 0,u,r,r',u',hm,hr,h=>by
  rw [evFold] at h
  simp only [Option.some.injEq,Prod.mk.injEq] at h
  obtain ⟨rfl,_⟩:=h
  exact hr
 | m + 1,u,r,r',u',hm,hr,h=>by
  rw [evFold] at h
  split at h
  ·cases h
  ·cases h
  ·next g u1 h1 =>
   have hg:=hs _ _ _ (numR (l.getD m 0)) (l.getD m 0) g u1 rfl h1
   split at h
   ·cases h
   ·cases h
   ·next g1 u2 h2 =>
    have hg1:=hg _ _ _ (listR (l.drop (m+1))) (l.drop (m+1)) g1 u2 rfl h2
    split at h
    ·cases h
    ·cases h
    ·next r1 u3 h3 =>
     have h4:=hg1 _ _ _ r _ r1 u3 hr h3
     have hd:l.drop m=l.getD m 0::l.drop (m+1):=by
      rw [List.drop_eq_getElem_cons (by omega),List.getD_eq_getElem?_getD,List.getElem?_eq_getElem (by omega)];rfl
     refine evFold_R hs m u3 r1 r' u' (by omega) ?_ h
     rw [hd]
     exact h4
theorem Den.ev {p:List DV} {t:Tm} {w:U} {d:w.val} (h:Den p t w d):∀ {most n u u':Nat} {es:List Res} {r:Res},EnvR es p→ev most n u t es=some (r,u',false)→RD w r d:=by
 induction h with
 | @var p i w d hi =>
  intro most n u u' es r he h
  cases n with
  | zero=>simp [GoAbs.ev] at h
  | succ n =>
  rw [ev_succ] at h
  unfold evStep at h
  split at h
  ·cases h
  ·have hk:(tmVar i).kind=1:=rfl
   have hx:(tmVar i).index=i:=rfl
   rw [hk,hx] at h
   simp only [BEq.rfl,if_true] at h
   obtain ⟨r',h1,h2⟩:=he.2 i w d hi
   have hi':i<p.length:=(List.getElem?_eq_some_iff.1 hi).1
   have hl:=he.1
   have e:((es.length:Int) - 1 - (i:Int)).toNat=es.length - 1 - i:=by omega
   split at h
   ·rw [e,h1] at h
    simp only [Option.map_some,Option.some.injEq,Prod.mk.injEq] at h
    obtain ⟨rfl,_⟩:=h
    exact h2
   ·cases h
 | @lam p a w b f hb ih =>
  intro most n u u' es r he h
  cases n with
  | zero=>simp [GoAbs.ev] at h
  | succ n =>
  rw [ev_succ] at h
  unfold evStep at h
  split at h
  ·cases h
  ·have k1:((2:Int)==1)=false:=rfl
   simp only [tmT,Tm.kind,Tm.args,k1,BEq.rfl,if_true,Bool.false_eq_true,if_false,Option.some.injEq,Prod.mk.injEq] at h
   obtain ⟨rfl,_⟩:=h
   intro most n u x v r' u' hx hc
   exact ih v (he.snoc hx) hc
 | @app p ty a b s t f x h1 h2 i1 i2 =>
  intro most n u u' es r he h
  cases n with
  | zero=>simp [GoAbs.ev] at h
  | succ n =>
  obtain ⟨l',u1,ha,ho⟩:=evNode rfl rfl h
  obtain ⟨ra,u2,l1,e1,ha2,rfl⟩:=evArgs_cons ha
  obtain ⟨rb,u3,l2,e2,hb,rfl⟩:=evArgs_cons ha2
  obtain ⟨rfl,rfl⟩:=evArgs_nil hb
  simp only [evOf,BEq.rfl,if_true] at ho
  exact i1 he e1 _ _ _ _ _ _ _ (i2 he e2) ho
 | @zero p ty =>
  intro most n u u' es r he h
  cases n with
  | zero=>simp [GoAbs.ev] at h
  | succ n =>
  obtain ⟨l',u1,ha,ho⟩:=evNode rfl rfl h
  obtain ⟨rfl,rfl⟩:=evArgs_nil ha
  have e:evOf (GoAbs.ev most n) 4 (u+1) []=some (zeroR,u+1,false):=by simp [evOf]
  rw [e] at ho
  simp only [Option.some.injEq,Prod.mk.injEq] at ho
  obtain ⟨rfl,_⟩:=ho
  rfl
 | @succ p ty t m h1 i1 =>
  intro most n u u' es r he h
  cases n with
  | zero=>simp [GoAbs.ev] at h
  | succ n =>
  obtain ⟨l',u1,ha,ho⟩:=evNode rfl rfl h
  obtain ⟨ra,u2,l1,e1,ha2,rfl⟩:=evArgs_cons ha
  obtain ⟨rfl,rfl⟩:=evArgs_nil ha2
  have e:evOf (GoAbs.ev most n) 5 u1 [ra]=some (numR (ra.num+1),u1,false):=by simp [evOf]
  rw [e] at ho
  simp only [Option.some.injEq,Prod.mk.injEq] at ho
  obtain ⟨rfl,_⟩:=ho
  have:=i1 he e1
  simp only [RD] at this ⊢
  rw [← this];rfl
 | @recr p a z s t x f m h1 h2 h3 i1 i2 i3 =>
  intro most n u u' es r he h
  cases n with
  | zero=>simp [GoAbs.ev] at h
  | succ n =>
  obtain ⟨l',u1,ha,ho⟩:=evNode rfl rfl h
  obtain ⟨ra,u2,l1,e1,ha2,rfl⟩:=evArgs_cons ha
  obtain ⟨rb,u3,l2,e2,hb,rfl⟩:=evArgs_cons ha2
  obtain ⟨rc,u4,l3,e3,hc,rfl⟩:=evArgs_cons hb
  obtain ⟨rfl,rfl⟩:=evArgs_nil hc
  have e:evOf (GoAbs.ev most n) 6 u1 [ra,rb,rc]=evRec (GoAbs.ev most n) rb rc.num 0 u1 ra:=by simp [evOf]
  rw [e] at ho
  have k3:rc.num=m:=i3 he e3
  rw [k3] at ho
  have:=evRec_R (z:=x) (i2 he e2) m 0 _ _ _ _ (i1 he e1) ho
  rw [Nat.zero_add] at this
  exact this
 | @nil p ty =>
  intro most n u u' es r he h
  cases n with
  | zero=>simp [GoAbs.ev] at h
  | succ n =>
  obtain ⟨l',u1,ha,ho⟩:=evNode rfl rfl h
  obtain ⟨rfl,rfl⟩:=evArgs_nil ha
  have e:evOf (GoAbs.ev most n) 7 (u+1) []=some (zeroR,u+1,false):=by simp [evOf]
  rw [e] at ho
  simp only [Option.some.injEq,Prod.mk.injEq] at ho
  obtain ⟨rfl,_⟩:=ho
  rfl
 | @cons p ty s t m l h1 h2 i1 i2 =>
  intro most n u u' es r he h
  cases n with
  | zero=>simp [GoAbs.ev] at h
  | succ n =>
  obtain ⟨l',u1,ha,ho⟩:=evNode rfl rfl h
  obtain ⟨ra,u2,l1,e1,ha2,rfl⟩:=evArgs_cons ha
  obtain ⟨rb,u3,l2,e2,hb,rfl⟩:=evArgs_cons ha2
  obtain ⟨rfl,rfl⟩:=evArgs_nil hb
  have e:evOf (GoAbs.ev most n) 8 u1 [ra,rb]=some (listR (ra.num::rb.list),u1,false):=by simp [evOf]
  rw [e] at ho
  simp only [Option.some.injEq,Prod.mk.injEq] at ho
  obtain ⟨rfl,_⟩:=ho
  have k1:ra.num=m:=i1 he e1
  have k2:rb.list=l:=i2 he e2
  simp only [RD]
  rw [← k1,← k2];rfl
 | @fold p a z s t x f l h1 h2 h3 i1 i2 i3 =>
  intro most n u u' es r he h
  cases n with
  | zero=>simp [GoAbs.ev] at h
  | succ n =>
  obtain ⟨l',u1,ha,ho⟩:=evNode rfl rfl h
  obtain ⟨ra,u2,l1,e1,ha2,rfl⟩:=evArgs_cons ha
  obtain ⟨rb,u3,l2,e2,hb,rfl⟩:=evArgs_cons ha2
  obtain ⟨rc,u4,l3,e3,hc,rfl⟩:=evArgs_cons hb
  obtain ⟨rfl,rfl⟩:=evArgs_nil hc
  have e:evOf (GoAbs.ev most n) 9 u1 [ra,rb,rc]=evFold (GoAbs.ev most n) rb rc.list rc.list.length u1 ra:=by simp [evOf]
  rw [e] at ho
  have k3:rc.list=l:=i3 he e3
  rw [k3] at ho
  exact evFold_R (z:=x) (i2 he e2) l.length _ _ _ _ (Nat.le_refl _) (by rw [List.drop_length];exact i1 he e1) ho
 | @pair p ty a b s t x y h1 h2 i1 i2 =>
  intro most n u u' es r he h
  cases n with
  | zero=>simp [GoAbs.ev] at h
  | succ n =>
  obtain ⟨l',u1,ha,ho⟩:=evNode rfl rfl h
  obtain ⟨ra,u2,l1,e1,ha2,rfl⟩:=evArgs_cons ha
  obtain ⟨rb,u3,l2,e2,hb,rfl⟩:=evArgs_cons ha2
  obtain ⟨rfl,rfl⟩:=evArgs_nil hb
  have e:evOf (GoAbs.ev most n) 10 u1 [ra,rb]=some (pairR [ra,rb],u1,false):=by simp [evOf]
  rw [e] at ho
  simp only [Option.some.injEq,Prod.mk.injEq] at ho
  obtain ⟨rfl,_⟩:=ho
  exact ⟨ra,rb,rfl,i1 he e1,i2 he e2⟩
 | @fst p ty a b t x h1 i1 =>
  intro most n u u' es r he h
  cases n with
  | zero=>simp [GoAbs.ev] at h
  | succ n =>
  obtain ⟨l',u1,ha,ho⟩:=evNode rfl rfl h
  obtain ⟨ra,u2,l1,e1,ha2,rfl⟩:=evArgs_cons ha
  obtain ⟨rfl,rfl⟩:=evArgs_nil ha2
  obtain ⟨y,z,hp,hy,hz⟩:=i1 he e1
  have e:evOf (GoAbs.ev most n) 11 u1 [ra]=some (y,u1,false):=by simp [evOf,hp]
  rw [e] at ho
  simp only [Option.some.injEq,Prod.mk.injEq] at ho
  obtain ⟨rfl,_⟩:=ho
  exact hy
 | @snd p ty a b t x h1 i1 =>
  intro most n u u' es r he h
  cases n with
  | zero=>simp [GoAbs.ev] at h
  | succ n =>
  obtain ⟨l',u1,ha,ho⟩:=evNode rfl rfl h
  obtain ⟨ra,u2,l1,e1,ha2,rfl⟩:=evArgs_cons ha
  obtain ⟨rfl,rfl⟩:=evArgs_nil ha2
  obtain ⟨y,z,hp,hy,hz⟩:=i1 he e1
  have e:evOf (GoAbs.ev most n) 12 u1 [ra]=some (z,u1,false):=by simp [evOf,hp]
  rw [e] at ho
  simp only [Option.some.injEq,Prod.mk.injEq] at ho
  obtain ⟨rfl,_⟩:=ho
  exact hz
 | unit =>
  intro most n u u' es r he h
  trivial
end GoAbs
