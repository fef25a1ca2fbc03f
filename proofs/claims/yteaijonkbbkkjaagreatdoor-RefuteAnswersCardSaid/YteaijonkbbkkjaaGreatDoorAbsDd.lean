/-
 The abstract layer: plain laws, further ones.
-/
import Derived.Test.YteaijonkbbkkjaaGreatDoorAbsDb
import Derived.Test.YteaijonkbbkkjaaGreatDoorAbsDc
import Derived.Test.YteaijonkbbkkjaaGreatDoorAbsD
import Derived.Test.YteaijonkbbkkjaaGreatDoorAbsC
import Derived.ArgAppend
import Derived.OrdersIn
import Derived.BigRegionIn
set_option linter.unusedSimpArgs false
set_option linter.unusedVariables false
set_option linter.unusedSectionVars false
namespace GoAbs
open Go Go.RowKit
theorem az4 {P:Program} {ops:Array Oper} {o:Oper} {a:Act} {w:World} {K:Act→World→Prop} {Q:Exit→Act→World→Prop} {E:Prop} {m:Nat}
  (hg:o.guard=none) (s x:Operand) (t:TypeId) (hop:o.op=Op.call { callee:=Callee.builtin Builtin.append,args:=#[s,x],argTypes:=#[t,t] })
  (e:TypeId) (i:TypeInfo) (h1:P.underlying t=some (.slice e)) (h2:P.info? e=some i)
  (ao:Option Addr) (n cap:Nat) (hs:a.eval s=.slice ao n cap) (hle:n≤cap) (bo:Option Addr) (c:Nat) (hx:a.eval x=.slice bo 0 c)
  (hK:K (a.put o.dst (.slice ao n cap)) w) :
  if Region.wanted o (yielded ops a.tmps)=true then Oper.wpIn Fence.wide m P o a w K Q else E:=by
 have hw:Region.wanted o (yielded ops a.tmps)=true:=by simp [Region.wanted,hg]
 rw [if_pos hw];have E0:(Builtin.append_ #[t,t] o.type #[.slice ao n cap,.slice bo 0 c]).run P w=.ok (.slice ao n cap) w:=by
  cases ao<;>cases bo<;>simp [Builtin.append_,run_underlying h1,Go.sizeOf,typeInfo,h2,Builtin.lenOf,hle,Builtin.firstCells,loadCells,loadCellsFrom,storeCells]
 refine ⟨fun f _=>trivial,?_⟩;have:(o.semAt Fence.wide.round a.eval).run P w=.ok (.value (.slice ao n cap)) w:=by
  simp [Oper.semAt,Fence.wide,execOp,hop,resolve,invoke,builtin,hs,hx,E0,Result.andThen]
 rw [this];exact hK
theorem bq9 {P:Program} {ops:Array Oper} {o:Oper} {a:Act} {w:World} {K:Act→World→Prop} {Q:Exit→Act→World→Prop} {E:Prop} {l:Nat}
  (hg:o.guard=none) (s x:Operand) (t:TypeId) (hop:o.op=Op.call { callee:=Callee.builtin Builtin.append,args:=#[s,x],argTypes:=#[t,t] })
  (e:TypeId) (i:TypeInfo) (z:Value) (h1:P.underlying t=some (.slice e)) (h2:P.info? e=some i) (h3:i.zero=some z)
  (b:Addr) (cap:Nat) (hs:a.eval s=.slice (some b) 0 cap)
  (ad:Addr) (m c:Nat) (news:List Value) (hx:a.eval x=.slice (some ad) m c) (hn:news.length=m * i.size) (hc:∀ j u,news[j]? = some u→w.cell? (ad.add j)=some u)
  (do5:cap<m) (b1:m≤1000) (b2:i.bytes≤1000)
  (hK:∀ (c':Nat) (arr:Array Value),m≤c'→(∀ (j:Nat) (u:Value),news[j]? = some u→arr[j]? = some u)→K (a.put o.dst (.slice (some ⟨w.heap.size,0,none⟩) m c')) (w.drew.alloc (.cells arr e))) :
  if Region.wanted o (yielded ops a.tmps)=true then Oper.wpIn Fence.wide l P o a w K Q else E:=by
 have hw:Region.wanted o (yielded ops a.tmps)=true:=by simp [Region.wanted,hg]
 rw [if_pos hw];have hmb:m * i.bytes≤140737488355328:=Nat.le_trans (Nat.mul_le_mul b1 b2) (by decide);have E0:=run_append_grow (P:=P) w t o.type e i z h1 h2 h3 b 0 cap [] sp_ (fun j u h=>by simp at h) ad m c news hn hc om_ om_ (growslice_fits om_ (by simpa using hmb));rw [Nat.zero_add] at E0;refine ⟨fun f _=>trivial,?_⟩;have:(o.semAt Fence.wide.round a.eval).run P w=.ok (.value (.slice (some ⟨w.heap.size,0,none⟩) m (grownCap w m cap e))) (w.drew.alloc (.cells ((#[]:Array Value)++news.toArray++Builtin.zeroCells z.cells (grownCap w m cap e - m)) e)):=by
  simp [Oper.semAt,Fence.wide,execOp,hop,resolve,invoke,builtin,hs,hx,E0,Result.andThen]
 rw [this];refine hK _ _ (grownCap_ge w m cap e) fun j u h=>?_;have hj:j<news.length:=(List.getElem?_eq_some_iff.1 h).1;rw [Array.getElem?_append_left (by simp;omega)];simpa using h
theorem aI3 {P:Program} (w:World) (d:Nat) (t e:TypeId) (a:Option Addr) (n c n' c':Nat) (h:P.underlying t=some (.slice e)) :
  (Op.equalIn (d+1) t (.slice a n c) (.slice none n' c')).run P w=.ok a.isNone w:=by
 cases a<;>simp [Op.equalIn,run_underlying h]
theorem bC6 {P:Program} {ρc:Operand→Value} {o:Oper} {t e t':TypeId} {x y:Operand} (hop:o.op=.binOp .eql t x y t') (ht:P.underlying t=some (.slice e)) {a:Option Addr} {n c n' c':Nat} (hx:ρc x=.slice a n c) (hy:ρc y=.slice none n' c') (w:World) :
  (execOp ρc o).run P w=.ok (.value (.bool a.isNone)) w:=by
 simp only [execOp,hop,hx,hy,eqGuard,binOp];simp [Op.equal,Op.maxDepth,aI3 w 9999 t e a n c n' c' ht]
theorem bc9 {c:Ctx} {gen:Nat} {k:List It} {σ:St} {id:Nat} {ops:Array Oper} (j:Nat) {o:Oper} {x:Operand} {t e t':TypeId} {d n' c':Nat} (aT5:ops[j]? = some o) (hg:o.guard=none) (bL9:o.dst=some d)
  (hop:o.op=.binOp .eql t x (.const (.slice none n' c')) t') (ht:c.P.underlying t=some (.slice e))
  (h:N8 c.P c.env ops false gen id (ops.toList.take j) 0 [] (fun σ1=>∃ cc es,av c.env σ1.tm x=.sl cc es∧∀ b:Bool,(b=true→es=[]) →
   N8 c.P c.env ops false gen id (ops.toList.drop (j+1)) (j+1) [] (fun σ'=>AR c gen k .normal σ') ⟨upd σ1.tm (some d) (.bool b),σ1.h⟩) σ) :
  AR c gen (.code (.region id ops false)::k) .normal σ:=by
 rw [← bL9] at h;intro ok hm g a w hx r;simp only [R6,J9,Bool.and_eq_true] at ok;obtain ⟨⟨hd,_⟩,okk⟩:=ok;have hj:j<ops.size:=(Array.getElem?_eq_some_iff.1 aT5).1;obtain ⟨l1,σ1,h1,h2,cc,es,hA,hq⟩:=as7 (ops.toList.take j) 0 [] σ (fun i o h=>by
  rw [List.getElem?_take] at h;split at h
  ·simpa using h
  ·cases h) h
 have hl1:l1.map (·.1)=List.range j:=by
  rw [h1,List.length_take];rw [Nat.min_eq_left (by simpa using Nat.le_of_lt hj)];simp
 refine wp_region ?_;have bG9:List.range ops.size=List.range j++(j::(List.range (ops.size - (j+1))).map (j+1+·)):=by
  apply List.ext_getElem?;intro i;by_cases hi:i<j
  ·rw [List.getElem?_append_left (by simpa using hi),List.getElem?_range om_,List.getElem?_range hi]
  ·rw [List.getElem?_append_right (by simpa using hi)]
   simp only [List.length_range];rcases Nat.eq_or_lt_of_le (Nat.le_of_not_lt hi) with e|hlt
   ·subst e;simp [hj]
   ·obtain ⟨m,rfl⟩:∃ m,i=j+1+m:=⟨i - (j+1),om_⟩
    rw [show j+1+m - j=m+1 by omega,List.getElem?_cons_succ];by_cases hm:m<ops.size - (j+1)
    ·rw [List.getElem?_map,List.getElem?_range hm,List.getElem?_range om_];simp
    ·rw [List.getElem?_eq_none (by simp;omega),List.getElem?_eq_none (by simp;omega)]
 rw [bG9,← hl1];refine bg9 hd _ l1 h2 r fun g' a' w' hx' r'=>?_;rw [wpOps_cons];unfold wpOp;rw [aT5];have hw:Region.wanted o (yielded ops a'.tmps)=true:=by unfold Region.wanted;rw [hg]
 simp only [hw,if_true];have hrx:=bt5 r' x;rw [hA] at hrx;obtain ⟨ao,cap,hev,hne⟩:∃ ao cap,a'.eval x=.slice ao es.length cap∧(ao.isNone=true→es=[]):=by
  generalize a'.eval x=v at hrx;cases hrx with
  | sl ao cap _ _ kk cell hk V0 E0 hr hc =>
   refine ⟨ao,cap,rfl,fun hn=>?_⟩;by_cases he:es=[]
   ·exact he
   ·obtain ⟨b,off,e,_⟩:=E0 he
    rw [e] at hn;simp at hn
 have E0:=bC6 (P:=c.P) (ρc:=a'.eval) hop ht hev rfl w';refine .inl ?_;simp only [Oper.wp,E0,Oper.upon_value];have r2:=r'.put (Ext.refl g' w') (d:=o.dst) (fun t ht=>an4 hd aT5 t ht) r'.rel (RV.bool ao.isNone);obtain ⟨l3,σ3,h3,h4,h5⟩:=as7 (ops.toList.drop (j+1)) (j+1) [] _ (fun i o h=>by
  rw [List.getElem?_drop] at h;simpa using h) (hq ao.isNone hne)
 have hl3:l3.map (·.1)=(List.range (ops.size - (j+1))).map (j+1+·):=by
  rw [h3,List.length_drop];simp
 rw [← hl3];exact aO4 hd l3 h4 r2 fun g3 a3 w3 hx3 r3=>h5 okk hm g3 a3 w3 ((hx.trans hx').trans hx3) r3
def yO (c:Ctx):YC:=⟨Fence.wide,[],fun _ w=>c.w0.heap.size≤w.heap.size,bodyPostM Fence.wide 0 c.P c.fn c.R,fun _=>False,c.w0.heap.size⟩
theorem bw9 (c:Ctx):YOk c (yO c) :=
 ⟨fun _=>trivial,rfl,fun k args w R h=>callsIn_wide.2 h,fun h=>h,fun h=>h,fun g w g' w' x h=>Nat.le_trans h x.size,
  fun g W W' B hB t hz h=>Nat.le_trans h t.size,fun g w g' w' hf h x ho=>Nat.le_trans h x.size,fun g w h=>h,fun _ h=>h.elim⟩
abbrev xT:G→World→Prop:=fun _ _=>True
theorem ax2 {bd:Nat}:XSt bd xT:=⟨fun _ _ _ _ _ h=>h,fun _ _ _ _ _ _ _ h=>h⟩
theorem bQ5 {c:Ctx} {gen:Nat} {k:List It} {e:Exit} {σ:St} (h:ARX c ((yO c).at xT) gen k e σ):ARX c (xF c) gen k e σ :=
 fun g a w hx _ r=>h g a w hx ⟨trivial,hx.size⟩ r
theorem ah4 {c:Ctx} {X:G→World→Prop} {D gen:Nat} {σ:St} (hm:c.P.follows .mixedOrders=true) (hl0:∀ b,c.w0.heap.size≤b→c.g0.lim b=0) (hD:c.w0.heap.size≤D) (h:AR c gen [] .ret σ) :
  ARX c (((yO c).mk1 D).at X) gen [] .ret σ:=by
 intro g a w hx ⟨_,h1,h4,h5⟩ r;exact ab3 hm hl0 h g a w hx ⟨hD,h5,h4⟩ r
theorem ap3.trans {C:Cons} {g1 g2 g3:G} {w1 w2 w3:World} {h1 h2 h3:H} (a:ap3 C g1 w1 h1 g2 w2 h2) (b:ap3 C g2 w2 h2 g3 w3 h3):ap3 C g1 w1 h1 g3 w3 h3 :=
 ⟨aK3 a.ext aU3 b.ext,fun id q1 q2=>(b.same id q1 (by rw [a.same id q1 q2];exact q2)).trans (a.same id q1 q2),fun b0 o q1 q2 q3=>b.obj b0 o q1 (a.obj b0 o q1 q2 q3) q3⟩
def dc3 (P:Program) (gf:Nat) (g:G) (w:World) (x:Value) (n:Nat) (O4:Nat→Value) (prot:List Value):Prop :=
 ∀ (l:Nat) (K:Nat→Option Nat→World→Prop) (Kx:World→Prop),(∀ i p W o,K i p W→K i p (W.alloc o))→(∀ i p W,K i p W→K i p W.drew) →
  (∀ i W arr ty,K i none W→(∀ (j:Nat) u,prot[j]? = some u→arr[j]? = some u)→K i (some W.heap.size) (W.alloc (.cells arr ty))) →
  (∀ i p W,K i p W→∀ b o,o<g.lim b→W.cell? ⟨b,o,none⟩=w.cell? ⟨b,o,none⟩) →
  (∀ i b W,K i (some b) W→∀ (j:Nat) u,prot[j]? = some u→W.cell? ⟨b,j,none⟩=some u) →
  (∀ i p W,i<n→K i p W→YieldAt Fence.wide (0 - 1) P l #[O4 i] W fun e W'=>(e=.returned (.bool true)∧K (i+1) p W')∨(e=.returned (.bool false)∧Kx W')) →
  ∀ W,K 0 none W→CallsIn Fence.wide 0 P gf #[.func (.yield l) #[] #[],x] W fun e W'=>(∃ v,e=.returned v)∧((∃ p,K n p W')∨Kx W')
theorem aT0 {P:Program} {env:Nat→Option (List V)} {gf:Nat} {cs:List V} {vs:List (List V)} (aI0:aa3 P gf)
  (dh5:∀ g w x,RV g w x (.el cs 0)→∃ (O4:Nat→Value) (prot:List Value),(∀ (i:Nat) v,vs[i]? = some v→∃ v0,v=[v0]∧RV g w (O4 i) v0)∧dc3 P gf g w x vs.length O4 prot) :
  Iter P env (.fn (.func gf) [] [.el cs 0]) vs:=by
 intro g w x hx;cases hx with
 | fn _ fs cs1 _ _ l1 l2 _ r2 =>
 have e1:fs=#[]:=by simpa using l1
 subst e1;obtain ⟨c1,rfl⟩:∃ c1,cs1=#[c1]:=by
  have h2':cs1.size=1:=l2;refine ⟨cs1[0],?_⟩;apply Array.ext
  ·simpa using h2'
  ·intro i hi hi2;simp at hi2;subst hi2;rfl
 obtain ⟨O4,prot,cu6,hgo⟩:=dh5 g w c1 (r2 0 c1 _ rfl rfl);refine ⟨gf,#[c1],rfl,aI0,fun C hC g1 W1 h1 x1 q1 hY N1=>?_⟩;have N3:=q1.C4;refine (hgo C.l
  (fun i p W=>∃ g' h',ap3 C g1 W1 h1 g' W h'∧Rel env g' W h'∧C.Y i g' W h'∧∀ b,p=some b→prot.length≤g'.lim b∧∀ (j:Nat) u,prot[j]? = some u→W.cell? ⟨b,j,none⟩=some u)
  (fun W=>∃ g' h',ap3 C g1 W1 h1 g' W h'∧Rel env g' W h'∧C.Z g' W h') ?_ ?_ ?_ ?_ ?_ ?_ W1 ?_).mono ?_
 ·rintro i p W o ⟨g',h',a,q,y,z⟩
  have t:I9 W.heap.size W (W.alloc o):=W8 (Nat.le_refl _);have hbd:=hC.Ybd _ _ _ _ y;refine ⟨g'.up W.heap.size,h',⟨t.bc7 N3 a.ext,a.same,fun b o' q1 q2 q3=>?_⟩,t.rel q,hC.Yt _ _ _ _ _ _ hbd t q.C4 y,fun b hb=>?_⟩
  ·have:=a.obj b o' q1 q2 q3
   exact (t.same b (Array.getElem?_eq_some_iff.1 this).1).trans this
  ·obtain ⟨z1,z2⟩:=z b hb
   refine ⟨z1,fun j u hu=>?_⟩;have hc:=z2 j u hu;exact (t.cell b j (World.block_lt_of_cell? _ _ hc)).trans hc
 ·rintro i p W ⟨g',h',a,q,y,z⟩
  have x:=Ext.drew g' W;exact ⟨g',h',⟨a.ext.trans x,a.same,a.obj⟩,q.drew,hC.Yext _ _ _ _ _ _ x y,z⟩
 ·rintro i W arr ty ⟨g',h',a,q,y,z⟩ aO1
  obtain ⟨g'',x,q',hl⟩:=aJ3 q arr ty;have hsz:prot.length≤arr.size:=by
   rcases Nat.eq_zero_or_pos prot.length with h0|h0
   ·omega
   ·have:=aO1 (prot.length - 1) _ (List.getElem?_eq_getElem om_)
    have:=(Array.getElem?_eq_some_iff.1 this).1;omega
  refine ⟨g'',h',⟨a.ext.trans x,a.same,fun b o q1 q2 q3=>?_⟩,q',hC.Yext _ _ _ _ _ _ x y,fun b hb=>?_⟩
  ·have:=a.obj b o q1 q2 q3
   exact (Go.RowKit.Below.heap_alloc W _ b (Array.getElem?_eq_some_iff.1 this).1).trans this
  ·cases hb
   refine ⟨by rw [hl];exact hsz,fun j u hu=>?_⟩;have e:=aO1 j u hu;simp [World.cell?_alloc_new,e]
 ·rintro i p W ⟨g',h',a,q,y,z⟩ b o ho
  have h1':o<g1.lim b:=Nat.lt_of_lt_of_le ho (x1.lim b);exact (a.ext.cells b o h1').trans (x1.cells b o ho)
 ·rintro i b W ⟨g',h',a,q,y,z⟩ j u hu
  exact (z b rfl).2 j u hu
 ·rintro i p W hi ⟨g',h',a,q,y,z⟩
  obtain ⟨v0,hv,hrv⟩:=cu6 i _ (List.getElem?_eq_getElem hi);have hr:=hC.round i [v0] [O4 i] g' W h' (by rw [List.getElem?_eq_getElem hi,hv]) y q rfl (fun j x v hx hv=>by
   match j with
   | 0=>simp at hx hv;subst hx;subst hv;exact ((hrv.mono x1).wrs _).mono a.ext
   | j+1=>simp at hx)
  obtain ⟨fn,tmps,assign,body,hy,hR⟩:=hr;refine ⟨fn,tmps,assign,body,hy,hR.mono ?_⟩;rintro e W' ⟨g'',h'',b,q',hh⟩;have hz:∀ b0,p=some b0→prot.length≤g''.lim b0∧∀ (j:Nat) u,prot[j]? = some u→W'.cell? ⟨b0,j,none⟩=some u:=fun b0 hb=>by
   obtain ⟨z1,z2⟩:=z b0 hb;refine ⟨Nat.le_trans z1 (b.ext.lim b0),fun j u hu=>?_⟩;have hj:j<prot.length:=(List.getElem?_eq_some_iff.1 hu).1;exact (b.ext.cells b0 j (Nat.lt_of_lt_of_le hj z1)).trans (z2 j u hu)
  rcases hh with ⟨he,hy'⟩|⟨he,hz'⟩
  ·exact .inl ⟨he,g'',h'',a.trans b,q',hy',hz⟩
  ·exact .inr ⟨he,g'',h'',a.trans b,q',hz'⟩
 ·exact ⟨g1,h1,⟨aj0 (Ext.refl _ _),fun _ _ _=>rfl,fun _ _ _ h _=>h⟩,q1,hY,fun b hb=>by cases hb⟩
 ·rintro e W' ⟨hv,⟨p,g',h',a,q,y,z⟩|⟨g',h',a,q,z⟩⟩
  ·exact ⟨hv,g',h',a,q,.inl y⟩
  ·exact ⟨hv,g',h',a,q,.inr z⟩
inductive T6:List Ty→List PVl→List Tm→Prop
 | nil:T6 [] [] []
 | snoc {g:List Ty} {l:List PVl} {ts:List Tm} {a:Ty} {v:PVl} {t:Tm}:T6 g l ts→V3 a v t→TyG a→m7 t≤4096→T6 (g++[a]) (l++[v]) (ts++[t])
theorem T6.len {g:List Ty} {l:List PVl} {ts:List Tm} (h:T6 g l ts):l.length=g.length∧ts.length=g.length:=by
 induction h with
 | nil=>exact ⟨rfl,rfl⟩
 | snoc _ _ _ _ ih=>simp [ih.1,ih.2]
theorem T6.at {g:List Ty} {l:List PVl} {ts:List Tm} (h:T6 g l ts):∀ i,i<g.length→∃ a v t,g[i]? = some a∧l[i]? = some v∧ts[i]? = some t∧V3 a v t∧TyG a∧m7 t≤4096:=by
 induction h with
 | nil=>intro i hi;simp at hi
 | @snoc g l ts a v t hs hv ha hz ih =>
  intro i hi;obtain ⟨l1,l2⟩:=hs.len;by_cases hlt:i<g.length
  ·obtain ⟨a',v',t',h1,h2,h3,h4⟩:=ih i hlt
   exact ⟨a',v',t',by rw [List.getElem?_append_left hlt];exact h1,by rw [List.getElem?_append_left om_];exact h2,by rw [List.getElem?_append_left om_];exact h3,h4⟩
  ·obtain rfl:i=g.length:=by simp at hi;omega
   exact ⟨a,v,t,sp_,by rw [← l1];simp,by rw [← l2];simp,hv,ha,hz⟩
def ad4 (lim:Nat) (f:Fm) (ts:List Tm):Ans:=if (S6 f ts.reverse).2 != 0 then (false,0,(S6 f ts.reverse).2) else dA lim (S6 f ts.reverse).1
theorem bu1 {ts:List Tm} {i:Nat} {t:Tm} (h:ts[i]? = some t):(ts.take (i+1)).reverse=t::(ts.take i).reverse:=by
 rw [List.take_add_one,h];simp
theorem bT3 {g:List Ty} {i:Nat} {t:Ty} (h:g[i]? = some t):g.take (i+1)=g.take i++[t]:=by
 rw [List.take_add_one,h];rfl
def P8 (t:Ty):Prop:=t=r5∨t=C8∨t=S5∨t=E9 r5 C8∨t=E9 r5 r5
theorem P8.mk {t:Ty} (h:P8 t):V9 1 t:=by
 rcases h with rfl|rfl|rfl|rfl|rfl
 ·exact .nat
 ·exact .list
 ·exact .unit
 ·exact .pair .nat .list
 ·exact .pair .nat .nat
theorem P8.G {t:Ty} (h:P8 t):TyG t:=h.mk.G om_
def lns (F:Ty→List PVl):List Ty→List (List PVl)
 | []=>[[]]
 | t::ts=>(F t).flatMap fun v=>(lns F ts).map (v::·)
def aq6 (bs:List PVl) (L:List (List PVl)):List (List V):=L.map fun l=>[V.sl .any ((bs++l).map PVl.cells)]
theorem bj2 (bs:List PVl) (L:List (List PVl)):(aq6 bs L).length=L.length:=by simp [aq6]
theorem bL7 (F:Ty→List PVl) (bs:List PVl) (t:Ty) (ts:List Ty):aq6 bs (lns F (t::ts))=(F t).flatMap fun v=>aq6 (bs++[v]) (lns F ts):=by
 simp only [aq6,lns,List.map_flatMap,List.map_map];congr 1
 funext v
 congr 1
 funext l
 simp
theorem bV9 (F:Ty→List PVl) (bs:List PVl):aq6 bs (lns F [])=[[V.sl .any (bs.map PVl.cells)]]:=by simp [aq6,lns]
theorem aO3 {b:Nat} (hb:b≤16) {t:Ty} (ht:PlT t):∀ v∈O4 b t,∃ s,V3 t v s∧m7 s≤50 * D7 t:=by
 induction ht with
 | nat =>
  intro v hv;have e:O4 b r5=ar1 b:=by rw [r5];rfl
  rw [e] at hv;obtain ⟨n,hn,rfl⟩:=List.mem_map.1 hv;have:=List.mem_range.1 hn;exact ⟨_,.num n,by rw [S4,L7];omega⟩
 | list =>
  intro v hv;have e:O4 b C8=af9 b:=by rw [C8];rfl
  rw [e] at hv;unfold af9 at hv;have key:∀ l:List Nat,lsz l≤50→∃ s,V3 C8 (ak7 l) s∧m7 s≤50 * D7 C8:=fun l hl=>⟨_,.list l,by rw [ac4,S2];omega⟩;rcases List.mem_append.1 hv with h|h
  ·rcases List.mem_cons.1 h with rfl|h
   ·exact key [] (by simp [lsz])
   ·obtain ⟨n,hn,rfl⟩:=List.mem_map.1 h
    have:=List.mem_range.1 hn;exact key [n] (by simp [lsz];omega)
  ·obtain ⟨n,hn,h⟩:=List.mem_flatMap.1 h
   obtain ⟨m,hm,rfl⟩:=List.mem_map.1 h;have:=List.mem_range.1 hn;have:=List.mem_range.1 hm;exact key [n,m] (by simp [lsz];omega)
 | unit =>
  intro v hv;have e:O4 b S5=[aQ5]:=by rw [S5];rfl
  rw [e] at hv;obtain rfl:=List.mem_singleton.1 hv;exact ⟨_,.unit,by rw [ap9,ag7];omega⟩
 | @pair a c _ _ h1 h2 =>
  intro v hv;have e:O4 b (E9 a c)=aF0 (O4 b a) (O4 b c):=by rw [E9,O4]
  rw [e] at hv;unfold aF0 at hv;obtain ⟨x,hx,h⟩:=List.mem_flatMap.1 hv;obtain ⟨y,hy,rfl⟩:=List.mem_map.1 h;obtain ⟨s,i1,z1⟩:=h1 x hx;obtain ⟨u,i2,z2⟩:=h2 y hy;exact ⟨_,.pair i1 i2,by rw [Q4,P0];omega⟩
def aS2 (H:List PVl→Nat→Ans):List (List PVl)→Nat→Option (List PVl) × Int
 | [],_=>(none,0)
 | l::L,w=>if (H l w).2.2 != 0 then (none,(H l w).2.2) else if (H l w).1 then aS2 H L (w - (H l w).2.1) else (some l,0)
structure co6 (H:List PVl→Nat→Ans) (l:List PVl):Prop where
 code:∀ w,w≤65536→(H l w).2.2=0∨(H l w).2.2=4∨(H l w).2.2=5
 up:∀ w b u w',(H l w)=(b,u,0)→w≤w'→u≤w∧H l w'=(b,u,0)
theorem cl5 {ts:List Ty}:∃ T:List PVl→List Tm,∀ l,(∃ tms,T6 ts l tms)→T6 ts l (T l):=by
 classical
 exact ⟨fun l=>if h:∃ tms,T6 ts l tms then Classical.choose h else [],fun l h=>by simp only [dif_pos h];exact Classical.choose_spec h⟩
theorem bA4 {g:List Ty} {l:List PVl} {ts:List Tm} (h:T6 g l ts):∀ {f:Fm},g.length≤16→Dc g f→z6 f≤4096→(S6 f ts.reverse).2=0→Dc [] (S6 f ts.reverse).1∧z6 (S6 f ts.reverse).1≤4096:=by
 induction h with
 | nil=>intro f _ h1 h2 _;exact ⟨h1,h2⟩
 | @snoc g l ts a v t _ j1 j2 j3 ih =>
  intro f hl h1 h2 h3;rw [List.length_append] at hl;rw [List.reverse_append] at h3 ⊢;simp only [List.reverse_cons,List.reverse_nil,List.nil_append,List.cons_append,S6] at h3 ⊢;split at h3
  ·rename_i hz
   simp only at h3;rw [h3] at hz;simp at hz
  ·rename_i hz
   rw [if_neg hz];obtain ⟨p1,p2⟩:=bo4 h1 j1 j2 j3 om_ h2 (by simpa using hz);exact ih om_ p1 p2 h3
theorem aV4:∀ (ts:List Tm) (f:Fm),(S6 f ts).2=0∨(S6 f ts).2=4
 | [],f=>.inl rfl
 | t::ts,f=>by
  rw [S6];split
  ·exact bf7 f t
  ·exact aV4 ts _
theorem cm6 {g:List Ty} {l:List PVl} {T:List PVl→List Tm} (h:T6 g l (T l)) {f:Fm} (hg:g.length≤16) (hf:Dc g f) (zf:z6 f≤4096):co6 (fun l w=>ad4 w f (T l)) l:=by
 refine ⟨fun w hw=>?_,fun w b u w' e hle=>?_⟩
 ·show (ad4 w f (T l)).2.2=0∨(ad4 w f (T l)).2.2=4∨(ad4 w f (T l)).2.2=5
  unfold ad4;split
  ·rename_i hz
   rcases aV4 (T l).reverse f with e|e
   ·rw [e] at hz;simp at hz
   ·exact .inr (.inl e)
  ·rename_i hz
   obtain ⟨p1,p2⟩:=bA4 h hg hf zf (by simpa using hz);exact cz3 p1 p2
 ·replace e:ad4 w f (T l)=(b,u,0):=e
  show u≤w∧ad4 w' f (T l)=(b,u,0);unfold ad4 at e ⊢;split at e
  ·rename_i hz
   simp only [Prod.mk.injEq] at e;rw [e.2.2] at hz;simp at hz
  ·rename_i hz
   rw [if_neg hz];obtain ⟨p1,p2⟩:=bA4 h hg hf zf (by simpa using hz);unfold dA at e ⊢;obtain ⟨q1,q2,q3⟩:=bM8 (lim:=w) (lim':=w') _ _ (Nat.le_refl _) p1 p2 _ (Nat.le_refl _) 0 b u 0 om_ e om_ om_;exact ⟨q2,by simpa using q3⟩
theorem bv9 {f:Fm}:∀ g:List Ty,(P7 g f).univ=(g++f.univ.1,f.univ.2)
 | []=>rfl
 | s::g=>by
  show (fmQ 4 s (P7 g f)).univ=_;rw [Fm.aW7 (f:=fmQ 4 s (P7 g f)) (a:=P7 g f) rfl rfl,bv9 g];rfl
theorem bp7 {f:Fm}:∀ (g' g:List Ty),(∀ t∈g',TyG t)→ak3 TyG (g++g') f→ak3 TyG g (P7 g' f)
 | [],g,_,h=>by rw [List.append_nil] at h;exact h
 | s::g',g,ht,h=>by
  show ak3 TyG g (fmQ 4 s (P7 g' f));exact .q sp_ (bp7 g' (g++[s]) (fun t q=>ht t (by simp [q])) (by simpa using h))
theorem P8.plT {t:Ty} (h:P8 t):PlT t:=by
 rcases h with rfl|rfl|rfl|rfl|rfl
 ·exact .nat
 ·exact .list
 ·exact .unit
 ·exact .pair .nat .list
 ·exact .pair .nat .nat
theorem P8.sz {t:Ty} (h:P8 t):D7 t≤3:=by
 rcases h with rfl|rfl|rfl|rfl|rfl
 ·rw [L7];omega
 ·rw [S2];omega
 ·rw [ag7];omega
 ·rw [P0,L7,S2];omega
 ·rw [P0,L7];omega
structure ck6 (g:List Ty) (f:Fm) (k:List Ty) (b:Fm):Prop where
 univ:(P7 g f).univ=(k,b)
 dc:Dc k b
 sz:z6 b≤300
 plain:∀ y∈k,P8 y
 len:k.length≤3
 ty:ak3 TyG [] (P7 g f)
 G5:FmG true (P7 g f)
 size:z6 (P7 g f)≤400
def tries (bd m:Nat) (k:List Ty):List (List PVl):=lns (fun t=>(O4 bd t).take m) k
def aL5 (b:Fm) (T:List PVl→List Tm) (l:List PVl) (w:Nat):Ans:=ad4 w b (T l)
theorem bf4 {b:Fm} {k:List Ty} {T:List PVl→List Tm} {l:List PVl} (h:T6 k l (T l)) (hk:k.length≤16) (db:Dc k b) (zb:z6 b≤4096):co6 (aL5 b T) l:=cm6 h hk db zb
mutual
def PVl.same:PVl→PVl→Bool
 | .mk k n l a,.mk k' n' l' a'=>k==k'&&n==n'&&l==l'&&PVl.w6 a a'
def PVl.w6:List PVl→List PVl→Bool
 | [],[]=>true
 | x::a,y::b=>PVl.same x y&&PVl.w6 a b
 | [],_::_=>false
 | _::_,[]=>false
end
theorem PVl.ac5 (x y:PVl):x.same y=(x.kind==y.kind&&x.num==y.num&&x.list==y.list&&PVl.w6 x.args y.args):=by
 obtain ⟨k,n,l,a⟩:=x;obtain ⟨k',n',l',a'⟩:=y;rw [PVl.same];rfl
theorem PVl.as5:∀ {a b:List PVl},PVl.w6 a b=true→a.length=b.length
 | [],[],_=>rfl
 | x::a,y::b,h=>by
  simp only [PVl.w6,Bool.and_eq_true] at h;simp [PVl.as5 h.2]
 | [],_::_,h=>by simp [PVl.w6] at h
 | _::_,[],h=>by simp [PVl.w6] at h
theorem PVl.bA0:∀ x y:PVl,x.same y=true↔x=y:=by
 intro x
 induction x using PVl.ind with|h x ih=>?_
 intro y;obtain ⟨k,n,l,a⟩:=x;obtain ⟨k',n',l',a'⟩:=y;simp only [PVl.args] at ih;have key:∀ (a a':List PVl),(∀ x∈a,∀ y,x.same y=true↔x=y)→(PVl.w6 a a'=true↔a=a'):=by
  intro a
  induction a with
  | nil=>intro a' _;cases a'<;>simp [PVl.w6]
  | cons x a iha =>
   intro a' h;cases a' with
   | nil=>simp [PVl.w6]
   | cons y a' =>
    simp only [PVl.w6,Bool.and_eq_true,List.cons.injEq];rw [h x sp_ y,iha a' (fun z hz=>h z (by simp [hz]))]
 rw [PVl.same];simp only [Bool.and_eq_true,beq_iff_eq,PVl.mk.injEq];rw [key a a' ih];constructor
 ·rintro ⟨⟨⟨h1,h2⟩,h3⟩,h4⟩;exact ⟨h1,h2,h3,h4⟩
 ·rintro ⟨h1,h2,h3,h4⟩;exact ⟨⟨⟨h1,h2⟩,h3⟩,h4⟩
theorem PVl.O6 (x:PVl):x.same x=true:=(PVl.bA0 x x).2 rfl
theorem PVl.bR2 {x y:PVl} (h:x≠y):x.same y=false:=by
 cases e:x.same y with
 | false=>rfl
 | true=>exact absurd ((PVl.bA0 x y).1 e) h
def as1 (H:PVl→Nat→Ans):List PVl→Nat→Option PVl × Int
 | [],_=>(none,0)
 | l::L,w=>if (H l w).2.2 != 0 then (none,(H l w).2.2) else if (H l w).1 then (some l,0) else as1 H L (w - (H l w).2.1)
structure aX9 (H:PVl→Nat→Ans) (l:PVl):Prop where
 code:∀ w,w≤65536→(H l w).2.2=0∨(H l w).2.2=4∨(H l w).2.2=5
 up:∀ w b u w',(H l w)=(b,u,0)→w≤w'→u≤w∧H l w'=(b,u,0)
theorem bg1 {H:PVl→Nat→Ans}:∀ (L:List PVl) (w:Nat),(∀ l∈L,aX9 H l)→w≤65536→(as1 H L w).2=0∨(as1 H L w).2=4∨(as1 H L w).2=5
 | [],w,_,_=>.inl rfl
 | l::L,w,h,hw=>by
  rw [as1];split
  ·exact (h l sp_).code w hw
  ·split
   ·exact .inl rfl
   ·exact bg1 L _ (fun x hx=>h x (by simp [hx])) om_
theorem bh3 {H:PVl→Nat→Ans} {x:PVl}:∀ (L:List PVl) (w:Nat),(∀ y∈L,aX9 H y)→w≤65536→(as1 H L w).1=some x→(as1 H L w).2=0∧∃ i:Nat,L[i]? = some x∧(∃ u,H x 65536=(true,u,0)) ∧
  ∀ (j:Nat) (y:PVl),j<i→L[j]? = some y→∃ u,H y 65536=(false,u,0)
 | [],w,_,_,h=>by simp [as1] at h
 | z :: L,w,hk,hw,h=>by
  rw [as1] at h ⊢;split at h
  ·simp at h
  ·rename_i h1
   rw [if_neg h1];obtain ⟨b,u,e,hz⟩:∃ b u e,H z w=(b,u,e):=⟨_,_,_,rfl⟩;rw [hz] at h h1 ⊢;simp only at h h1 ⊢;obtain rfl:e=0:=by simpa using h1
   have hup:=((hk z sp_).up w b u 65536 hz hw).2;split at h
   ·rename_i h2
    rw [if_pos h2];simp only [Option.some.injEq] at h;subst h;subst h2;exact ⟨rfl,0,rfl,⟨u,hup⟩,fun j y hj=>absurd hj om_⟩
   ·rename_i h2
    rw [if_neg h2];obtain ⟨p0,i,p1,p2,p3⟩:=bh3 L _ (fun y hy=>hk y (by simp [hy])) om_ h;refine ⟨p0,i+1,by simpa using p1,p2,fun j y hj hy=>?_⟩;cases j with
    | zero =>
     simp at hy;subst hy;have:b=false:=by cases b;rfl;exact absurd rfl h2
     subst this;exact ⟨u,hup⟩
    | succ j=>exact p3 j y om_ (by simpa using hy)
theorem bh5 {H:PVl→Nat→Ans}:∀ (L:List PVl) (w:Nat),(∀ y∈L,aX9 H y)→w≤65536→(as1 H L w).1=none→(as1 H L w).2=0→∀ y∈L,∃ u,H y 65536=(false,u,0)
 | [],w,_,_,_,_=>by simp
 | z::L,w,hk,hw,h,h0=>by
  rw [as1] at h h0;obtain ⟨b,u,e,hz⟩:∃ b u e,H z w=(b,u,e):=⟨_,_,_,rfl⟩;rw [hz] at h h0;simp only at h h0;split at h
  ·rename_i h1
   rw [if_pos h1] at h0;simp only at h0;subst h0;simp at h1
  ·rename_i h1
   rw [if_neg h1] at h0;obtain rfl:e=0:=by simpa using h1
   have hup:=((hk z sp_).up w b u 65536 hz hw).2;split at h
   ·simp at h
   ·rename_i h2
    rw [if_neg h2] at h0;have:b=false:=by cases b;rfl;exact absurd rfl h2
    subst this;intro y hy;rcases List.mem_cons.1 hy with rfl|hy
    ·exact ⟨u,hup⟩
    ·exact bh5 L _ (fun y hy=>hk y (by simp [hy])) om_ h h0 y hy
def aI9 (b:Fm) (T:List PVl→List Tm) (vs:List PVl) (y:PVl) (w:Nat):Ans:=aL5 b T (vs++[y]) w
theorem br5 {b:Fm} {k:List Ty} {T:List PVl→List Tm} {vs:List PVl} {y:PVl} (h:T6 k (vs++[y]) (T (vs++[y]))) (hk:k.length≤16) (db:Dc k b) (zb:z6 b≤4096):aX9 (aI9 b T vs) y:=by
 obtain ⟨c1,c2⟩:=bf4 h hk db zb;exact ⟨c1,c2⟩
structure be1 (g:List Ty) (s:Ty) (b:Fm):Prop where
 task:(P7 g (fmQ 5 s b)).task=((g,s),(b,true))
 univ:(P7 g (fmQ 5 s b)).univ=(g,fmQ 5 s b)
 dc:Dc (g++[s]) b
 sz:z6 b≤300
 plain:∀ y∈g,P8 y
 ex:P8 s
 len:g.length≤2
 ty:ak3 TyG [] (P7 g (fmQ 5 s b))
 G5:FmG true (P7 g (fmQ 5 s b))
 size:z6 (P7 g (fmQ 5 s b))≤400
 fl:b.fl.d=true
theorem cw6 {g:List Ty} {s:Ty} {b:Fm} (mf:ax0 1 (g++[s]) b) (hg:∀ y∈g,P8 y) (hs:P8 s) (hl:g.length≤2):be1 g s b:=by
 have hm:∀ y∈g++[s],V9 1 y:=fun y hy=>by
  rcases List.mem_append.1 hy with hy|hy
  ·exact (hg y hy).mk
  ·simp at hy;subst hy;exact hs.mk
 have hb:(g++[s]).length+1≤10000:=by simp;omega
 have db:=mf.dc hm hb;obtain ⟨_,zb,fl⟩:=mf.all hm hb;have hT:∀ y∈g,TyG y:=fun y hy=>(hg y hy).G;have zq:z6 (fmQ 5 s b)=z6 b+1:=by rw [ap8]
 have t1:ak3 TyG [] (P7 g (fmQ 5 s b)):=bp7 g [] hT (.q sp_ (by simpa using db.ty));have gq:FmG true (fmQ 5 s b):=.q sp_ hs.G db.G;have t2:FmG true (P7 g (fmQ 5 s b)):=cg6 hT gq;have t3:z6 (P7 g (fmQ 5 s b))≤400:=by rw [bS1,zq];omega
 have hu:(P7 g (fmQ 5 s b)).univ=(g,fmQ 5 s b):=bW9 rfl;refine ⟨?_,hu,db,om_,hg,hs,hl,t1,t2,t3,fl⟩;unfold Fm.task;rw [hu,t2.aj7 om_,if_neg sp_];have e:fa (fmQ 5 s b) 0=b:=bu0 rfl;simp only [e,fl]
 rfl
theorem bn7 (w:World) (a b:Array Value) (e:TypeId):(w.alloc (.cells a e)).setRow w.heap.size b=w.alloc (.cells b e):=by
 unfold World.setRow World.alloc;simp only;congr 1;apply Array.ext
 ·simp
 ·intro i h1 h2
  simp only [Array.size_modify,Array.size_push] at h1;rw [Array.getElem_modify];by_cases hi:w.heap.size=i
  ·subst hi;simp
  ·simp [hi,Array.getElem_push,show i<w.heap.size by omega]
theorem aS1 (w:World) {i j:Nat} (hij:i≠j) (a b:Array Value):(w.setRow i a).setRow j b=(w.setRow j b).setRow i a:=by
 unfold World.setRow;simp only;congr 1;apply Array.ext
 ·simp
 ·intro k h1 h2
  simp only [Array.getElem_modify];by_cases hi:i=k
  ·subst hi;simp [Ne.symm hij]
  ·by_cases hj:j=k
   ·subst hj;simp [hi]
   ·simp [hi,hj]
def G6 (vs:Array Value) (p:Nat) (xs:Array Value):Array Value:=(vs.toList.take p++xs.toList++vs.toList.drop (p+xs.size)).toArray
theorem at4 {vs xs:Array Value} {p:Nat} (h:p+xs.size≤vs.size):(G6 vs p xs).size=vs.size:=by
 unfold G6;simp;omega
theorem aG6 {vs xs:Array Value} {p q:Nat} (h:p+xs.size≤vs.size) (hq:q<p):(G6 vs p xs)[q]? = vs[q]? := by
 unfold G6;rw [List.append_assoc];simp only [List.getElem?_toArray];rw [List.getElem?_append_left (by simp;omega),List.getElem?_take,if_pos hq];simp
theorem aS5 {vs xs:Array Value} {p q:Nat} (h:p+xs.size≤vs.size) (hq:q<xs.size):(G6 vs p xs)[p+q]? = xs[q]? := by
 have el:(vs.toList.take p).length=p:=by simp;omega
 unfold G6;rw [List.append_assoc];simp only [List.getElem?_toArray];rw [List.getElem?_append_right om_,el,List.getElem?_append_left (by simp;omega)];rw [show p+q - p=q by omega];simp
theorem bx6 {vs xs ys:Array Value} {p:Nat} (h:p+xs.size≤vs.size) (hs:xs.size=ys.size):G6 (G6 vs p xs) p ys=G6 vs p ys:=by
 apply Array.ext';unfold G6;have el:(vs.toList.take p).length=p:=by simp;omega
 have ex:(xs.toList).length=ys.size:=by simpa using hs
 simp only [List.append_assoc];have e1:List.take p (vs.toList.take p++(xs.toList++vs.toList.drop (p+xs.size)))=vs.toList.take p:=by
  rw [List.take_append_of_le_length om_,List.take_take,Nat.min_self]
 have e2:List.drop (p+ys.size) (vs.toList.take p++(xs.toList++vs.toList.drop (p+xs.size)))=vs.toList.drop (p+ys.size):=by
  rw [List.drop_append,el,List.drop_of_length_le om_,List.nil_append,show p+ys.size - p=ys.size by omega,List.drop_append,List.drop_of_length_le om_,ex,Nat.sub_self,List.drop_zero,List.nil_append,hs]
 rw [e1,e2]
section
variable {P:Program} {env:Nat→Option (List V)} {g:G} {w:World} {h:H} {ρc:Operand→Value} (r:Rel env g w h)
include r
theorem cE9 {o:Oper} {x y:Operand} {t:TypeId} {i:TyI} (ho:o.op=.call { callee:=.builtin .append,args:=#[x,y],argTypes:=#[t,t] }) (hT:tyi P t=some i) (hk1:i.kind=4) (hk3:i.c9≠0) (hk4:i.B9.length=i.c9)
  {c:Cap} {es:List (List V)} (hx:RV g w (ρc x) (.sl c es)) (bp5:∀ e∈es,e.length=i.c9) {c0:Cap} {zs:List V} (hy:RV g w (ρc y) (.sl c0 [zs])) (hzs:zs.length=i.c9) (hz1:zs.all ab6=true)
  (hk8:(es.length+1) * i.A1≤140737488355328) (hk9:es.length+1≤140737488355328) {nid:Id} (hn:h nid=none) (hcc:c=.full∨∃ id,c=.own id∧h id=some (.tok es.length i.c9)) :
  ∃ id b off cap W1 vs1 ty,((c=.full∧id=nid)∨c=.own id)∧(execOp ρc o).run P w=.ok (.value (.slice (some ⟨b,off,none⟩) (es.length+1) cap)) W1∧W1.heap[b]? = some (.cells vs1 ty (0,0)) ∧
   off+es.length * i.c9+i.c9≤vs1.size∧(∀ j cs,h j=some (.box cs)→g.loc j≠b∧j≠id∧W1.heap[g.loc j]? = w.heap[g.loc j]?)∧w.heap.size≤W1.heap.size ∧
   ∀ (xs:Array Value) (e:List V),RVL g w xs e→e.length=i.c9→∃ g',Ext g w g' (W1.setRow b (G6 vs1 (off+es.length * i.c9) xs))∧Rel env g' (W1.setRow b (G6 vs1 (off+es.length * i.c9) xs)) (u9 h id (.tok (es.length+1) i.c9)) ∧
    RV g' (W1.setRow b (G6 vs1 (off+es.length * i.c9) xs)) (.slice (some ⟨b,off,none⟩) (es.length+1) cap) (.sl (.own id) (es++[e])):=by
 obtain ⟨inf,d,z,i1,i2,i0,is,ib,ia,iz,_,ik4,_,_,_,_,_,iez⟩:=P6 hT;obtain ⟨e,rfl,hes,heb,_⟩:=ik4 hk1;obtain ⟨ie,de,he1,he2,he3⟩:=S0 (P:=P) (t:=e) (by rw [← hes];exact hk3);have hez:=(iez e (.inl rfl)).2 ie he1;have hsz:ie.size=i.c9:=by rw [he3,hes]
 obtain ⟨ze,hze,cd9⟩:∃ ze,ie.zero=some ze∧ze.cells.size=i.c9:=by
  cases hz0:ie.zero with
  | none=>rw [hz0] at hez;rw [hez] at hk4;simp at hk4;exact absurd hk4.symm hk3
  | some ze=>rw [hz0] at hez;rw [hez] at hk4;exact ⟨ze,rfl,by simpa using hk4⟩
 have bC3:ie.bytes=i.A1:=by rw [heb];simp [bytesOf,he1]
 cases hcx:ρc x<;>rw [hcx] at hx<;>cases hx
 rename_i a cap k cs hke hrs bN4 bt4 bL8;cases hcy:ρc y<;>rw [hcy] at hy<;>cases hy
 rename_i a2 cap2 k2 cx hkx hrx bT1 cJ7 dl0;have aL7:es≠[]→∃ b off,a=some ⟨b,off,none⟩∧off+es.length * i.c9≤g.lim b∧∀ j,j<es.length * i.c9→w.cell? ⟨b,off+j,none⟩=some (cs j):=by
  intro hne;have:k=i.c9:=by
   cases es with
   | nil=>exact absurd rfl hne
   | cons e0 _=>rw [← hke e0 sp_,bp5 e0 sp_]
  rw [← this];exact bN4 hne
 have dj8:k2=i.c9:=by rw [← hkx zs sp_,hzs]
 subst dj8;simp only [List.length_cons,List.length_nil,Nat.zero_add,Nat.one_mul] at bT1 cJ7;have bE4:[zs]≠[]→∃ b off,a2=some ⟨b,off,none⟩∧off+[zs].length * i.c9≤g.lim b∧∀ j,j<[zs].length * i.c9→w.cell? ⟨b,off+j,none⟩=some (cx j):=by
  intro hne;obtain ⟨b,off,q1,q2,q3⟩:=bT1 hne;exact ⟨b,off,q1,by simpa using q2,by simpa using q3⟩
 have bo8:∀ v∈(((List.range i.c9).map cx).toArray).toList,v.oneCell'=true:=by
  intro v hv;simp only [List.mem_map,List.mem_range] at hv;obtain ⟨q,hq,rfl⟩:=hv;have hq':q<[zs].flatten.length:=by simp;omega
  rw [List.all_eq_true] at hz1;exact aw3 (hrx q _ (List.getElem?_eq_getElem hq')) (hz1 _ (by have:=List.getElem_mem hq';simp only [List.flatten_cons,List.flatten_nil,List.append_nil] at this;simp))
 have cQ4:=fun (w0:World) hw=>by
  have:=aC3 (P:=P) (cap:=cap) aL7 w0 hw;rw [← hsz] at this;exact this
 have bY0:=fun (w0:World) hw=>by
  have:=aC3 (P:=P) (cap:=cap2) bE4 w0 hw;rw [← hsz] at this;exact this
 simp only [List.length_cons,List.length_nil,Nat.zero_add,Nat.one_mul] at bY0;have hmul:(es.length+1) * i.c9=es.length * i.c9+i.c9:=by rw [Nat.add_mul,Nat.one_mul]
 have hfl:=Z7 es i.c9 bp5;have bv4:∀ id,(h id=none∨∃ n0 k0,h id=some (.tok n0 k0)∧n0<es.length+1)→cap<es.length+1→((c=.full∧id=nid)∨c=.own id)→∃ id b off cap W1 vs1 ty,((c=.full∧id=nid)∨c=.own id)∧(execOp ρc o).run P w=.ok (.value (.slice (some ⟨b,off,none⟩) (es.length+1) cap)) W1∧W1.heap[b]? = some (.cells vs1 ty (0,0)) ∧
   off+es.length * i.c9+i.c9≤vs1.size∧(∀ j cs,h j=some (.box cs)→g.loc j≠b∧j≠id∧W1.heap[g.loc j]? = w.heap[g.loc j]?)∧w.heap.size≤W1.heap.size ∧
   ∀ (xs:Array Value) (e:List V),RVL g w xs e→e.length=i.c9→∃ g',Ext g w g' (W1.setRow b (G6 vs1 (off+es.length * i.c9) xs))∧Rel env g' (W1.setRow b (G6 vs1 (off+es.length * i.c9) xs)) (u9 h id (.tok (es.length+1) i.c9)) ∧
    RV g' (W1.setRow b (G6 vs1 (off+es.length * i.c9) xs)) (.slice (some ⟨b,off,none⟩) (es.length+1) cap) (.sl (.own id) (es++[e])):=by
  intro id hid hlt hci;have hnc:=aX0 (es.length+1) cap hlt;have bV1:es.length+1≤es.length+1+w.tape w.drawn (.appendCap (es.length+1) cap e) % (9223372036854775808 - (es.length+1)):=Nat.le_add_right _ _;generalize hq:w.tape w.drawn (.appendCap (es.length+1) cap e) % (9223372036854775808 - (es.length+1))=q at bV1;obtain ⟨arr,cu2⟩:∃ arr:Array Value,arr=((List.range (es.length * ie.size)).map cs).toArray++((List.range ie.size).map cx).toArray++Builtin.zeroCells ze.cells q:=⟨_,rfl⟩;have aO1:arr.size=(es.length+1+q) * i.c9:=by
   rw [cu2];simp only [Array.size_append,bf8,cd9,hsz];simp;rw [Nat.add_mul,hmul]
  have aT7:0+es.length * i.c9+i.c9≤arr.size:=by rw [aO1,Nat.add_mul,hmul];omega
  have E0:(execOp ρc o).run P w=.ok (.value (.slice (some ⟨w.heap.size,0,none⟩) (es.length+1) (es.length+1+q))) (w.drew.alloc (.cells arr e)):=by
   have b1:¬ ((9223372036854775807:Int)<(es.length:Int)+1∧ie.bytes=0):=by omega
   have b2:¬ (281474976710656<Builtin.nextslicecap (es.length+1) cap * ie.bytes):=by
    rw [bC3];have:Builtin.nextslicecap (es.length+1) cap * i.A1≤2 * (es.length+1) * i.A1:=Nat.mul_le_mul_right _ hnc;rw [Nat.mul_assoc] at this;omega
   have b3:¬ (es.length+1≤cap):=by omega
   have f1:=cQ4 w.drew (fun _=>rfl);have f2:=bY0 w.drew (fun _=>rfl);simp [execOp,ho,resolve,invoke,builtin,Builtin.append_,run_underlying i2,E1 he1,hcx,hcy,Builtin.lenOf,typeInfo,he1,b3,Question.forced,Question.cut];rw [if_neg b1,if_neg b2,f1];simp only [Result.andThen_ok];rw [f2];have hq2:w.tape w.drawn (.appendCap (es.length+1) cap e) % (9223372036854775807 - es.length)=q:=by
    rw [← hq];congr 1;omega
   simp [zeroValue,typeInfo,he1,hze,newRow,hq2,cu2];congr 2;apply Array.ext';simp
  refine ⟨id,w.heap.size,0,es.length+1+q,_,arr,e,hci,E0,World.alloc_heap_new w.drew _,aT7,fun j cs hj=>?_,sp_,fun xs ee hxs hee=>?_⟩
  ·have:=r.lt hj
   refine ⟨om_,fun e=>?_,Go.RowKit.Below.heap_alloc w.drew _ _ this⟩;subst e;rcases hid with h1|⟨n0,k0,h1,_⟩<;>rw [h1] at hj<;>cases hj
  ·have hxl:xs.size=i.c9:=by rw [hxs.1,hee]
   have aP5:0+es.length * i.c9+xs.size≤arr.size:=by rw [hxl];exact aT7
   have db7:(G6 arr (0+es.length * i.c9) xs).size=(es.length+1+q) * i.c9:=by rw [at4 aP5,aO1]
   obtain ⟨g',hx',hr',hd',hb',hl'⟩:=grow r hid e db7 bV1;have hw:(w.drew.alloc (.cells arr e)).setRow w.heap.size (G6 arr (0+es.length * i.c9) xs)=w.drew.alloc (.cells (G6 arr (0+es.length * i.c9) xs) e):=bn7 w.drew arr _ e;rw [hw];refine ⟨g',hx',hr',?_⟩;have hh:=aD0 (g':=g') (w':=w.drew.alloc (.cells (G6 arr (0+es.length * i.c9) xs) e)) (es:=es) (xs:=[ee]) (k:=i.c9) (cap:=es.length+1+q) (b:=w.heap.size) (off:=0) (cs:=cs) (cx:=fun j=>(xs[j]?).getD undef) (id:=id)
    bp5 (by simpa using hee) sp_ (by rw [hl'];simp) ?_ ?_ (fun i v hv=>(hrs i v hv).mono hx') ?_ hd' hb'
   ·simpa using hh
   ·intro q hq
    show (w.drew.alloc _).cell? ⟨w.drew.heap.size,0+_,none⟩=_;rw [World.cell?_alloc_new,aG6 aP5 om_,cu2];simp only [hsz,Nat.zero_add];rw [Array.getElem?_append_left (by simp;omega),Array.getElem?_append_left (by simp;omega)];simp [hq]
   ·intro q hq
    simp only [List.length_cons,List.length_nil,Nat.zero_add,Nat.one_mul] at hq;show (w.drew.alloc _).cell? ⟨w.drew.heap.size,0+_,none⟩=_;rw [World.cell?_alloc_new,← Nat.add_assoc,aS5 aP5 om_];have:q<xs.size:=by omega
    simp [this]
   ·intro j v hv
    simp only [List.flatten_cons,List.flatten_nil,List.append_nil] at hv;obtain ⟨c1,hc1,hc2⟩:=hxs.at hv;simp only [hc1,Option.getD_some];exact hc2.mono hx'
 rcases hcc with rfl|⟨id,rfl,hid⟩
 ·have hc':cap=es.length:=bL8
  exact bv4 nid (.inl hn) om_ (.inl ⟨rfl,rfl⟩)
 ·obtain ⟨t1,t2',t3,t4⟩:=r.tok id _ _ hid
  obtain ⟨c1,c2',c3⟩:=bL8;have R3:=c3 t1.symm;rw [R3] at t4;simp only at t4;by_cases hle:es.length+1≤cap
  ·have cZ2:(g.buf id).cap=cap:=by rw [R3]
   obtain ⟨b,off,vs,s1,s2,s3,s4,s5⟩:=t3 om_;rw [R3] at s1 s3 s4;simp only at s1 s3 s4;subst s1;subst t4;obtain ⟨ty,s2'⟩:=s2;have aT7:off+es.length * i.c9+i.c9≤vs.size:=by
    have:(es.length+1) * i.c9≤cap * i.c9:=Nat.mul_le_mul_right _ hle;rw [hmul] at this;omega
   have hst:=run_storeCells_at (P:=P) b (off+es.length * i.c9) ty ((List.range i.c9).map cx) 0 vs w s2' (by simp;omega) (by simpa using bo8);simp only [Nat.add_zero,List.length_map,List.length_range] at hst;have ax4:(vs.toList.take (off+es.length * i.c9)++(List.range i.c9).map cx++vs.toList.drop (off+es.length * i.c9+i.c9)).toArray=G6 vs (off+es.length * i.c9) ((List.range i.c9).map cx).toArray:=by
    unfold G6;simp
   rw [ax4] at hst;have hzl:((List.range i.c9).map cx).toArray.size=i.c9:=by simp
   have hfz:off+es.length * i.c9+((List.range i.c9).map cx).toArray.size≤vs.size:=by rw [hzl];exact aT7
   have E0:(execOp ρc o).run P w=.ok (.value (.slice (some ⟨b,off,none⟩) (es.length+1) cap)) (w.setRow b (G6 vs (off+es.length * i.c9) ((List.range i.c9).map cx).toArray)):=by
    have f2:=bY0 w (fun _=>rfl);simp [execOp,ho,resolve,invoke,builtin,Builtin.append_,run_underlying i2,E1 he1,hcx,hcy,Builtin.lenOf,hle];rw [f2];simp [ag1,hsz];rw [hst];simp
   have hne:∀ j cs,h j=some (.box cs)→g.loc j≠b:=fun j cs hj e2=>r.apart id j _ _ cs hid om_ hj ⟨b,off,none⟩ (by rw [R3]) e2.symm;refine ⟨id,b,off,cap,_,_,ty,.inr rfl,E0,setRow_heap w b vs _ ty (0,0) s2',by rw [at4 hfz];exact aT7,fun j cs hj=>⟨hne j cs hj,?_,setRow_other w _ _ _ (hne j cs hj)⟩,sp_,fun xs ee hxs hee=>?_⟩
   ·rintro rfl
    rw [hid] at hj;cases hj
   ·have hxl:xs.size=i.c9:=by rw [hxs.1,hee]
    have aP5:off+es.length * i.c9+xs.size≤vs.size:=by rw [hxl];exact aT7
    rw [setRow_setRow,bx6 hfz (by rw [hzl,hxl])];obtain ⟨g',hx',hr',hd',hb',hl'⟩:=advance r hid (m:=1) om_ R3 hle ⟨ty,s2'⟩ s3 s4 s5 (at4 aP5) (fun q hq=>aG6 aP5 hq);refine ⟨g',hx',hr',?_⟩;have hh:=aD0 (g':=g') (w':=w.setRow b (G6 vs (off+es.length * i.c9) xs)) (es:=es) (xs:=[ee]) (k:=i.c9) (cap:=cap) (b:=b) (off:=off) (cs:=cs) (cx:=fun j=>(xs[j]?).getD undef) (id:=id)
     bp5 (by simpa using hee) (by simpa using hle) (by rw [hl'];simp) ?_ ?_ (fun i v hv=>(hrs i v hv).mono hx') ?_ hd' hb'
    ·simpa using hh
    ·intro q hq
     rw [cell_setRow_same w b _ vs _ ty (0,0) s2',aG6 aP5 om_];have hne:es≠[]:=by intro e;subst e;simp at hq
     obtain ⟨b2,off2,e1,_,e3⟩:=aL7 hne;cases e1;have:=e3 q hq;simpa [World.cell?,s2'] using this
    ·intro q hq
     simp only [List.length_cons,List.length_nil,Nat.zero_add,Nat.one_mul] at hq;rw [cell_setRow_same w b _ vs _ ty (0,0) s2',← Nat.add_assoc,aS5 aP5 om_];have:q<xs.size:=by omega
     simp [this]
    ·intro j v hv
     simp only [List.flatten_cons,List.flatten_nil,List.append_nil] at hv;obtain ⟨c1,hc1,hc2⟩:=hxs.at hv;simp only [hc1,Option.getD_some];exact hc2.mono hx'
  ·exact bv4 id (.inr ⟨_,_,hid,om_⟩) om_ (.inr rfl)
end
theorem aM7 {P:Program} {env:Nat→Option (List V)} {ops:Array Oper} {draw:Bool} {gen reg:Nat} {K:St→Prop} :
  ∀ (rest:List Oper) (i:Nat) (log:List ad3) (σ:St) (done:List (Nat × Option Eff)),(∀ j o,rest[j]? = some o→ops[i+j]? = some o) →
   (∀ x∈done,∀ e,x.2=some e→e.reads=[]∨(x.1,e.reads,e.writes.map (·.1))∈log)→(∀ x∈done,∀ e,x.2=some e→∀ p∈e.writes,p.1∈e.reads) →
   N8 P env ops draw gen reg rest i log K σ →
   ∃ l σe,l.map (·.1)=(List.range rest.length).map (i+·)∧af8 P env ops gen reg l σ σe∧K σe ∧
    (draw=true→l.Pairwise (af0 ops)∧∀ x∈done,∀ y∈l,af0 ops x y)
 | [],i,log,σ,done,_,_,_,h=>⟨[],σ,rfl,.nil σ,h,fun _=>⟨.nil,sp_⟩⟩
 | o :: rest,i,log,σ,done,hr,hl,hw,h=>by
  have ho:ops[i]? = some o:=by have:=hr 0 o;simpa using this
  have hr':∀ j p,rest[j]? = some p→ops[i+1+j]? = some p:=fun j p hp=>by
   have:=hr (j+1) p (by simpa using hp);rw [show i+(j+1)=i+1+j by omega] at this;exact this
  have bu4:i::(List.range rest.length).map (i+1+·)=(List.range (o::rest).length).map (i+·):=by
   rw [List.length_cons,List.range_succ_eq_map,List.map_cons,List.map_map];simp only [Nat.add_zero];congr 1;apply List.map_congr_left;intro j _;simp;omega
  rcases aZ7 h with ⟨hg,h'⟩|⟨hg,e,hs,cz8,h'⟩
  ·obtain ⟨l,σe,h1,h2,h3,h4⟩:=aM7 rest (i+1) log _ ((i,none)::done) hr'
    (fun x hx e he=>by
     rcases List.mem_cons.1 hx with rfl|hx
     ·simp at he
     ·exact hl x hx e he)
    (fun x hx e he=>by
     rcases List.mem_cons.1 hx with rfl|hx
     ·simp at he
     ·exact hw x hx e he) h'
   refine ⟨(i,none)::l,σe,by rw [List.map_cons,h1];exact bu4,.cons _ _ _ _ _ ⟨o,ho,hg,rfl⟩ h2,h3,fun hd=>?_⟩;obtain ⟨h5,h6⟩:=h4 hd;refine ⟨List.pairwise_cons.2 ⟨fun y hy=>h6 _ sp_ y hy,h5⟩,fun x hx y hy=>?_⟩;rcases List.mem_cons.1 hy with rfl|hy
   ·right
    unfold aG5;cases x.2<;>trivial
   ·exact h6 x (by simp [hx]) y hy
  ·have hws:=au6 hs
   obtain ⟨l,σe,h1,h2,h3,h4⟩:=aM7 rest (i+1) (V5 i e log) _ ((i,some e)::done) hr'
    (fun x hx e' he=>by
     unfold V5;rcases List.mem_cons.1 hx with rfl|hx
     ·cases he
      cases hre:e.reads with
      | nil=>exact .inl rfl
      | cons r rs=>right;simp
     ·rcases hl x hx e' he with h|h
      ·exact .inl h
      ·right
       split
       ·exact h
       ·simp [h])
    (fun x hx e' he=>by
     rcases List.mem_cons.1 hx with rfl|hx
     ·cases he;exact hws
     ·exact hw x hx e' he) h'
   refine ⟨(i,some e)::l,σe,by rw [List.map_cons,h1];exact bu4,.cons _ _ _ _ _ ⟨o,ho,hg,hs,rfl⟩ h2,h3,fun hd=>?_⟩;obtain ⟨h5,h6⟩:=h4 hd;refine ⟨List.pairwise_cons.2 ⟨fun y hy=>h6 _ sp_ y hy,h5⟩,fun x hx y hy=>?_⟩;rcases List.mem_cons.1 hy with rfl|hy
   ·unfold af0 aG5
    cases hx2:x.2 with
    | none=>right;trivial
    | some ex =>
     simp only;rcases hl x hx ex hx2 with he|hm
     ·right
      have hwx:=hw x hx ex hx2;refine ⟨fun p hp=>?_,fun p hp=>?_⟩
      ·have:=hwx p hp;rw [he] at this;simp at this
      ·rw [he];simp
     ·rcases aG2 (cz8 hd) _ _ _ hm with h|⟨ha,hb⟩
      ·exact .inl h
      ·right
       exact ⟨fun p hp=>hb p.1 (List.mem_map.2 ⟨p,hp,rfl⟩),ha⟩
   ·exact h6 x (by simp [hx]) y hy
def bl2 (ops:Array Oper) (t0:Nat):Bool:=(List.range ops.size).all fun i=>decide (i<t0)||(List.range t0).all fun j=>(ops[i]?).elim true fun o=>o.after.any fun e=>Region.binds .any e&&e.on==j
theorem bA5 {ops:Array Oper} {t0:Nat} (h:bl2 ops t0=true) {i:Nat} {o:Oper} (hi:t0≤i) (ho:ops[i]? = some o) {j:Nat} (hj:j<t0):∃ e∈o.after,Region.binds .any e=true∧e.on=j:=by
 unfold bl2 at h;rw [List.all_eq_true] at h;have h1:=h i (List.mem_range.2 (Array.getElem?_eq_some_iff.1 ho).1);rw [Bool.or_eq_true] at h1;rcases h1 with h1|h1
 ·simp at h1;omega
 ·rw [List.all_eq_true] at h1
  have h2:=h1 j (List.mem_range.2 hj);rw [ho] at h2;simp only [Option.elim_some,Array.any_eq_true,Bool.and_eq_true,beq_iff_eq] at h2;obtain ⟨k,hk,h3,h4⟩:=h2;exact ⟨_,Array.getElem_mem hk,h3,h4⟩
def aF8 (n t0:Nat):Array Bool:=((List.range n).map fun i=>decide (i<t0)).toArray
theorem bg6 {listed:Array Bool} {n t0:Nat} (hs:listed.size=n) (h:∀ i,i<n→(listed.getD i true=false↔t0≤i)):listed=aF8 n t0:=by
 apply Array.ext
 ·simp [aF8,hs]
 ·intro i h1 h2
  have:=h i om_;simp [h1] at this;simp only [aF8,List.getElem_toArray,List.getElem_map,List.getElem_range];by_cases hi:t0≤i
  ·have e:=this.2 hi
   rw [e];simp;omega
  ·cases e:listed[i] with
   | false=>exact absurd (this.1 e) hi
   | true=>simp;omega
section
variable {F:Fence} (hF:∀ f,F.fn f) (hdp:F.depth=none) {m:Nat} {ds:List Deferred}
variable {P:Program} (hcl:∀ k args w R,Calls P k args w R→CallsIn F (m - 1) P k args w R)
variable {env:Nat→Option (List V)} {ops:Array Oper} {gen reg n:Nat} (hn:aw9 n ops=true) (hok:au3 ops=true)
include hF hdp hcl hn hok
theorem bx2 {t0:Nat} (ht:bl2 ops t0=true) (hle:t0≤ops.size) {Q:Exit→Act→World→Prop} {σe:St} {g0:G} {w0:World}
  (hk:∀ fuel g' a' w',ops.size - t0≤fuel→Ext g0 w0 g' w'→P4 ds env n g' w' a' σe→wpAnyIn F m P .any ops Q fuel (aF8 ops.size t0) a' w') :
  ∀ (fuel:Nat) (l:List (Nat × Option Eff)) (listed:Array Bool) (σ:St) (g:G) (w:World) (a:Act),l.length+(ops.size - t0)≤fuel→listed.size=ops.size →
   (∀ i,(∃ x∈l,x.1=i)↔(i<t0∧listed.getD i true=false))→(∀ i,t0≤i→i<ops.size→listed.getD i true=false)→l.Pairwise (fun x y=>x.1<y.1)→l.Pairwise (af0 ops) →
   (∀ j o,ops[j]? = some o→listed.getD j false=true→∀ e∈o.after,Region.binds .any e=true→listed.getD e.on false=true) →
   af8 P env ops gen reg l σ σe→Ext g0 w0 g w→P4 ds env n g w a σ→wpAnyIn F m P .any ops Q fuel listed a w:=by
 obtain ⟨dh9,hsp⟩:=aA2 hok;intro fuel
 induction fuel with
 | zero =>
  intro l listed σ g w a hl hsz hm htl hp hpo hc hch hx r;have:l=[]:=List.eq_nil_of_length_eq_zero om_;subst this;cases hch;have e:listed=aF8 ops.size t0:=bg6 hsz fun i hi=>⟨fun h=>Nat.le_of_not_lt fun hlt=>by
   obtain ⟨x,hx,_⟩:=(hm i).2 ⟨hlt,h⟩;simp at hx,fun h=>htl i h hi⟩
  rw [e];exact hk 0 g a w om_ hx r
 | succ fuel ih =>
  intro l listed σ g w a hl hsz hm htl hp hpo hc hch hx r;cases l with
  | nil =>
   cases hch;have e:listed=aF8 ops.size t0:=bg6 hsz fun i hi=>⟨fun h=>Nat.le_of_not_lt fun hlt=>by
    obtain ⟨x,hx,_⟩:=(hm i).2 ⟨hlt,h⟩;simp at hx,fun h=>htl i h hi⟩
   rw [e];exact hk (fuel+1) g a w (by simpa using hl) hx r
  | cons x0 l0 =>
  have hx0:=(hm x0.1).1 ⟨x0,sp_,rfl⟩;have cq8:x0.1<ops.size:=by omega
  have hrd:x0.1∈Region.ready .any ops listed:=by
   rw [mem_ready];refine ⟨hx0.2,ops[x0.1]'cq8,Array.getElem?_eq_getElem cq8,fun e he hb=>?_⟩;have hlt:=(hsp x0.1 _ (Array.getElem?_eq_getElem cq8)).1 e he hb;cases hq:listed.getD e.on false with
   | true=>rfl
   | false =>
    have aE5:e.on<listed.size:=by omega
    have:listed.getD e.on true=false:=by
     simp [aE5] at hq ⊢;exact hq
    obtain ⟨y,hy,e1⟩:=(hm e.on).2 ⟨om_,this⟩;rcases List.mem_cons.1 hy with rfl|hy
    ·omega
    ·have:=(List.pairwise_cons.1 hp).1 y hy;omega
  refine ⟨fun hr=>by rw [hr] at hrd;simp at hrd,fun i hi=>?_⟩
  ·have hi':=mem_ready.1 hi
   obtain ⟨h1,o,ho,hd⟩:=hi';have bM1:i<ops.size:=(Array.getElem?_eq_some_iff.1 ho).1;have hit:i<t0:=by
    refine Nat.lt_of_not_le fun hge=>?_;obtain ⟨e,he,hb,hon⟩:=bA5 ht hge ho hx0.1;have h2:=hd e he hb;rw [hon] at h2;have h3:=hx0.2;have aE5:x0.1<listed.size:=by omega
    simp [aE5] at h2 h3;rw [h2] at h3;exact Bool.noConfusion h3
   obtain ⟨x,hxl,rfl⟩:=(hm i).2 ⟨hit,h1⟩;obtain ⟨pre,post,hpp⟩:=List.append_of_mem hxl;rw [hpp] at hl hm hp hpo hch;have bz5:=pull (P:=P) (env:=env) (gen:=gen) (reg:=reg) ho pre post σ σe (fun y hy=>by
    have hy':=(hm y.1).1 ⟨y,by simp [hy],rfl⟩;have cu3:y.1<ops.size:=by omega
    have hlt:y.1<x.1:=(List.pairwise_append.1 hp).2.2 y hy x sp_;have hpk:af0 ops y x:=(List.pairwise_append.1 hpo).2.2 y hy x sp_;have aQ7:bl1 ops y.1 x.1≠true:=by
     intro hb;have:=aG0 dh9 hc x.1 o ho hd y.1 cu3 hb;have h2:=hy'.2;have aE5:y.1<listed.size:=by rw [hsz];exact cu3
     simp [aE5] at this h2;rw [this] at h2;exact Bool.noConfusion h2
    refine ⟨ops[y.1]'cu3,Array.getElem?_eq_getElem cu3,?_,?_⟩
    ·exact ((hsp x.1 o ho).2 y.1 _ hlt (Array.getElem?_eq_getElem cu3)).resolve_left aQ7
    ·exact hpk.resolve_left aQ7) hch
   cases bz5 with
   | cons _ _ _ σ1 _ hs t =>
    refine au9 hF hdp hcl hn hs r fun g' a' w' hx' r'=>?_;have aJ4:(pre++post).Sublist (pre++x::post):=List.Sublist.append_left (List.sublist_cons_self x post) pre;refine ih (pre++post) (listed.setIfInBounds x.1 true) σ1 g' w' a' (by simp at hl ⊢;omega) (by simpa using hsz) ?_ ?_ (hp.sublist aJ4) (hpo.sublist aJ4) ?_ t (hx.trans hx') r'
    ·intro i
     constructor
     ·rintro ⟨y,hy,rfl⟩
      have hy2:=(hm y.1).1 ⟨y,aJ4.subset hy,rfl⟩;have hne:x.1≠y.1:=by
       rcases List.mem_append.1 hy with hy|hy
       ·have:=(List.pairwise_append.1 hp).2.2 y hy x sp_;omega
       ·have:=(List.pairwise_cons.1 (List.pairwise_append.1 hp).2.1).1 y hy;omega
      exact ⟨hy2.1,by rw [getD_set_ne true hne];exact hy2.2⟩
     ·rintro ⟨hi1,hi2⟩
      have hne:x.1≠i:=by
       intro e;subst e;have:x.1<listed.size:=by rw [hsz];exact bM1
       simp [this] at hi2
      rw [getD_set_ne true hne] at hi2;obtain ⟨y,hy,rfl⟩:=(hm i).2 ⟨hi1,hi2⟩;rcases List.mem_append.1 hy with hy|hy
      ·exact ⟨y,by simp [hy],rfl⟩
      ·rcases List.mem_cons.1 hy with rfl|hy
       ·exact absurd rfl hne
       ·exact ⟨y,by simp [hy],rfl⟩
    ·intro i hi1 hi2
     rw [getD_set_ne true om_];exact htl i hi1 hi2
    ·intro j o' ho' hj e he hb
     by_cases hjx:x.1=j
     ·subst hjx
      rw [ho] at ho';cases ho';exact getD_set_true (hd e he hb)
     ·rw [getD_set_ne false hjx] at hj
      exact getD_set_true (hc j o' ho' hj e he hb)
end
section
variable {F:Fence} (hF:∀ f,F.fn f) {m:Nat} {P:Program} {ops:Array Oper}
include hF
theorem bD0 {o:Oper} {a:Act} {w:World} {K:Act→World→Prop} {Q:Exit→Act→World→Prop} {v:Value} {w':World} (hnd:∀ c,o.op≠.defer c)
  (E0:(execOp a.eval o).run P w=.ok (.value v) w'∨((execOp a.eval o).run P w=.ok .skip w'∧v=undef)) (h:K (a.put o.dst v) w'):o.wpIn F m P a w K Q:=by
 refine ⟨fun f _=>hF f,?_⟩;rw [Oper.semAt_plain F _ _ hnd];rcases E0 with hr|⟨hr,rfl⟩
 ·rw [hr];exact h
 ·rw [hr];exact h
theorem al3 {i:Nat} {o:Oper} {a:Act} {w:World} {Q:Exit→Act→World→Prop} {fuel:Nat} {listed:Array Bool} {v:Value} {w':World} (hr:i∈Region.ready .any ops listed) (ho:ops[i]? = some o) (hg:o.guard=none) (hnd:∀ c,o.op≠.defer c)
  (E0:(execOp a.eval o).run P w=.ok (.value v) w'∨((execOp a.eval o).run P w=.ok .skip w'∧v=undef)) (h:wpAnyIn F m P .any ops Q fuel (listed.setIfInBounds i true) (a.put o.dst v) w') :
  wpOpIn F m P ops Q i (wpAnyIn F m P .any ops Q fuel (listed.setIfInBounds i true)) a w:=by
 unfold wpOpIn;rw [ho];have hw:Region.wanted o (yielded ops a.tmps)=true:=by unfold Region.wanted;rw [hg]
 simp only [hw,if_true];exact bD0 hF hnd E0 h
end
theorem aa6 {a:Act} {d t:Nat} {v:Value} (h:t≠d):(a.put (some d) v).eval (.tmp t)=a.eval (.tmp t):=by
 show (a.tmps.setIfInBounds d v).getD t undef=a.tmps.getD t undef;simp [Array.getD_eq_getD_getElem?,Array.getElem?_setIfInBounds,Ne.symm h]
theorem aS6 {a:Act} {d:Nat} {v:Value} (h:d<a.tmps.size):(a.put (some d) v).eval (.tmp d)=v:=by
 show (a.tmps.setIfInBounds d v).getD d undef=v;simp [Array.getD_eq_getD_getElem?,Array.getElem?_setIfInBounds,h]
theorem bp2 {P:Program} {o:Oper} {t:TypeId} {x ix:Operand} {ρc:Operand→Value} {w:World} (ho:o.op=.indexAddr t x ix) {i:TyI} (hT:tyi P t=some i) (h4:i.kind=4) (hK:i.c9≠0)
  {b off len cap n:Nat} (hx:ρc x=.slice (some ⟨b,off,none⟩) len cap) {k:IntKind} (hi:ρc ix=.int k n) (hlt:n<len) :
  (execOp ρc o).run P w=.ok (.value (.pointer (some ⟨b,off+n * i.c9,none⟩))) w:=by
 obtain ⟨inf,d,z,h1,h2,h0,_,_,_,hz,_,hk4,hk5,_⟩:=P6 hT;obtain ⟨e,rfl,hes,_,_⟩:=hk4 h4;obtain ⟨ie,de,he1,he2,he3⟩:=S0 (P:=P) (t:=e) (by rw [← hes];exact hK);simp [execOp,ho,Instr.indexAt,hi,hx,asIntOf,run_underlying h2,E1 he1,ag1,hes,he3];intro hge;omega
theorem aK9 {P:Program} {o:Oper} {t:TypeId} {x y:Operand} {ρc:Operand→Value} {w:World} (ho:o.op=.store t x y) {i:TyI} (hT:tyi P t=some i) {b p:Nat} (hx:ρc x=.pointer (some ⟨b,p,none⟩))
  {vs:Array Value} {ty:TypeId} (hb:w.heap[b]? = some (.cells vs ty (0,0))) (hsz:(ρc y).cells.size=i.size) (aT7:p+i.size≤vs.size) (bo8:∀ v∈(ρc y).cells.toList,v.oneCell'=true) :
  (execOp ρc o).run P w=.ok .skip (w.setRow b (G6 vs p (ρc y).cells)):=by
 obtain ⟨inf,d,z,h1,h2,h0,hs,_,ha,_⟩:=P6 hT;have hst:=run_storeCells_at (P:=P) b p ty (ρc y).cells.toList 0 vs w hb (by simp;omega) bo8;simp only [Nat.add_zero] at hst;have e1:(ρc y).cells.size=inf.size:=by rw [hsz,hs]
 have e2:(vs.toList.take p++(ρc y).cells.toList++vs.toList.drop (p+(ρc y).cells.toList.length)).toArray=G6 vs p (ρc y).cells:=by unfold G6;simp
 rw [e2] at hst;simp [execOp,ho,Instr.storeAt,Instr.sureAddr,hx,storeVar,E1 h1,e1];rw [hst];simp
structure be9 (ops:Array Oper) (L:Array Bool):Prop where
 q0:Region.ready .any ops L=[5]
 q1:Region.ready .any ops (L.setIfInBounds 5 true)=[6,8]
 q2:Region.ready .any ops ((L.setIfInBounds 5 true).setIfInBounds 6 true)=[7,8]
 q3:Region.ready .any ops ((L.setIfInBounds 5 true).setIfInBounds 8 true)=[6]
 q4:Region.ready .any ops (((L.setIfInBounds 5 true).setIfInBounds 6 true).setIfInBounds 7 true)=[8]
 q5:Region.ready .any ops (((L.setIfInBounds 5 true).setIfInBounds 6 true).setIfInBounds 8 true)=[7]
 q6:Region.ready .any ops (((L.setIfInBounds 5 true).setIfInBounds 8 true).setIfInBounds 6 true)=[7]
 q7:Region.ready .any ops ((((L.setIfInBounds 5 true).setIfInBounds 6 true).setIfInBounds 7 true).setIfInBounds 8 true)=[]
 q8:Region.ready .any ops ((((L.setIfInBounds 5 true).setIfInBounds 6 true).setIfInBounds 8 true).setIfInBounds 7 true)=[]
 q9:Region.ready .any ops ((((L.setIfInBounds 5 true).setIfInBounds 8 true).setIfInBounds 6 true).setIfInBounds 7 true)=[]
structure bU2 (P:Program) (ops:Array Oper) (n:Nat) (t te:TypeId) (T Te:TyI) (ts ty tn tv tb d5 d6:Nat):Prop where
 o5:∃ o,ops[5]? = some o∧o.guard=none∧o.dst=some d5∧o.op=.call { callee:=.builtin .append,args:=#[.tmp ts,.tmp ty],argTypes:=#[t,t] }
 o6:∃ o,ops[6]? = some o∧o.guard=none∧o.dst=some d6∧o.op=.indexAddr t (.tmp d5) (.tmp tn)
 o7:∃ o,ops[7]? = some o∧o.guard=none∧o.dst=none∧o.op=.store te (.tmp d6) (.tmp tv)
 o8:∃ o,ops[8]? = some o∧o.guard=none∧o.dst=none∧o.op=.store t (.tmp tb) (.tmp d5)
 hT:tyi P t=some T
 hTe:tyi P te=some Te
 k4:T.kind=4
 sz:T.size=1
 ez:T.c9≠0
 ee:T.B9.length=T.c9
 es:Te.size=T.c9
 d5n:d5<n
 d6n:d6<n
 n5:tn≠d5∧tv≠d5∧tb≠d5
 n6:d5≠d6∧tv≠d6∧tb≠d6
structure ci0 (σ:St) (T:TyI) (ts ty tn tv tb:Nat) (c c0:Cap) (es:List (List V)) (zs e:List V) (v0:V) (bid nid:Id):Prop where
 row:σ.tm ts=.sl c es
 place:σ.tm ty=.sl c0 [zs]
 len:σ.tm tn=.int .i64 (es.length:Nat)
 elt:σ.tm tv=.agg e
 box:σ.tm tb=.ptr bid 0
 at':σ.h bid=some (.box [v0])
 hes:∀ x∈es,x.length=T.c9
 hzs:zs.length=T.c9
 hz1:zs.all ab6=true
 he:e.length=T.c9
 he1:e.all ab6=true
 b8:(es.length+1) * T.A1≤140737488355328
 b9:es.length+1≤140737488355328
 new:σ.h nid=none
 own:c=.full∨∃ id,c=.own id∧σ.h id=some (.tok es.length T.c9)
def bP3 (σ:St) (T:TyI) (es:List (List V)) (e:List V) (bid id:Id) (d5 d6:Nat):St :=
 ⟨upd (upd σ.tm (some d5) (.sl (.own id) (es++[e]))) (some d6) .undef,u9 (u9 σ.h id (.tok (es.length+1) T.c9)) bid (.box [.sl (.own id) (es++[e])])⟩
section
variable {F:Fence} (hF:∀ f,F.fn f) {m:Nat} {ds:List Deferred} {P:Program} {env:Nat→Option (List V)} {ops:Array Oper} {n:Nat}
include hF
theorem cc7 {t te:TypeId} {T Te:TyI} {ts ty tn tv tb d5 d6:Nat} (hO:bU2 P ops n t te T Te ts ty tn tv tb d5 d6) {L:Array Bool} (hR:be9 ops L)
  {σ:St} {c c0:Cap} {es:List (List V)} {zs e:List V} {v0:V} {bid nid:Id} (hS:ci0 σ T ts ty tn tv tb c c0 es zs e v0 bid nid)
  {g:G} {w:World} {a:Act} (r:P4 ds env n g w a σ) {Q:Exit→Act→World→Prop} {fuel:Nat} (cK5:4≤fuel)
  (hQ:∀ id,((c=.full∧id=nid)∨c=.own id)→∀ a' g' w',Ext g w g' w'→P4 ds env n g' w' a' (bP3 σ T es e bid id d5 d6)→Q .normal a' w') :
  wpAnyIn F m P .any ops Q fuel L a w:=by
 obtain ⟨f,rfl⟩:∃ f,fuel=f+1+1+1+1:=⟨fuel - 4,om_⟩;obtain ⟨q0,q1,q2,q3,q4,q5,q6,q7,q8,q9⟩:=hR;obtain ⟨⟨p5,a5,g5,x5,y5⟩,⟨p6,a6,g6,x6,y6⟩,⟨p7,a7,g7,x7,y7⟩,⟨p8,a8,g8,x8,y8⟩,hT,hTe,k4,sz1,ez,ee,esz,d5n,d6n,⟨n51,n52,n53⟩,⟨n61,n62,n63⟩⟩:=hO;obtain ⟨s1,s2,s3,s4,s5,s6,hes,hzs,hz1,he,he1,b8,b9,ax4,bL6⟩:=hS;have nd5:∀ c,p5.op≠.defer c:=by intro c hc;rw [y5] at hc;cases hc
 have nd6:∀ c,p6.op≠.defer c:=by intro c hc;rw [y6] at hc;cases hc
 have nd7:∀ c,p7.op≠.defer c:=by intro c hc;rw [y7] at hc;cases hc
 have nd8:∀ c,p8.op≠.defer c:=by intro c hc;rw [y8] at hc;cases hc
 have v1:=r.av (.tmp ts);have v2:=r.av (.tmp ty);have v3:=r.av (.tmp tn);have v4:=r.av (.tmp tv);have v5:=r.av (.tmp tb);simp only [av] at v1 v2 v3 v4 v5;rw [s1] at v1;rw [s2] at v2;rw [s3] at v3;rw [s4] at v4;rw [s5] at v5;have i3:a.eval (.tmp tn)=.int .i64 es.length:=by
  generalize a.eval (.tmp tn)=v at v3;cases v3;rfl
 have i5:a.eval (.tmp tb)=.pointer (some ⟨g.loc bid,0,none⟩):=by
  generalize a.eval (.tmp tb)=v at v5;cases v5;rfl
 have c4:RVL g w (a.eval (.tmp tv)).cells e:=as2 v4 (by simp [cellsOf]);have bo8:∀ v∈(a.eval (.tmp tv)).cells.toList,v.oneCell'=true:=by
  intro v hv;obtain ⟨j,hj,ej⟩:=List.mem_iff_getElem.1 hv;have hj':j<e.length:=by rw [← c4.1];simpa using hj
  have hxs:e[j]? = some e[j]:=by simp [hj']
  have hcs:(a.eval (.tmp tv)).cells[j]? = some v:=by
   have:(a.eval (.tmp tv)).cells.toList[j]? = some v:=by rw [List.getElem?_eq_getElem hj,ej]
   simpa using this
  have hrv:=c4.2 j v e[j] hcs hxs;rw [List.all_eq_true] at he1;exact aw3 hrv (he1 _ (List.getElem_mem hj'))
 have cq4:n≤a.tmps.size:=r.1.size;obtain ⟨id,b,off,cap,W1,vs1,ty1,hid,run5,hb1,aT7,ac0,hWs,fin⟩:=cE9 r.1.rel (ρc:=a.eval) y5 hT k4 ez ee v1 hes v2 hzs hz1 b8 b9 ax4 bL6;obtain ⟨w9,⟨ty9,hb9⟩,hs9,_,_,_⟩:=r.1.rel.box bid _ s6;obtain ⟨cu8,de1,hk9⟩:=ac0 bid _ s6;obtain ⟨g',x',r',v'⟩:=fin _ e c4 he;have hxl:(a.eval (.tmp tv)).cells.size=T.c9:=by rw [c4.1,he]
 obtain ⟨sv,hsv⟩:∃ sv:Value,sv=.slice (some ⟨b,off,none⟩) (es.length+1) cap:=⟨_,rfl⟩;obtain ⟨pv,hpv⟩:∃ pv:Value,pv=.pointer (some ⟨b,off+es.length * T.c9,none⟩):=⟨_,rfl⟩;rw [← hsv] at run5 v';have ev5:(a.put (some d5) sv).eval (.tmp d5)=sv:=aS6 om_;have run6:∀ W,(execOp (a.put (some d5) sv).eval p6).run P W=.ok (.value pv) W:=fun W=>by
  rw [hpv];exact bp2 y6 hT k4 ez (by rw [ev5,hsv]) (by rw [aa6 n51];exact i3) om_
 have di6:((a.put (some d5) sv).put (some d6) pv).eval (.tmp d6)=pv:=aS6 (by show d6<(a.tmps.setIfInBounds d5 sv).size;simp;omega);have etv:((a.put (some d5) sv).put (some d6) pv).eval (.tmp tv)=a.eval (.tmp tv):=by rw [aa6 n62,aa6 n52]
 have etb:((a.put (some d5) sv).put (some d6) pv).eval (.tmp tb)=a.eval (.tmp tb):=by rw [aa6 n63,aa6 n53]
 have etb1:(a.put (some d5) sv).eval (.tmp tb)=a.eval (.tmp tb):=aa6 n53;have ed5:((a.put (some d5) sv).put (some d6) pv).eval (.tmp d5)=sv:=by rw [aa6 n61,ev5]
 have run7:∀ W,W.heap[b]? = some (.cells vs1 ty1 (0,0))→(execOp ((a.put (some d5) sv).put (some d6) pv).eval p7).run P W=.ok .skip (W.setRow b (G6 vs1 (off+es.length * T.c9) (a.eval (.tmp tv)).cells)):=fun W hW=>by
  have:=aK9 (P:=P) (w:=W) y7 hTe (ρc:=((a.put (some d5) sv).put (some d6) pv).eval) (by rw [di6,hpv]) hW (by rw [etv,hxl,esz]) (by rw [esz];exact aT7) (by rw [etv];exact bo8);rw [etv] at this;exact this
 have hsc:sv.cells=#[sv]:=by rw [hsv];rfl
 have hso:sv.oneCell'=true:=by rw [hsv];rfl
 have cY2:w9.size=1:=hs9;have dj3:G6 w9 0 #[sv]=#[sv]:=by
  unfold G6;apply Array.ext';have:(w9.toList.drop 1)=[]:=List.drop_of_length_le (by simp [cY2]);simp [this]
 have run8:∀ (ac:Act) W,ac.eval (.tmp tb)=a.eval (.tmp tb)→ac.eval (.tmp d5)=sv→W.heap[g.loc bid]? = some (.cells w9 ty9 (0,0))→(execOp ac.eval p8).run P W=.ok .skip (W.setRow (g.loc bid) #[sv]):=fun ac W h1 h2 hW=>by
  have:=aK9 (P:=P) (w:=W) y8 hT (ρc:=ac.eval) (b:=g.loc bid) (p:=0) (by rw [h1,i5]) hW (by rw [h2,hsc,sz1];rfl) (by rw [sz1,cY2];omega) (by rw [h2,hsc];simp [hso]);rw [h2,hsc,dj3] at this;exact this
 have hW1:W1.heap[g.loc bid]? = some (.cells w9 ty9 (0,0)):=by rw [hk9];exact hb9
 have bd1:g'.loc bid=g.loc bid:=(x'.dom bid ((r.1.rel.dom bid).2 (by rw [s6];simp))).2.1;have hb':(u9 σ.h id (.tok (es.length+1) T.c9)) bid=some (.box [v0]):=by rw [l8 de1];exact s6
 obtain ⟨x'',r''⟩:=bQ6 r' hb' (vs:=#[sv]) (cs:=[.sl (.own id) (es++[e])]) ⟨rfl,fun j c1 v1 e1 e2=>by
  match j with
  | 0=>simp at e1 e2;subst e1;subst e2;exact v'
  | j+1=>simp at e2⟩
 rw [bd1] at x'' r'';have hx3:=x'.trans x'';have rf:P4 ds env n g' ((W1.setRow b (G6 vs1 (off+es.length * T.c9) (a.eval (.tmp tv)).cells)).setRow (g.loc bid) #[sv]) ((a.put (some d5) sv).put (some d6) pv) (bP3 σ T es e bid id d5 d6) :=
  (r.put hx3 (d:=some d5) (fun t ht=>by cases ht;exact d5n) r'' (v'.mono x'')).put (Ext.refl _ _) (d:=some d6) (fun t ht=>by cases ht;exact d6n) r'' (.undef _)
 have ak2:=hQ id hid _ g' _ hx3 rf;have e5:a.put p5.dst sv=a.put (some d5) sv:=by rw [x5]
 have e6:∀ ac:Act,ac.put p6.dst pv=ac.put (some d6) pv:=fun ac=>by rw [x6]
 have e7:∀ ac:Act,ac.put p7.dst undef=ac:=fun ac=>by rw [x7];rfl
 have e8:∀ ac:Act,ac.put p8.dst undef=ac:=fun ac=>by rw [x8];rfl
 refine ⟨fun h=>(by rw [q0] at h;cases h),fun i hi=>?_⟩;rw [q0] at hi;simp only [List.mem_cons,List.not_mem_nil,or_false] at hi;subst hi;refine al3 hF (by rw [q0];simp) a5 g5 nd5 (.inl run5) ?_;rw [e5];refine ⟨fun h=>(by rw [q1] at h;cases h),fun i hi=>?_⟩;rw [q1] at hi;simp only [List.mem_cons,List.not_mem_nil,or_false] at hi;rcases hi with rfl|rfl
 ·refine al3 hF (by rw [q1];simp) a6 g6 nd6 (.inl (run6 W1)) ?_
  rw [e6];refine ⟨fun h=>(by rw [q2] at h;cases h),fun i hi=>?_⟩;rw [q2] at hi;simp only [List.mem_cons,List.not_mem_nil,or_false] at hi;rcases hi with rfl|rfl
  ·refine al3 hF (by rw [q2];simp) a7 g7 nd7 (.inr ⟨run7 W1 hb1,rfl⟩) ?_
   rw [e7];refine ⟨fun h=>(by rw [q4] at h;cases h),fun i hi=>?_⟩;rw [q4] at hi;simp only [List.mem_cons,List.not_mem_nil,or_false] at hi;subst hi;refine al3 hF (by rw [q4];simp) a8 g8 nd8 (.inr ⟨run8 _ _ etb ed5 (by rw [setRow_other _ _ _ _ cu8];exact hW1),rfl⟩) ?_;rw [e8];exact wpAnyIn_done q7 ak2 f
  ·refine al3 hF (by rw [q2];simp) a8 g8 nd8 (.inr ⟨run8 _ _ etb ed5 hW1,rfl⟩) ?_
   rw [e8];refine ⟨fun h=>(by rw [q5] at h;cases h),fun i hi=>?_⟩;rw [q5] at hi;simp only [List.mem_cons,List.not_mem_nil,or_false] at hi;subst hi;refine al3 hF (by rw [q5];simp) a7 g7 nd7 (.inr ⟨run7 _ (by rw [setRow_other _ _ _ _ (Ne.symm cu8)];exact hb1),rfl⟩) ?_;rw [e7,aS1 _ cu8];exact wpAnyIn_done q8 ak2 f
 ·refine al3 hF (by rw [q1];simp) a8 g8 nd8 (.inr ⟨run8 _ _ etb1 ev5 hW1,rfl⟩) ?_
  rw [e8];refine ⟨fun h=>(by rw [q3] at h;cases h),fun i hi=>?_⟩;rw [q3] at hi;simp only [List.mem_cons,List.not_mem_nil,or_false] at hi;subst hi;refine al3 hF (by rw [q3];simp) a6 g6 nd6 (.inl (run6 _)) ?_;rw [e6];refine ⟨fun h=>(by rw [q6] at h;cases h),fun i hi=>?_⟩;rw [q6] at hi;simp only [List.mem_cons,List.not_mem_nil,or_false] at hi;subst hi;refine al3 hF (by rw [q6];simp) a7 g7 nd7 (.inr ⟨run7 _ (by rw [setRow_other _ _ _ _ (Ne.symm cu8)];exact hb1),rfl⟩) ?_;rw [e7,aS1 _ cu8];exact wpAnyIn_done q9 ak2 f
end
theorem aT4 {c:Ctx} {x:XC} {gen:Nat} {k:List It} {σ:St} {id:Nat} {ops:Array Oper} (ok:XOk c.P x) (hm:c.P.follows .mixedOrders=true) (hok:J9 c.n (.region id ops true)=true)
  (ht:bl2 ops 5=true) (hsz:ops.size=9) (hR:be9 ops (aF8 9 5)) {t te:TypeId} {T Te:TyI} {ts ty tn tv tb d5 d6:Nat} (hO:bU2 c.P ops c.n t te T Te ts ty tn tv tb d5 d6)
  (h:N8 c.P c.env ops true gen id (ops.toList.take 5) 0 [] (fun σ1=>∃ cc c0 es zs e v0 bid nid,ci0 σ1 T ts ty tn tv tb cc c0 es zs e v0 bid nid ∧
   ∀ id',((cc=.full∧id'=nid)∨cc=.own id')→ARX c x gen k .normal (bP3 σ1 T es e bid id' d5 d6)) σ):ARX c x gen (.code (.region id ops true)::k) .normal σ:=by
 intro g a w hx hX r;simp only [J9,Bool.and_eq_true,Bool.or_eq_true,Bool.not_eq_true'] at hok;obtain ⟨hd,hdr⟩:=hok;have hdk:au3 ops=true:=by simpa using hdr
 obtain ⟨l,σe,h1,h2,⟨cc,c0,es,zs,e,v0,bid,nid,hS,h3⟩,h4⟩:=aM7 (ops.toList.take 5) 0 [] σ [] (fun j o h=>by
  rw [List.getElem?_take] at h;split at h
  ·simpa using h
  ·cases h) sp_ sp_ h
 have hl:l.map (·.1)=List.range 5:=by
  rw [h1,List.length_take];simp [hsz]
 have hx1:Ext g w g { w with drawn:=w.drawn+1 } :=
  ⟨rfl,rfl,rfl,Nat.le_refl _,fun _=>Nat.le_refl _,fun _ _ _=>rfl,fun _ _ h=>⟨rfl,h⟩,fun _ h=>⟨h,rfl,.inl rfl⟩,Nat.le_refl _⟩
 have b7:Rel c.env g { w with drawn:=w.drawn+1 } σ.h:=by
  have q:=r.1.rel;refine ⟨q.dom,q.top,fun id cs e=>?_,q.inj,fun id n k e=>?_,q.apart,q.T8,q.C4,fun k cs e=>(q.glob k cs e).mono hx1⟩
  ·obtain ⟨vs,h1,h2,h3,h4,h5⟩:=q.box id cs e
   exact ⟨vs,h1,h2,fun i c v x y=>(h3 i c v x y).mono hx1,h4,h5⟩
  ·obtain ⟨h1,h2,h3,h4⟩:=q.tok id n k e
   exact ⟨h1,h2,h3,h4⟩
 refine wpIn_region_any hm (bx2 ok.fn ok.dp ok.cl hd hdk ht om_ (g0:=g) (w0:=w) (Q:=U0 c.P x.F x.E k) ?_ ops.size l _ σ g _ a ?_ sp_ ?_ ?_ ?_ (h4 rfl).1 ?_ h2 hx1 ⟨⟨b7,fun t=>(r.1.tm t).mono hx1,r.1.size,r.1.defers⟩,r.2⟩)
 ·intro fuel g' a' w' hf hx' r'
  rw [hsz] at hf ⊢;exact cc7 ok.fn hO hR hS r' hf fun id' hid a2 g2 w2 x2 r2=>h3 id' hid g2 a2 w2 ((hx.trans hx').trans x2) (ok.X _ _ _ _ (hx'.trans x2) hX) r2
 ·have:=congrArg List.length hl;simp at this;omega
 ·intro i
  have:(∃ x∈l,x.1=i)↔i∈l.map (·.1):=by simp
  rw [this,hl,List.mem_range];constructor
  ·intro h
   have hi':i<ops.size:=by omega
   exact ⟨h,by simp [hi']⟩
  ·exact fun h=>h.1
 ·intro i _ hi
  simp [hi]
 ·have:(l.map (·.1)).Pairwise (·<·):=by rw [hl];exact List.pairwise_lt_range
  rw [List.pairwise_map] at this;exact this
 ·intro j o ho hj
  have hjl:j<ops.size:=(Array.getElem?_eq_some_iff.1 ho).1;simp [hjl] at hj
theorem cx6 {env:Nat→Option (List V)} {g:G} {w:World} {h:H} (r:Rel env g w h) {bid nid:Id} (K:Nat) (hb:h bid=some (.box [.sl .full []])) (hn:h nid=none) :
  ∃ g',Ext g w g' w∧Rel env g' w (u9 (u9 h nid (.tok 0 K)) bid (.box [.sl (.own nid) []])):=by
 obtain ⟨vs,hc,hs,hv,hl,hw⟩:=r.box bid _ hb;have hs1:vs.size=1:=hs;have h0:vs[0]? = some vs[0]:=Array.getElem?_eq_getElem om_;have hrv:=hv 0 _ _ h0 rfl;obtain ⟨a,hA⟩:∃ a,vs[0]=.slice a 0 0:=by
  generalize vs[0]=c at hrv;cases hrv with
  | sl a cap _ _ k cell hk V0 E0 hr hc =>
   have:cap=0:=hc;subst this;exact ⟨a,rfl⟩
 have hne:bid≠nid:=by rintro rfl;rw [hn] at hb;cases hb
 obtain ⟨g',hg'⟩:∃ g':G,g'={ g with buf:=fun i=>if i=nid then ⟨a,0,0,K⟩ else g.buf i,dom:=fun i=>if i=nid then true else g.dom i,top:=max g.top (nid.gen+1) }:=⟨_,rfl⟩;have R3:∀ i,i≠nid→g'.buf i=g.buf i:=fun i hi=>by rw [hg'];show (if i=nid then _ else g.buf i)=_;rw [if_neg hi]
 have bv1:g'.buf nid=⟨a,0,0,K⟩:=by rw [hg'];show (if nid=nid then _ else g.buf nid)=_;rw [if_pos rfl]
 have aK2:∀ i,i≠nid→g'.dom i=g.dom i:=fun i hi=>by rw [hg'];show (if i=nid then true else g.dom i)=_;rw [if_neg hi]
 have cJ6:g'.dom nid=true:=by rw [hg'];show (if nid=nid then true else g.dom nid)=_;rw [if_pos rfl]
 have elim:g'.lim=g.lim:=by rw [hg']
 have ewr:g'.wr=g.wr:=by rw [hg']
 have eloc:g'.loc=g.loc:=by rw [hg']
 have etop:g'.top=max g.top (nid.gen+1):=by rw [hg']
 clear hg';have hnn:∀ i,h i≠none→i≠nid:=fun i hi e=>hi (by rw [e];exact hn);have hx:Ext g w g' w:=by
  refine ⟨rfl,rfl,rfl,Nat.le_refl _,fun b=>by rw [elim];exact Nat.le_refl _,fun _ _ _=>rfl,fun b _ q=>⟨rfl,by rw [ewr];exact q⟩,fun i hi=>?_,by rw [etop];exact Nat.le_max_left _ _⟩;have:=hnn i ((r.dom i).1 hi);exact ⟨by rw [aK2 i this];exact hi,by rw [eloc],.inl (R3 i this)⟩
 have hold:∀ i o,(u9 (u9 h nid (.tok 0 K)) bid (.box [.sl (.own nid) []])) i=some o→(i=bid∧o=.box [.sl (.own nid) []])∨(i=nid∧o=.tok 0 K)∨(i≠bid∧i≠nid∧h i=some o):=by
  intro i o e;by_cases h1:i=bid
  ·subst h1;rw [B0] at e;exact .inl ⟨rfl,(by cases e;rfl)⟩
  ·rw [l8 h1] at e
   by_cases h2:i=nid
   ·subst h2;rw [B0] at e;exact .inr (.inl ⟨rfl,(by cases e;rfl)⟩)
   ·rw [l8 h2] at e;exact .inr (.inr ⟨h1,h2,e⟩)
 have bo9:∀ i cs,(u9 (u9 h nid (.tok 0 K)) bid (.box [.sl (.own nid) []])) i=some (.box cs)→∃ cs0,h i=some (.box cs0):=by
  intro i cs e;rcases hold i _ e with ⟨rfl,_⟩|⟨_,h2⟩|⟨_,_,h2⟩
  ·exact ⟨_,hb⟩
  ·cases h2
  ·exact ⟨_,h2⟩
 refine ⟨g',hx,?_⟩;refine ⟨fun i=>?_,fun i hi=>?_,fun i cs e=>?_,fun i i' cs cs' e e' heq=>?_,fun i n k e=>?_,fun i i' n k cs e hlt e'=>?_,fun i i' n n' k k' e hlt e' aO0=>?_,fun b q=>by rw [elim];exact r.C4 b q,fun k cs e=>(r.glob k cs e).mono hx⟩
 ·by_cases h1:i=bid
  ·subst h1
   rw [B0,aK2 i hne];simp [(r.dom i),hb]
  ·rw [l8 h1]
   by_cases h2:i=nid
   ·subst h2;rw [B0,cJ6];simp
   ·rw [l8 h2,aK2 i h2];exact r.dom i
 ·rw [etop]
  by_cases h2:i=nid
  ·subst h2;exact Nat.lt_of_lt_of_le (Nat.lt_succ_self _) (Nat.le_max_right _ _)
  ·refine Nat.lt_of_lt_of_le (r.top i ?_) (Nat.le_max_left _ _)
   by_cases h1:i=bid
   ·subst h1;rw [hb];simp
   ·rwa [l8 h1,l8 h2] at hi
 ·rcases hold i _ e with ⟨rfl,h2⟩|⟨_,h2⟩|⟨h1,h2,h3⟩
  ·cases h2
   refine ⟨vs,by rw [eloc];exact hc,by rw [hs1];rfl,fun j c v q1 q2=>?_,by rw [elim,eloc];exact hl,by rw [ewr,eloc];exact hw⟩
   match j with
   | 0 =>
    rw [h0] at q1;simp at q1 q2;subst q1;subst q2;rw [hA];exact .sl a 0 (.own nid) [] K (fun _=>undef) sp_ sp_ sp_ sp_ ⟨cJ6,sp_,fun _=>bv1⟩
   | j+1=>simp at q2
  ·cases h2
  ·obtain ⟨vs',q1,q2,q3,q4,q5⟩:=r.box i cs h3
   exact ⟨vs',by rw [eloc];exact q1,q2,fun j c v x y=>(q3 j c v x y).mono hx,by rw [elim,eloc];exact q4,by rw [ewr,eloc];exact q5⟩
 ·obtain ⟨c0,q0⟩:=bo9 i cs e
  obtain ⟨c1,q1⟩:=bo9 i' cs' e';rw [eloc] at heq;exact r.inj i i' _ _ q0 q1 heq
 ·rcases hold i _ e with ⟨_,h2⟩|⟨rfl,h2⟩|⟨h1,h2,h3⟩
  ·cases h2
  ·cases h2
   rw [bv1];exact ⟨rfl,Nat.le_refl _,fun q=>absurd q (Nat.lt_irrefl _),rfl⟩
  ·obtain ⟨q1,q2,q3,q4⟩:=r.tok i n k h3
   rw [R3 i h2];refine ⟨q1,q2,fun q=>?_,q4⟩;obtain ⟨b,off,vs',s1,s2,s3,s4,s5⟩:=q3 q;exact ⟨b,off,vs',by rw [R3 i h2];exact s1,s2,by rw [R3 i h2];exact s3,by rw [R3 i h2,elim];exact s4,by rw [ewr];exact s5⟩
 ·rcases hold i _ e with ⟨_,h2⟩|⟨rfl,h2⟩|⟨h1,h2,h3⟩
  ·cases h2
  ·cases h2;rw [bv1] at hlt;exact absurd hlt (Nat.lt_irrefl _)
  ·obtain ⟨c1,q1⟩:=bo9 i' cs e'
   rw [R3 i h2] at hlt ⊢;rw [eloc];exact r.apart i i' n k c1 h3 hlt q1
 ·rcases hold i _ e with ⟨_,h2⟩|⟨rfl,h2⟩|⟨h1,h2,h3⟩
  ·cases h2
  ·cases h2;rw [bv1] at hlt;exact absurd hlt (Nat.lt_irrefl _)
  ·rcases hold i' _ e' with ⟨_,h2'⟩|⟨rfl,h2'⟩|⟨h1',h2',h3'⟩
   ·cases h2'
   ·cases h2';rw [bv1] at aO0;exact absurd aO0 (Nat.lt_irrefl _)
   ·rw [R3 i h2] at hlt ⊢
    rw [R3 i' h2'] at aO0 ⊢;exact r.T8 i i' n n' k k' h3 hlt h3' aO0
theorem cy7 {c:Ctx} {x:XC} {gen:Nat} {k:List It} {e:Exit} {σ:St} (ok:XOk c.P x) (bid nid:Id) (K:Nat) (hb:σ.h bid=some (.box [.sl .full []])) (hn:σ.h nid=none)
  (h:ARX c x gen k e ⟨σ.tm,u9 (u9 σ.h nid (.tok 0 K)) bid (.box [.sl (.own nid) []])⟩):ARX c x gen k e σ:=by
 intro g a w hx hX r;obtain ⟨g',x1,r'⟩:=cx6 r.1.rel K hb hn;exact h g' a w (hx.trans x1) (ok.X _ _ _ _ x1 hX) ⟨⟨r',fun t=>(r.1.tm t).mono x1,r.1.size,r.1.defers⟩,r.2⟩
end GoAbs
namespace GoAbs
open Go Go.ChangeShapes Go.WideShapes Go.RowKit
def I64 (n:Int):Prop:=(Lit.int .i64 n).wf=true
inductive TyN:Ty→Prop
 | mk {k:Int} {l:List Ty} (h:I64 k) (r:∀ x∈l,TyN x):TyN (.mk k l)
inductive TmN:Tm→Prop
 | mk {k i:Int} {t:Ty} {l:List Tm} (h:I64 k) (h':I64 i) (ht:TyN t) (r:∀ x∈l,TmN x):TmN (.mk k i t l)
inductive FmN:Fm→Prop
 | mk {k:Int} {t:Ty} {ts:List Tm} {l:List Fm} (h:I64 k) (ht:TyN t) (hs:∀ x∈ts,TmN x) (r:∀ x∈l,FmN x):FmN (.mk k t ts l)
theorem bj1:I64 0:=by unfold I64;decide
instance:Inhabited {t:Ty // TyN t}:=⟨⟨.mk 0 [],.mk bj1 sp_⟩⟩
instance:Inhabited {t:Tm // TmN t}:=⟨⟨.mk 0 0 (.mk 0 []) [],.mk bj1 bj1 (.mk bj1 sp_) sp_⟩⟩
instance:Inhabited {t:Fm // FmN t}:=⟨⟨.mk 0 (.mk 0 []) [] [],.mk bj1 (.mk bj1 sp_) sp_ sp_⟩⟩
section
variable {H':Type} {enc:TypeId × Value→H'} {P:Program} {W:World} {base:Nat} {sp:Nat→Bool} {held:Bool}
end
mutual
def Tm.aB2:Tm→Int→Bool
 | .mk k i _ l,a=>(k==1&&i==a)||Tm.bt0 l (x4 a (r6 k))
def Tm.bt0:List Tm→Int→Bool
 | [],_=>false
 | t::l,a=>t.aB2 a||Tm.bt0 l a
end
theorem Tm.bh1:∀ (l:List Tm) (a:Int),Tm.bt0 l a=l.any fun x=>x.aB2 a
 | [],a=>by simp [Tm.bt0]
 | t::l,a=>by simp [Tm.bt0,Tm.bh1 l a]
theorem Tm.bP8 (t:Tm) (a:Int):t.aB2 a=((t.kind==1&&t.index==a)||t.args.any fun x=>x.aB2 (x4 a (r6 t.kind))):=by
 cases t;rw [Tm.aB2,Tm.bh1];rfl
theorem I64.lo {n:Int} (h:I64 n) : -9223372036854775808≤n:=by
 unfold I64 Lit.wf at h;simp only [Bool.and_eq_true,decide_eq_true_eq] at h;exact h.1
theorem I64.hi {n:Int} (h:I64 n):n≤9223372036854775807:=by
 unfold I64 Lit.wf at h;simp only [Bool.and_eq_true,decide_eq_true_eq] at h;exact h.2
theorem cP1 {i a b:Int} (hi:I64 i) (ha:0≤a) (hb:0≤b) (h:a+b≤1000000):(ab8 i b==a)=(i==a+b):=by
 have h1:=hi.lo;have h2:=hi.hi;by_cases hw : -9223372036854775808≤i - b
 ·have e:ab8 i b=i - b:=w8 rfl om_ om_
  rw [e,Bool.eq_iff_iff,beq_iff_eq,beq_iff_eq];omega
 ·have e:ab8 i b=i - b+18446744073709551616:=by
   unfold ab8 IntKind.wrap;have e1:(2:Int) ^ IntKind.i64.bits=18446744073709551616:=rfl;have e2:(2:Int) ^ (IntKind.i64.bits - 1)=9223372036854775808:=rfl;have e3:IntKind.i64.signed=true:=rfl;rw [e1,e2,e3];have e4:(i - b) % 18446744073709551616=i - b+18446744073709551616:=by omega
   simp only [e4,Bool.true_and];rw [if_neg (by simp;omega)]
  rw [e,Bool.eq_iff_iff,beq_iff_eq,beq_iff_eq];omega
theorem cb6:∀ t:Tm,TmN t→∀ a b n:Int,0≤a→0≤b→a+b+m7 t≤1000000→0≤n→n+m7 t≤1000000 →
  n≤t.Y7 (V8 a) b n∧t.Y7 (V8 a) b n≤n+m7 t∧decide (t.Y7 (V8 a) b n>n)=t.aB2 (a+b):=by
 intro t
 induction t using Tm.ind with|h t ih=>?_
 intro hN a b n ha hb hs hn hns;have key:∀ (l:List Tm),(∀ x∈l,x∈t.args)→∀ b n:Int,0≤b→a+b+F8 l≤1000000→0≤n→n+F8 l≤1000000 →
   n≤Tm.ag5 (V8 a) l b n∧Tm.ag5 (V8 a) l b n≤n+F8 l∧decide (Tm.ag5 (V8 a) l b n>n)=l.any fun x=>x.aB2 (a+b):=by
  intro l
  induction l with
  | nil=>intro _ b n _ _ _ _;rw [Tm.ag5];simp [F8]
  | cons x l ihl =>
   intro hm b n hb hs hn hns;rw [Tm.ag5];rw [F8] at hs hns;have hx:TmN x:=by cases hN with|mk _ _ _ r=>exact r x (hm x sp_)
   obtain ⟨p1,p2,p3⟩:=ih x (hm x sp_) hx a b n ha hb om_ hn om_;obtain ⟨q1,q2,q3⟩:=ihl (fun y hy=>hm y (by simp [hy])) b (x.Y7 (V8 a) b n) hb om_ om_ om_;refine ⟨om_,by rw [F8];omega,?_⟩;rw [List.any_cons,← p3,← q3,Bool.eq_iff_iff];simp only [Bool.or_eq_true,decide_eq_true_eq];omega
 obtain ⟨k,i,ty,l⟩:=t;have hi:I64 i:=by cases hN with|mk _ h' _ _=>exact h'
 rw [Tm.bs0,Tm.bP8];rw [m7] at hs hns ⊢;simp only [Tm.kind,Tm.index,Tm.args] at key ⊢;rcases Bool.eq_false_or_eq_true (k==1) with k1|k1
 ·
  have hk:k=1:=by simpa using k1
  subst hk;have e2:((1:Int)==2)=false:=rfl;simp only [e2,beq_self_eq_true,if_true,Bool.false_eq_true,if_false,Bool.true_and];have eb:x4 (a+b) (r6 1)=a+b:=by
   have e0:r6 1=0:=rfl;rw [e0,J7 om_ om_]
  rw [eb];have hc:V8 a i b n=if (i==a+b)=true then n+1 else n:=by
   unfold V8;rw [cP1 hi ha hb om_];split
   ·exact C9 om_ om_ om_ om_
   ·rfl
  rcases Bool.eq_false_or_eq_true (i==a+b) with he|he
  ·
   rw [he,if_pos rfl] at hc;rw [hc];obtain ⟨q1,q2,q3⟩:=key l (fun x hx=>hx) b (n+1) hb om_ om_ om_;refine ⟨om_,om_,?_⟩;rw [he,Bool.true_or,decide_eq_true_eq];omega
  ·
   rw [he,if_neg sp_] at hc;rw [hc];obtain ⟨q1,q2,q3⟩:=key l (fun x hx=>hx) b n hb om_ om_ om_;exact ⟨om_,om_,by rw [he,Bool.false_or];exact q3⟩
 ·
  simp only [k1,Bool.false_eq_true,if_false,Bool.false_and,Bool.false_or];rcases Bool.eq_false_or_eq_true (k==2) with k2|k2
  ·
   have eb:x4 (a+b) (r6 k)=a+(b+1):=by
    have e0:r6 k=1:=by unfold r6;rw [k2];rfl
    rw [e0,C9 om_ om_ om_ om_];omega
   have eb':x4 b 1=b+1:=C9 om_ om_ om_ om_;simp only [k2,if_true];rw [eb,eb'];obtain ⟨q1,q2,q3⟩:=key l (fun x hx=>hx) (b+1) n om_ om_ om_ om_;exact ⟨om_,om_,q3⟩
  ·
   have eb:x4 (a+b) (r6 k)=a+b:=by
    have e0:r6 k=0:=by unfold r6;rw [k2];rfl
    rw [e0,J7 om_ om_]
   simp only [k2,Bool.false_eq_true,if_false];rw [eb];obtain ⟨q1,q2,q3⟩:=key l (fun x hx=>hx) b n hb om_ om_ om_;exact ⟨om_,om_,q3⟩
theorem ce4 {t:Tm} (h:TmN t) (hs:m7 t≤900000):t.aB2 0=decide (t.count 0>0):=by
 obtain ⟨_,_,e⟩:=cb6 t h 0 0 0 om_ om_ om_ om_ om_;exact e.symm
theorem bR2 {a b:Ty} (h:a≠b):Ty.same a b=false:=by
 cases e:Ty.same a b with
 | false=>rfl
 | true=>exact absurd (Ty.Y1 e) h
theorem ci9 {b:Int}:∀ (t:Tm) (fr:Int),TmW t→TmW (t.up b fr):=by
 intro t
 induction t using Tm.ind with|h t ih=>?_
 intro fr ht;rw [Tm.bO9];refine .mk _ _ _ _ ht.ty (by rw [List.length_map];exact ht.len) ?_;intro x hx;obtain ⟨y,hy,rfl⟩:=List.mem_map.1 hx;exact ih y hy _ (ht.arg hy)
end GoAbs
namespace GoAbs
end GoAbs
