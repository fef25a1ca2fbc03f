/-
 The abstract layer: plain laws, further ones.
-/
import Derived.Test.YteaijonkbbkkjaaGreatDoorAbsDb
import Derived.Test.YteaijonkbbkkjaaGreatDoorAbsDc
import Derived.Test.YteaijonkbbkkjaaGreatDoorAbsD
import Derived.ArgAppend
import Derived.OrdersIn
import Derived.BigRegionIn
set_option linter.unusedSimpArgs false
set_option linter.unusedVariables false
set_option linter.unusedSectionVars false
namespace GoAbs
open Go Go.RowKit
theorem stepIn_nothing {P:Program} {ops:Array Oper} {o:Oper} {a:Act} {w:World} {K:Act→World→Prop} {Q:Exit→Act→World→Prop} {E:Prop} {m:Nat}
  (hg:o.guard=none) (s x:Operand) (t:TypeId) (hop:o.op=Op.call { callee:=Callee.builtin Builtin.append,args:=#[s,x],argTypes:=#[t,t] })
  (e:TypeId) (i:TypeInfo) (h1:P.underlying t=some (.slice e)) (h2:P.info? e=some i)
  (ao:Option Addr) (n cap:Nat) (hs:a.eval s=.slice ao n cap) (hle:n≤cap) (bo:Option Addr) (c:Nat) (hx:a.eval x=.slice bo 0 c)
  (hK:K (a.put o.dst (.slice ao n cap)) w) :
  if Region.wanted o (yielded ops a.tmps)=true then Oper.wpIn Fence.wide m P o a w K Q else E:=by
 have hw:Region.wanted o (yielded ops a.tmps)=true:=by simp [Region.wanted,hg]
 rw [if_pos hw]
 have hrun:(Builtin.append_ #[t,t] o.type #[.slice ao n cap,.slice bo 0 c]).run P w=.ok (.slice ao n cap) w:=by
  cases ao<;>cases bo<;>simp [Builtin.append_,run_underlying h1,Go.sizeOf,typeInfo,h2,Builtin.lenOf,hle,Builtin.firstCells,loadCells,loadCellsFrom,storeCells]
 refine ⟨fun f _=>trivial,?_⟩
 have:(o.semAt Fence.wide.round a.eval).run P w=.ok (.value (.slice ao n cap)) w:=by
  simp [Oper.semAt,Fence.wide,execOp,hop,resolve,invoke,builtin,hs,hx,hrun,Result.andThen]
 rw [this]
 exact hK
theorem stepIn_grow {P:Program} {ops:Array Oper} {o:Oper} {a:Act} {w:World} {K:Act→World→Prop} {Q:Exit→Act→World→Prop} {E:Prop} {l:Nat}
  (hg:o.guard=none) (s x:Operand) (t:TypeId) (hop:o.op=Op.call { callee:=Callee.builtin Builtin.append,args:=#[s,x],argTypes:=#[t,t] })
  (e:TypeId) (i:TypeInfo) (z:Value) (h1:P.underlying t=some (.slice e)) (h2:P.info? e=some i) (h3:i.zero=some z)
  (b:Addr) (cap:Nat) (hs:a.eval s=.slice (some b) 0 cap)
  (ad:Addr) (m c:Nat) (news:List Value) (hx:a.eval x=.slice (some ad) m c) (hn:news.length=m * i.size) (hc:∀ j u,news[j]? = some u→w.cell? (ad.add j)=some u)
  (hfull:cap<m) (b1:m≤1000) (b2:i.bytes≤1000)
  (hK:∀ (c':Nat) (arr:Array Value),m≤c'→(∀ (j:Nat) (u:Value),news[j]? = some u→arr[j]? = some u)→K (a.put o.dst (.slice (some ⟨w.heap.size,0,none⟩) m c')) (w.drew.alloc (.cells arr e))) :
  if Region.wanted o (yielded ops a.tmps)=true then Oper.wpIn Fence.wide l P o a w K Q else E:=by
 have hw:Region.wanted o (yielded ops a.tmps)=true:=by simp [Region.wanted,hg]
 rw [if_pos hw]
 have hmb:m * i.bytes≤140737488355328:=Nat.le_trans (Nat.mul_le_mul b1 b2) (by decide)
 have hrun:=run_append_grow (P:=P) w t o.type e i z h1 h2 h3 b 0 cap [] (by simp) (fun j u h=>by simp at h) ad m c news hn hc (by omega) (by omega) (growslice_fits (by omega) (by simpa using hmb))
 rw [Nat.zero_add] at hrun
 refine ⟨fun f _=>trivial,?_⟩
 have:(o.semAt Fence.wide.round a.eval).run P w=.ok (.value (.slice (some ⟨w.heap.size,0,none⟩) m (grownCap w m cap e))) (w.drew.alloc (.cells ((#[]:Array Value)++news.toArray++Builtin.zeroCells z.cells (grownCap w m cap e - m)) e)):=by
  simp [Oper.semAt,Fence.wide,execOp,hop,resolve,invoke,builtin,hs,hx,hrun,Result.andThen]
 rw [this]
 refine hK _ _ (grownCap_ge w m cap e) fun j u h=>?_
 have hj:j<news.length:=(List.getElem?_eq_some_iff.1 h).1
 rw [Array.getElem?_append_left (by simp;omega)]
 simpa using h
theorem run_eqIn_sliceNil {P:Program} (w:World) (d:Nat) (t e:TypeId) (a:Option Addr) (n c n' c':Nat) (h:P.underlying t=some (.slice e)) :
  (Op.equalIn (d+1) t (.slice a n c) (.slice none n' c')).run P w=.ok a.isNone w:=by
 cases a<;>simp [Op.equalIn,run_underlying h]
theorem nilcmp_run {P:Program} {ρc:Operand→Value} {o:Oper} {t e t':TypeId} {x y:Operand} (hop:o.op=.binOp .eql t x y t') (ht:P.underlying t=some (.slice e)) {a:Option Addr} {n c n' c':Nat} (hx:ρc x=.slice a n c) (hy:ρc y=.slice none n' c') (w:World) :
  (execOp ρc o).run P w=.ok (.value (.bool a.isNone)) w:=by
 simp only [execOp,hop,hx,hy,eqGuard,binOp]
 simp [Op.equal,Op.maxDepth,run_eqIn_sliceNil w 9999 t e a n c n' c' ht]
theorem AR_region_nil {c:Ctx} {gen:Nat} {k:List It} {σ:St} {id:Nat} {ops:Array Oper} (j:Nat) {o:Oper} {x:Operand} {t e t':TypeId} {d n' c':Nat} (hops:ops[j]? = some o) (hg:o.guard=none) (hdst:o.dst=some d)
  (hop:o.op=.binOp .eql t x (.const (.slice none n' c')) t') (ht:c.P.underlying t=some (.slice e))
  (h:aops c.P c.env ops false gen id (ops.toList.take j) 0 [] (fun σ1=>∃ cc es,av c.env σ1.tm x=.sl cc es∧∀ b:Bool,(b=true→es=[]) →
   aops c.P c.env ops false gen id (ops.toList.drop (j+1)) (j+1) [] (fun σ'=>AR c gen k .normal σ') ⟨upd σ1.tm (some d) (.bool b),σ1.h⟩) σ) :
  AR c gen (.code (.region id ops false)::k) .normal σ:=by
 rw [← hdst] at h
 intro ok hm g a w hx r
 simp only [okStk,okCode,Bool.and_eq_true] at ok
 obtain ⟨⟨hd,_⟩,okk⟩:=ok
 have hj:j<ops.size:=(Array.getElem?_eq_some_iff.1 hops).1
 obtain ⟨l1,σ1,h1,h2,cc,es,hA,hq⟩:=aops_pre (ops.toList.take j) 0 [] σ (fun i o h=>by
  rw [List.getElem?_take] at h
  split at h
  ·simpa using h
  ·cases h) h
 have hl1:l1.map (·.1)=List.range j:=by
  rw [h1,List.length_take]
  rw [Nat.min_eq_left (by simpa using Nat.le_of_lt hj)]
  simp
 refine wp_region ?_
 have hsplit:List.range ops.size=List.range j++(j::(List.range (ops.size - (j+1))).map (j+1+·)):=by
  apply List.ext_getElem?
  intro i
  by_cases hi:i<j
  ·rw [List.getElem?_append_left (by simpa using hi),List.getElem?_range (by omega),List.getElem?_range hi]
  ·rw [List.getElem?_append_right (by simpa using hi)]
   simp only [List.length_range]
   rcases Nat.eq_or_lt_of_le (Nat.le_of_not_lt hi) with e|hlt
   ·subst e;simp [hj]
   ·obtain ⟨m,rfl⟩:∃ m,i=j+1+m:=⟨i - (j+1),by omega⟩
    rw [show j+1+m - j=m+1 by omega,List.getElem?_cons_succ]
    by_cases hm:m<ops.size - (j+1)
    ·rw [List.getElem?_map,List.getElem?_range hm,List.getElem?_range (by omega)];simp
    ·rw [List.getElem?_eq_none (by simp;omega),List.getElem?_eq_none (by simp;omega)]
 rw [hsplit,← hl1]
 refine chain_app hd _ l1 h2 r fun g' a' w' hx' r'=>?_
 rw [wpOps_cons]
 unfold wpOp
 rw [hops]
 have hw:Region.wanted o (yielded ops a'.tmps)=true:=by unfold Region.wanted;rw [hg]
 simp only [hw,if_true]
 have hrx:=rv_av r' x
 rw [hA] at hrx
 obtain ⟨ao,cap,hev,hne⟩:∃ ao cap,a'.eval x=.slice ao es.length cap∧(ao.isNone=true→es=[]):=by
  generalize a'.eval x=v at hrx
  cases hrx with
  | sl ao cap _ _ kk cell hk hcap hrun hr hc =>
   refine ⟨ao,cap,rfl,fun hn=>?_⟩
   by_cases he:es=[]
   ·exact he
   ·obtain ⟨b,off,e,_⟩:=hrun he
    rw [e] at hn;simp at hn
 have hrun:=nilcmp_run (P:=c.P) (ρc:=a'.eval) hop ht hev rfl w'
 refine .inl ?_
 simp only [Oper.wp,hrun,Oper.upon_value]
 have r2:=r'.put (Ext.refl g' w') (d:=o.dst) (fun t ht=>dstOk_at hd hops t ht) r'.rel (RV.bool ao.isNone)
 obtain ⟨l3,σ3,h3,h4,h5⟩:=aops_pre (ops.toList.drop (j+1)) (j+1) [] _ (fun i o h=>by
  rw [List.getElem?_drop] at h
  simpa using h) (hq ao.isNone hne)
 have hl3:l3.map (·.1)=(List.range (ops.size - (j+1))).map (j+1+·):=by
  rw [h3,List.length_drop];simp
 rw [← hl3]
 exact chain_ops hd l3 h4 r2 fun g3 a3 w3 hx3 r3=>h5 okk hm g3 a3 w3 ((hx.trans hx').trans hx3) r3
def yO (c:Ctx):YC:=⟨Fence.wide,[],fun _ w=>c.w0.heap.size≤w.heap.size,bodyPostM Fence.wide 0 c.P c.fn c.R,fun _=>False,c.w0.heap.size⟩
theorem yO_ok (c:Ctx):YOk c (yO c) :=
 ⟨fun _=>trivial,rfl,fun k args w R h=>callsIn_wide.2 h,fun h=>h,fun h=>h,fun g w g' w' x h=>Nat.le_trans h x.size,
  fun g W W' B hB t hz h=>Nat.le_trans h t.size,fun g w g' w' hf h x ho=>Nat.le_trans h x.size,fun g w h=>h,fun _ h=>h.elim⟩
abbrev xT:G→World→Prop:=fun _ _=>True
theorem xT_st {bd:Nat}:XSt bd xT:=⟨fun _ _ _ _ _ h=>h,fun _ _ _ _ _ _ _ h=>h⟩
theorem ARX_O {c:Ctx} {gen:Nat} {k:List It} {e:Exit} {σ:St} (h:ARX c ((yO c).at xT) gen k e σ):ARX c (xF c) gen k e σ :=
 fun g a w hx _ r=>h g a w hx ⟨trivial,hx.size⟩ r
theorem ARX_oendM {c:Ctx} {X:G→World→Prop} {D gen:Nat} {σ:St} (hm:c.P.follows .mixedOrders=true) (hl0:∀ b,c.w0.heap.size≤b→c.g0.lim b=0) (hD:c.w0.heap.size≤D) (h:AR c gen [] .ret σ) :
  ARX c (((yO c).mk1 D).at X) gen [] .ret σ:=by
 intro g a w hx ⟨_,h1,h4,h5⟩ r
 exact ARX_doneD hm hl0 h g a w hx ⟨hD,h5,h4⟩ r
theorem After.trans {C:Cons} {g1 g2 g3:G} {w1 w2 w3:World} {h1 h2 h3:H} (a:After C g1 w1 h1 g2 w2 h2) (b:After C g2 w2 h2 g3 w3 h3):After C g1 w1 h1 g3 w3 h3 :=
 ⟨ext_via a.ext free_wr b.ext,fun id q1 q2=>(b.same id q1 (by rw [a.same id q1 q2];exact q2)).trans (a.same id q1 q2),fun b0 o q1 q2 q3=>b.obj b0 o q1 (a.obj b0 o q1 q2 q3) q3⟩
def RawIt (P:Program) (gf:Nat) (g:G) (w:World) (x:Value) (n:Nat) (vals:Nat→Value) (prot:List Value):Prop :=
 ∀ (l:Nat) (K:Nat→Option Nat→World→Prop) (Kx:World→Prop),(∀ i p W o,K i p W→K i p (W.alloc o))→(∀ i p W,K i p W→K i p W.drew) →
  (∀ i W arr ty,K i none W→(∀ (j:Nat) u,prot[j]? = some u→arr[j]? = some u)→K i (some W.heap.size) (W.alloc (.cells arr ty))) →
  (∀ i p W,K i p W→∀ b o,o<g.lim b→W.cell? ⟨b,o,none⟩=w.cell? ⟨b,o,none⟩) →
  (∀ i b W,K i (some b) W→∀ (j:Nat) u,prot[j]? = some u→W.cell? ⟨b,j,none⟩=some u) →
  (∀ i p W,i<n→K i p W→YieldAt Fence.wide (0 - 1) P l #[vals i] W fun e W'=>(e=.returned (.bool true)∧K (i+1) p W')∨(e=.returned (.bool false)∧Kx W')) →
  ∀ W,K 0 none W→CallsIn Fence.wide 0 P gf #[.func (.yield l) #[] #[],x] W fun e W'=>(∃ v,e=.returned v)∧((∃ p,K n p W')∨Kx W')
theorem iter_of_raw {P:Program} {env:Nat→Option (List V)} {gf:Nat} {cs:List V} {vs:List (List V)} (hcall:Callable P gf)
  (hraw:∀ g w x,RV g w x (.el cs 0)→∃ (vals:Nat→Value) (prot:List Value),(∀ (i:Nat) v,vs[i]? = some v→∃ v0,v=[v0]∧RV g w (vals i) v0)∧RawIt P gf g w x vs.length vals prot) :
  Iter P env (.fn (.func gf) [] [.el cs 0]) vs:=by
 intro g w x hx
 cases hx with
 | fn _ fs cs1 _ _ l1 l2 _ r2 =>
 have e1:fs=#[]:=by simpa using l1
 subst e1
 obtain ⟨c1,rfl⟩:∃ c1,cs1=#[c1]:=by
  have h2':cs1.size=1:=l2
  refine ⟨cs1[0],?_⟩
  apply Array.ext
  ·simpa using h2'
  ·intro i hi hi2;simp at hi2;subst hi2;rfl
 obtain ⟨vals,prot,hvals,hgo⟩:=hraw g w c1 (r2 0 c1 _ rfl rfl)
 refine ⟨gf,#[c1],rfl,hcall,fun C hC g1 W1 h1 x1 q1 hY hbase=>?_⟩
 have hlim:=q1.limnew
 refine (hgo C.l
  (fun i p W=>∃ g' h',After C g1 W1 h1 g' W h'∧Rel env g' W h'∧C.Y i g' W h'∧∀ b,p=some b→prot.length≤g'.lim b∧∀ (j:Nat) u,prot[j]? = some u→W.cell? ⟨b,j,none⟩=some u)
  (fun W=>∃ g' h',After C g1 W1 h1 g' W h'∧Rel env g' W h'∧C.Z g' W h') ?_ ?_ ?_ ?_ ?_ ?_ W1 ?_).mono ?_
 ·rintro i p W o ⟨g',h',a,q,y,z⟩
  have t:Turned W.heap.size W (W.alloc o):=turned_alloc (Nat.le_refl _)
  have hbd:=hC.Ybd _ _ _ _ y
  refine ⟨g'.up W.heap.size,h',⟨t.extF hlim a.ext,a.same,fun b o' q1 q2 q3=>?_⟩,t.rel q,hC.Yt _ _ _ _ _ _ hbd t q.limnew y,fun b hb=>?_⟩
  ·have:=a.obj b o' q1 q2 q3
   exact (t.same b (Array.getElem?_eq_some_iff.1 this).1).trans this
  ·obtain ⟨z1,z2⟩:=z b hb
   refine ⟨z1,fun j u hu=>?_⟩
   have hc:=z2 j u hu
   exact (t.cell b j (World.block_lt_of_cell? _ _ hc)).trans hc
 ·rintro i p W ⟨g',h',a,q,y,z⟩
  have x:=Ext.drew g' W
  exact ⟨g',h',⟨a.ext.trans x,a.same,a.obj⟩,q.drew,hC.Yext _ _ _ _ _ _ x y,z⟩
 ·rintro i W arr ty ⟨g',h',a,q,y,z⟩ harr
  obtain ⟨g'',x,q',hl⟩:=new_row q arr ty
  have hsz:prot.length≤arr.size:=by
   rcases Nat.eq_zero_or_pos prot.length with h0|h0
   ·omega
   ·have:=harr (prot.length - 1) _ (List.getElem?_eq_getElem (by omega))
    have:=(Array.getElem?_eq_some_iff.1 this).1
    omega
  refine ⟨g'',h',⟨a.ext.trans x,a.same,fun b o q1 q2 q3=>?_⟩,q',hC.Yext _ _ _ _ _ _ x y,fun b hb=>?_⟩
  ·have:=a.obj b o q1 q2 q3
   exact (Go.RowKit.Below.heap_alloc W _ b (Array.getElem?_eq_some_iff.1 this).1).trans this
  ·cases hb
   refine ⟨by rw [hl];exact hsz,fun j u hu=>?_⟩
   have e:=harr j u hu
   simp [World.cell?_alloc_new,e]
 ·rintro i p W ⟨g',h',a,q,y,z⟩ b o ho
  have h1':o<g1.lim b:=Nat.lt_of_lt_of_le ho (x1.lim b)
  exact (a.ext.cells b o h1').trans (x1.cells b o ho)
 ·rintro i b W ⟨g',h',a,q,y,z⟩ j u hu
  exact (z b rfl).2 j u hu
 ·rintro i p W hi ⟨g',h',a,q,y,z⟩
  obtain ⟨v0,hv,hrv⟩:=hvals i _ (List.getElem?_eq_getElem hi)
  have hr:=hC.round i [v0] [vals i] g' W h' (by rw [List.getElem?_eq_getElem hi,hv]) y q rfl (fun j x v hx hv=>by
   match j with
   | 0=>simp at hx hv;subst hx;subst hv;exact ((hrv.mono x1).wrs _).mono a.ext
   | j+1=>simp at hx)
  obtain ⟨fn,tmps,assign,body,hy,hR⟩:=hr
  refine ⟨fn,tmps,assign,body,hy,hR.mono ?_⟩
  rintro e W' ⟨g'',h'',b,q',hh⟩
  have hz:∀ b0,p=some b0→prot.length≤g''.lim b0∧∀ (j:Nat) u,prot[j]? = some u→W'.cell? ⟨b0,j,none⟩=some u:=fun b0 hb=>by
   obtain ⟨z1,z2⟩:=z b0 hb
   refine ⟨Nat.le_trans z1 (b.ext.lim b0),fun j u hu=>?_⟩
   have hj:j<prot.length:=(List.getElem?_eq_some_iff.1 hu).1
   exact (b.ext.cells b0 j (Nat.lt_of_lt_of_le hj z1)).trans (z2 j u hu)
  rcases hh with ⟨he,hy'⟩|⟨he,hz'⟩
  ·exact .inl ⟨he,g'',h'',a.trans b,q',hy',hz⟩
  ·exact .inr ⟨he,g'',h'',a.trans b,q',hz'⟩
 ·exact ⟨g1,h1,⟨ext_free (Ext.refl _ _),fun _ _ _=>rfl,fun _ _ _ h _=>h⟩,q1,hY,fun b hb=>by cases hb⟩
 ·rintro e W' ⟨hv,⟨p,g',h',a,q,y,z⟩|⟨g',h',a,q,z⟩⟩
  ·exact ⟨hv,g',h',a,q,.inl y⟩
  ·exact ⟨hv,g',h',a,q,.inr z⟩
inductive IsVls:List Ty→List PVl→List Tm→Prop
 | nil:IsVls [] [] []
 | snoc {g:List Ty} {l:List PVl} {ts:List Tm} {a:Ty} {v:PVl} {t:Tm}:IsVls g l ts→IsVl a v t→TyG a→tmSz t≤4096→IsVls (g++[a]) (l++[v]) (ts++[t])
theorem IsVls.len {g:List Ty} {l:List PVl} {ts:List Tm} (h:IsVls g l ts):l.length=g.length∧ts.length=g.length:=by
 induction h with
 | nil=>exact ⟨rfl,rfl⟩
 | snoc _ _ _ _ ih=>simp [ih.1,ih.2]
theorem IsVls.at {g:List Ty} {l:List PVl} {ts:List Tm} (h:IsVls g l ts):∀ i,i<g.length→∃ a v t,g[i]? = some a∧l[i]? = some v∧ts[i]? = some t∧IsVl a v t∧TyG a∧tmSz t≤4096:=by
 induction h with
 | nil=>intro i hi;simp at hi
 | @snoc g l ts a v t hs hv ha hz ih =>
  intro i hi
  obtain ⟨l1,l2⟩:=hs.len
  by_cases hlt:i<g.length
  ·obtain ⟨a',v',t',h1,h2,h3,h4⟩:=ih i hlt
   exact ⟨a',v',t',by rw [List.getElem?_append_left hlt];exact h1,by rw [List.getElem?_append_left (by omega)];exact h2,by rw [List.getElem?_append_left (by omega)];exact h3,h4⟩
  ·obtain rfl:i=g.length:=by simp at hi;omega
   exact ⟨a,v,t,by simp,by rw [← l1];simp,by rw [← l2];simp,hv,ha,hz⟩
def holdsR (lim:Nat) (f:Fm) (ts:List Tm):Ans:=if (putsR f ts.reverse).2 != 0 then (false,0,(putsR f ts.reverse).2) else dA lim (putsR f ts.reverse).1
theorem take_rev {ts:List Tm} {i:Nat} {t:Tm} (h:ts[i]? = some t):(ts.take (i+1)).reverse=t::(ts.take i).reverse:=by
 rw [List.take_add_one,h];simp
theorem take_ty {g:List Ty} {i:Nat} {t:Ty} (h:g[i]? = some t):g.take (i+1)=g.take i++[t]:=by
 rw [List.take_add_one,h];rfl
def PlainTy (t:Ty):Prop:=t=tNat∨t=tList∨t=tUnit∨t=tPair tNat tList∨t=tPair tNat tNat
theorem PlainTy.mk {t:Ty} (h:PlainTy t):MkTy 1 t:=by
 rcases h with rfl|rfl|rfl|rfl|rfl
 ·exact .nat
 ·exact .list
 ·exact .unit
 ·exact .pair .nat .list
 ·exact .pair .nat .nat
theorem PlainTy.G {t:Ty} (h:PlainTy t):TyG t:=h.mk.G (by omega)
theorem alloc_setRow (w:World) (a b:Array Value) (e:TypeId):(w.alloc (.cells a e)).setRow w.heap.size b=w.alloc (.cells b e):=by
 unfold World.setRow World.alloc
 simp only
 congr 1
 apply Array.ext
 ·simp
 ·intro i h1 h2
  simp only [Array.size_modify,Array.size_push] at h1
  rw [Array.getElem_modify]
  by_cases hi:w.heap.size=i
  ·subst hi;simp
  ·simp [hi,Array.getElem_push,show i<w.heap.size by omega]
theorem setRow_comm (w:World) {i j:Nat} (hij:i≠j) (a b:Array Value):(w.setRow i a).setRow j b=(w.setRow j b).setRow i a:=by
 unfold World.setRow
 simp only
 congr 1
 apply Array.ext
 ·simp
 ·intro k h1 h2
  simp only [Array.getElem_modify]
  by_cases hi:i=k
  ·subst hi;simp [Ne.symm hij]
  ·by_cases hj:j=k
   ·subst hj;simp [hi]
   ·simp [hi,hj]
def spliceA (vs:Array Value) (p:Nat) (xs:Array Value):Array Value:=(vs.toList.take p++xs.toList++vs.toList.drop (p+xs.size)).toArray
theorem spliceA_size {vs xs:Array Value} {p:Nat} (h:p+xs.size≤vs.size):(spliceA vs p xs).size=vs.size:=by
 unfold spliceA;simp;omega
theorem spliceA_lo {vs xs:Array Value} {p q:Nat} (h:p+xs.size≤vs.size) (hq:q<p):(spliceA vs p xs)[q]? = vs[q]? := by
 unfold spliceA
 rw [List.append_assoc]
 simp only [List.getElem?_toArray]
 rw [List.getElem?_append_left (by simp;omega),List.getElem?_take,if_pos hq]
 simp
theorem spliceA_mid {vs xs:Array Value} {p q:Nat} (h:p+xs.size≤vs.size) (hq:q<xs.size):(spliceA vs p xs)[p+q]? = xs[q]? := by
 have el:(vs.toList.take p).length=p:=by simp;omega
 unfold spliceA
 rw [List.append_assoc]
 simp only [List.getElem?_toArray]
 rw [List.getElem?_append_right (by omega),el,List.getElem?_append_left (by simp;omega)]
 rw [show p+q - p=q by omega]
 simp
theorem spliceA_two {vs xs ys:Array Value} {p:Nat} (h:p+xs.size≤vs.size) (hs:xs.size=ys.size):spliceA (spliceA vs p xs) p ys=spliceA vs p ys:=by
 apply Array.ext'
 unfold spliceA
 have el:(vs.toList.take p).length=p:=by simp;omega
 have ex:(xs.toList).length=ys.size:=by simpa using hs
 simp only [List.append_assoc]
 have e1:List.take p (vs.toList.take p++(xs.toList++vs.toList.drop (p+xs.size)))=vs.toList.take p:=by
  rw [List.take_append_of_le_length (by omega),List.take_take,Nat.min_self]
 have e2:List.drop (p+ys.size) (vs.toList.take p++(xs.toList++vs.toList.drop (p+xs.size)))=vs.toList.drop (p+ys.size):=by
  rw [List.drop_append,el,List.drop_of_length_le (by omega),List.nil_append,show p+ys.size - p=ys.size by omega,List.drop_append,List.drop_of_length_le (by omega),ex,Nat.sub_self,List.drop_zero,List.nil_append,hs]
 rw [e1,e2]
section
variable {P:Program} {env:Nat→Option (List V)} {g:G} {w:World} {h:H} {ρc:Operand→Value} (r:Rel env g w h)
include r
theorem app_raw {o:Oper} {x y:Operand} {t:TypeId} {i:TyI} (ho:o.op=.call { callee:=.builtin .append,args:=#[x,y],argTypes:=#[t,t] }) (hT:tyi P t=some i) (hk1:i.kind=4) (hk3:i.esize≠0) (hk4:i.ezero.length=i.esize)
  {c:Cap} {es:List (List V)} (hx:RV g w (ρc x) (.sl c es)) (hes':∀ e∈es,e.length=i.esize) {c0:Cap} {zs:List V} (hy:RV g w (ρc y) (.sl c0 [zs])) (hzs:zs.length=i.esize) (hz1:zs.all oneV=true)
  (hk8:(es.length+1) * i.ebytes≤140737488355328) (hk9:es.length+1≤140737488355328) {nid:Id} (hn:h nid=none) (hcc:c=.full∨∃ id,c=.own id∧h id=some (.tok es.length i.esize)) :
  ∃ id b off cap W1 vs1 ty,((c=.full∧id=nid)∨c=.own id)∧(execOp ρc o).run P w=.ok (.value (.slice (some ⟨b,off,none⟩) (es.length+1) cap)) W1∧W1.heap[b]? = some (.cells vs1 ty (0,0)) ∧
   off+es.length * i.esize+i.esize≤vs1.size∧(∀ j cs,h j=some (.box cs)→g.loc j≠b∧j≠id∧W1.heap[g.loc j]? = w.heap[g.loc j]?)∧w.heap.size≤W1.heap.size ∧
   ∀ (xs:Array Value) (e:List V),RVL g w xs e→e.length=i.esize→∃ g',Ext g w g' (W1.setRow b (spliceA vs1 (off+es.length * i.esize) xs))∧Rel env g' (W1.setRow b (spliceA vs1 (off+es.length * i.esize) xs)) (hset h id (.tok (es.length+1) i.esize)) ∧
    RV g' (W1.setRow b (spliceA vs1 (off+es.length * i.esize) xs)) (.slice (some ⟨b,off,none⟩) (es.length+1) cap) (.sl (.own id) (es++[e])):=by
 obtain ⟨inf,d,z,i1,i2,i0,is,ib,ia,iz,_,ik4,_,_,_,_,_,iez⟩:=tyi_inv hT
 obtain ⟨e,rfl,hes,heb,_⟩:=ik4 hk1
 obtain ⟨ie,de,he1,he2,he3⟩:=szOf_some (P:=P) (t:=e) (by rw [← hes];exact hk3)
 have hez:=(iez e (.inl rfl)).2 ie he1
 have hsz:ie.size=i.esize:=by rw [he3,hes]
 obtain ⟨ze,hze,hzel⟩:∃ ze,ie.zero=some ze∧ze.cells.size=i.esize:=by
  cases hz0:ie.zero with
  | none=>rw [hz0] at hez;rw [hez] at hk4;simp at hk4;exact absurd hk4.symm hk3
  | some ze=>rw [hz0] at hez;rw [hez] at hk4;exact ⟨ze,rfl,by simpa using hk4⟩
 have hbytes:ie.bytes=i.ebytes:=by rw [heb];simp [bytesOf,he1]
 cases hcx:ρc x<;>rw [hcx] at hx<;>cases hx
 rename_i a cap k cs hke hrs hruns hcaps hccs
 cases hcy:ρc y<;>rw [hcy] at hy<;>cases hy
 rename_i a2 cap2 k2 cx hkx hrx hrunx hcapx hccx
 have hruns':es≠[]→∃ b off,a=some ⟨b,off,none⟩∧off+es.length * i.esize≤g.lim b∧∀ j,j<es.length * i.esize→w.cell? ⟨b,off+j,none⟩=some (cs j):=by
  intro hne
  have:k=i.esize:=by
   cases es with
   | nil=>exact absurd rfl hne
   | cons e0 _=>rw [← hke e0 (by simp),hes' e0 (by simp)]
  rw [← this];exact hruns hne
 have hk2':k2=i.esize:=by rw [← hkx zs (by simp),hzs]
 subst hk2'
 simp only [List.length_cons,List.length_nil,Nat.zero_add,Nat.one_mul] at hrunx hcapx
 have hrunx':[zs]≠[]→∃ b off,a2=some ⟨b,off,none⟩∧off+[zs].length * i.esize≤g.lim b∧∀ j,j<[zs].length * i.esize→w.cell? ⟨b,off+j,none⟩=some (cx j):=by
  intro hne
  obtain ⟨b,off,q1,q2,q3⟩:=hrunx hne
  exact ⟨b,off,q1,by simpa using q2,by simpa using q3⟩
 have hone:∀ v∈(((List.range i.esize).map cx).toArray).toList,v.oneCell'=true:=by
  intro v hv
  simp only [List.mem_map,List.mem_range] at hv
  obtain ⟨q,hq,rfl⟩:=hv
  have hq':q<[zs].flatten.length:=by simp;omega
  rw [List.all_eq_true] at hz1
  exact oneCell_of (hrx q _ (List.getElem?_eq_getElem hq')) (hz1 _ (by have:=List.getElem_mem hq';simp only [List.flatten_cons,List.flatten_nil,List.append_nil] at this;simp))
 have hF1':=fun (w0:World) hw=>by
  have:=run_first (P:=P) (cap:=cap) hruns' w0 hw;rw [← hsz] at this;exact this
 have hF2':=fun (w0:World) hw=>by
  have:=run_first (P:=P) (cap:=cap2) hrunx' w0 hw;rw [← hsz] at this;exact this
 simp only [List.length_cons,List.length_nil,Nat.zero_add,Nat.one_mul] at hF2'
 have hmul:(es.length+1) * i.esize=es.length * i.esize+i.esize:=by rw [Nat.add_mul,Nat.one_mul]
 have hfl:=flat_len es i.esize hes'
 have hgrow:∀ id,(h id=none∨∃ n0 k0,h id=some (.tok n0 k0)∧n0<es.length+1)→cap<es.length+1→((c=.full∧id=nid)∨c=.own id)→∃ id b off cap W1 vs1 ty,((c=.full∧id=nid)∨c=.own id)∧(execOp ρc o).run P w=.ok (.value (.slice (some ⟨b,off,none⟩) (es.length+1) cap)) W1∧W1.heap[b]? = some (.cells vs1 ty (0,0)) ∧
   off+es.length * i.esize+i.esize≤vs1.size∧(∀ j cs,h j=some (.box cs)→g.loc j≠b∧j≠id∧W1.heap[g.loc j]? = w.heap[g.loc j]?)∧w.heap.size≤W1.heap.size ∧
   ∀ (xs:Array Value) (e:List V),RVL g w xs e→e.length=i.esize→∃ g',Ext g w g' (W1.setRow b (spliceA vs1 (off+es.length * i.esize) xs))∧Rel env g' (W1.setRow b (spliceA vs1 (off+es.length * i.esize) xs)) (hset h id (.tok (es.length+1) i.esize)) ∧
    RV g' (W1.setRow b (spliceA vs1 (off+es.length * i.esize) xs)) (.slice (some ⟨b,off,none⟩) (es.length+1) cap) (.sl (.own id) (es++[e])):=by
  intro id hid hlt hci
  have hnc:=nextcap_le (es.length+1) cap hlt
  have hcut:es.length+1≤es.length+1+w.tape w.drawn (.appendCap (es.length+1) cap e) % (9223372036854775808 - (es.length+1)):=Nat.le_add_right _ _
  generalize hq:w.tape w.drawn (.appendCap (es.length+1) cap e) % (9223372036854775808 - (es.length+1))=q at hcut
  obtain ⟨arr,harrd⟩:∃ arr:Array Value,arr=((List.range (es.length * ie.size)).map cs).toArray++((List.range ie.size).map cx).toArray++Builtin.zeroCells ze.cells q:=⟨_,rfl⟩
  have harr:arr.size=(es.length+1+q) * i.esize:=by
   rw [harrd]
   simp only [Array.size_append,zero_size,hzel,hsz]
   simp
   rw [Nat.add_mul,hmul]
  have hfit:0+es.length * i.esize+i.esize≤arr.size:=by rw [harr,Nat.add_mul,hmul];omega
  have hrun:(execOp ρc o).run P w=.ok (.value (.slice (some ⟨w.heap.size,0,none⟩) (es.length+1) (es.length+1+q))) (w.drew.alloc (.cells arr e)):=by
   have b1:¬ ((9223372036854775807:Int)<(es.length:Int)+1∧ie.bytes=0):=by omega
   have b2:¬ (281474976710656<Builtin.nextslicecap (es.length+1) cap * ie.bytes):=by
    rw [hbytes]
    have:Builtin.nextslicecap (es.length+1) cap * i.ebytes≤2 * (es.length+1) * i.ebytes:=Nat.mul_le_mul_right _ hnc
    rw [Nat.mul_assoc] at this;omega
   have b3:¬ (es.length+1≤cap):=by omega
   have f1:=hF1' w.drew (fun _=>rfl)
   have f2:=hF2' w.drew (fun _=>rfl)
   simp [execOp,ho,resolve,invoke,builtin,Builtin.append_,run_underlying i2,run_sizeOf' he1,hcx,hcy,Builtin.lenOf,typeInfo,he1,b3,Question.forced,Question.cut]
   rw [if_neg b1,if_neg b2,f1]
   simp only [Result.andThen_ok]
   rw [f2]
   have hq2:w.tape w.drawn (.appendCap (es.length+1) cap e) % (9223372036854775807 - es.length)=q:=by
    rw [← hq]
    congr 1
    omega
   simp [zeroValue,typeInfo,he1,hze,newRow,hq2,harrd]
   congr 2
   apply Array.ext'
   simp
  refine ⟨id,w.heap.size,0,es.length+1+q,_,arr,e,hci,hrun,World.alloc_heap_new w.drew _,hfit,fun j cs hj=>?_,by simp,fun xs ee hxs hee=>?_⟩
  ·have:=r.lt hj
   refine ⟨by omega,fun e=>?_,Go.RowKit.Below.heap_alloc w.drew _ _ this⟩
   subst e
   rcases hid with h1|⟨n0,k0,h1,_⟩<;>rw [h1] at hj<;>cases hj
  ·have hxl:xs.size=i.esize:=by rw [hxs.1,hee]
   have hfit':0+es.length * i.esize+xs.size≤arr.size:=by rw [hxl];exact hfit
   have harr2:(spliceA arr (0+es.length * i.esize) xs).size=(es.length+1+q) * i.esize:=by rw [spliceA_size hfit',harr]
   obtain ⟨g',hx',hr',hd',hb',hl'⟩:=grow r hid e harr2 hcut
   have hw:(w.drew.alloc (.cells arr e)).setRow w.heap.size (spliceA arr (0+es.length * i.esize) xs)=w.drew.alloc (.cells (spliceA arr (0+es.length * i.esize) xs) e):=alloc_setRow w.drew arr _ e
   rw [hw]
   refine ⟨g',hx',hr',?_⟩
   have hh:=rv_joined (g':=g') (w':=w.drew.alloc (.cells (spliceA arr (0+es.length * i.esize) xs) e)) (es:=es) (xs:=[ee]) (k:=i.esize) (cap:=es.length+1+q) (b:=w.heap.size) (off:=0) (cs:=cs) (cx:=fun j=>(xs[j]?).getD undef) (id:=id)
    hes' (by simpa using hee) (by simp) (by rw [hl'];simp) ?_ ?_ (fun i v hv=>(hrs i v hv).mono hx') ?_ hd' hb'
   ·simpa using hh
   ·intro q hq
    show (w.drew.alloc _).cell? ⟨w.drew.heap.size,0+_,none⟩=_
    rw [World.cell?_alloc_new,spliceA_lo hfit' (by omega),harrd]
    simp only [hsz,Nat.zero_add]
    rw [Array.getElem?_append_left (by simp;omega),Array.getElem?_append_left (by simp;omega)]
    simp [hq]
   ·intro q hq
    simp only [List.length_cons,List.length_nil,Nat.zero_add,Nat.one_mul] at hq
    show (w.drew.alloc _).cell? ⟨w.drew.heap.size,0+_,none⟩=_
    rw [World.cell?_alloc_new,← Nat.add_assoc,spliceA_mid hfit' (by omega)]
    have:q<xs.size:=by omega
    simp [this]
   ·intro j v hv
    simp only [List.flatten_cons,List.flatten_nil,List.append_nil] at hv
    obtain ⟨c1,hc1,hc2⟩:=hxs.at hv
    simp only [hc1,Option.getD_some]
    exact hc2.mono hx'
 rcases hcc with rfl|⟨id,rfl,hid⟩
 ·have hc':cap=es.length:=hccs
  exact hgrow nid (.inl hn) (by omega) (.inl ⟨rfl,rfl⟩)
 ·obtain ⟨t1,t2',t3,t4⟩:=r.tok id _ _ hid
  obtain ⟨c1,c2',c3⟩:=hccs
  have hbuf:=c3 t1.symm
  rw [hbuf] at t4
  simp only at t4
  by_cases hle:es.length+1≤cap
  ·have hcap2:(g.buf id).cap=cap:=by rw [hbuf]
   obtain ⟨b,off,vs,s1,s2,s3,s4,s5⟩:=t3 (by omega)
   rw [hbuf] at s1 s3 s4
   simp only at s1 s3 s4
   subst s1
   subst t4
   obtain ⟨ty,s2'⟩:=s2
   have hfit:off+es.length * i.esize+i.esize≤vs.size:=by
    have:(es.length+1) * i.esize≤cap * i.esize:=Nat.mul_le_mul_right _ hle
    rw [hmul] at this;omega
   have hst:=run_storeCells_at (P:=P) b (off+es.length * i.esize) ty ((List.range i.esize).map cx) 0 vs w s2' (by simp;omega) (by simpa using hone)
   simp only [Nat.add_zero,List.length_map,List.length_range] at hst
   have hnew:(vs.toList.take (off+es.length * i.esize)++(List.range i.esize).map cx++vs.toList.drop (off+es.length * i.esize+i.esize)).toArray=spliceA vs (off+es.length * i.esize) ((List.range i.esize).map cx).toArray:=by
    unfold spliceA;simp
   rw [hnew] at hst
   have hzl:((List.range i.esize).map cx).toArray.size=i.esize:=by simp
   have hfz:off+es.length * i.esize+((List.range i.esize).map cx).toArray.size≤vs.size:=by rw [hzl];exact hfit
   have hrun:(execOp ρc o).run P w=.ok (.value (.slice (some ⟨b,off,none⟩) (es.length+1) cap)) (w.setRow b (spliceA vs (off+es.length * i.esize) ((List.range i.esize).map cx).toArray)):=by
    have f2:=hF2' w (fun _=>rfl)
    simp [execOp,ho,resolve,invoke,builtin,Builtin.append_,run_underlying i2,run_sizeOf' he1,hcx,hcy,Builtin.lenOf,hle]
    rw [f2]
    simp [add_off,hsz]
    rw [hst]
    simp
   have hne:∀ j cs,h j=some (.box cs)→g.loc j≠b:=fun j cs hj e2=>r.apart id j _ _ cs hid (by omega) hj ⟨b,off,none⟩ (by rw [hbuf]) e2.symm
   refine ⟨id,b,off,cap,_,_,ty,.inr rfl,hrun,setRow_heap w b vs _ ty (0,0) s2',by rw [spliceA_size hfz];exact hfit,fun j cs hj=>⟨hne j cs hj,?_,setRow_other w _ _ _ (hne j cs hj)⟩,by simp,fun xs ee hxs hee=>?_⟩
   ·rintro rfl
    rw [hid] at hj;cases hj
   ·have hxl:xs.size=i.esize:=by rw [hxs.1,hee]
    have hfit':off+es.length * i.esize+xs.size≤vs.size:=by rw [hxl];exact hfit
    rw [setRow_setRow,spliceA_two hfz (by rw [hzl,hxl])]
    obtain ⟨g',hx',hr',hd',hb',hl'⟩:=advance r hid (m:=1) (by omega) hbuf hle ⟨ty,s2'⟩ s3 s4 s5 (spliceA_size hfit') (fun q hq=>spliceA_lo hfit' hq)
    refine ⟨g',hx',hr',?_⟩
    have hh:=rv_joined (g':=g') (w':=w.setRow b (spliceA vs (off+es.length * i.esize) xs)) (es:=es) (xs:=[ee]) (k:=i.esize) (cap:=cap) (b:=b) (off:=off) (cs:=cs) (cx:=fun j=>(xs[j]?).getD undef) (id:=id)
     hes' (by simpa using hee) (by simpa using hle) (by rw [hl'];simp) ?_ ?_ (fun i v hv=>(hrs i v hv).mono hx') ?_ hd' hb'
    ·simpa using hh
    ·intro q hq
     rw [cell_setRow_same w b _ vs _ ty (0,0) s2',spliceA_lo hfit' (by omega)]
     have hne:es≠[]:=by intro e;subst e;simp at hq
     obtain ⟨b2,off2,e1,_,e3⟩:=hruns' hne
     cases e1
     have:=e3 q hq
     simpa [World.cell?,s2'] using this
    ·intro q hq
     simp only [List.length_cons,List.length_nil,Nat.zero_add,Nat.one_mul] at hq
     rw [cell_setRow_same w b _ vs _ ty (0,0) s2',← Nat.add_assoc,spliceA_mid hfit' (by omega)]
     have:q<xs.size:=by omega
     simp [this]
    ·intro j v hv
     simp only [List.flatten_cons,List.flatten_nil,List.append_nil] at hv
     obtain ⟨c1,hc1,hc2⟩:=hxs.at hv
     simp only [hc1,Option.getD_some]
     exact hc2.mono hx'
  ·exact hgrow id (.inr ⟨_,_,hid,by omega⟩) (by omega) (.inr rfl)
end
theorem aops_preD {P:Program} {env:Nat→Option (List V)} {ops:Array Oper} {draw:Bool} {gen reg:Nat} {K:St→Prop} :
  ∀ (rest:List Oper) (i:Nat) (log:List LogE) (σ:St) (done:List (Nat × Option Eff)),(∀ j o,rest[j]? = some o→ops[i+j]? = some o) →
   (∀ x∈done,∀ e,x.2=some e→e.reads=[]∨(x.1,e.reads,e.writes.map (·.1))∈log)→(∀ x∈done,∀ e,x.2=some e→∀ p∈e.writes,p.1∈e.reads) →
   aops P env ops draw gen reg rest i log K σ →
   ∃ l σe,l.map (·.1)=(List.range rest.length).map (i+·)∧Chain P env ops gen reg l σ σe∧K σe ∧
    (draw=true→l.Pairwise (PairOk ops)∧∀ x∈done,∀ y∈l,PairOk ops x y)
 | [],i,log,σ,done,_,_,_,h=>⟨[],σ,rfl,.nil σ,h,fun _=>⟨.nil,by simp⟩⟩
 | o :: rest,i,log,σ,done,hr,hl,hw,h=>by
  have ho:ops[i]? = some o:=by have:=hr 0 o;simpa using this
  have hr':∀ j p,rest[j]? = some p→ops[i+1+j]? = some p:=fun j p hp=>by
   have:=hr (j+1) p (by simpa using hp)
   rw [show i+(j+1)=i+1+j by omega] at this
   exact this
  have hidx:i::(List.range rest.length).map (i+1+·)=(List.range (o::rest).length).map (i+·):=by
   rw [List.length_cons,List.range_succ_eq_map,List.map_cons,List.map_map]
   simp only [Nat.add_zero]
   congr 1
   apply List.map_congr_left
   intro j _;simp;omega
  rcases aops_stp h with ⟨hg,h'⟩|⟨hg,e,hs,hlog,h'⟩
  ·obtain ⟨l,σe,h1,h2,h3,h4⟩:=aops_preD rest (i+1) log _ ((i,none)::done) hr'
    (fun x hx e he=>by
     rcases List.mem_cons.1 hx with rfl|hx
     ·simp at he
     ·exact hl x hx e he)
    (fun x hx e he=>by
     rcases List.mem_cons.1 hx with rfl|hx
     ·simp at he
     ·exact hw x hx e he) h'
   refine ⟨(i,none)::l,σe,by rw [List.map_cons,h1];exact hidx,.cons _ _ _ _ _ ⟨o,ho,hg,rfl⟩ h2,h3,fun hd=>?_⟩
   obtain ⟨h5,h6⟩:=h4 hd
   refine ⟨List.pairwise_cons.2 ⟨fun y hy=>h6 _ (by simp) y hy,h5⟩,fun x hx y hy=>?_⟩
   rcases List.mem_cons.1 hy with rfl|hy
   ·right
    unfold indepE
    cases x.2<;>trivial
   ·exact h6 x (by simp [hx]) y hy
  ·have hws:=stp_writes hs
   obtain ⟨l,σe,h1,h2,h3,h4⟩:=aops_preD rest (i+1) (addLog i e log) _ ((i,some e)::done) hr'
    (fun x hx e' he=>by
     unfold addLog
     rcases List.mem_cons.1 hx with rfl|hx
     ·cases he
      cases hre:e.reads with
      | nil=>exact .inl rfl
      | cons r rs=>right;simp
     ·rcases hl x hx e' he with h|h
      ·exact .inl h
      ·right
       split
       ·exact h
       ·simp [h])
    (fun x hx e' he=>by
     rcases List.mem_cons.1 hx with rfl|hx
     ·cases he;exact hws
     ·exact hw x hx e' he) h'
   refine ⟨(i,some e)::l,σe,by rw [List.map_cons,h1];exact hidx,.cons _ _ _ _ _ ⟨o,ho,hg,hs,rfl⟩ h2,h3,fun hd=>?_⟩
   obtain ⟨h5,h6⟩:=h4 hd
   refine ⟨List.pairwise_cons.2 ⟨fun y hy=>h6 _ (by simp) y hy,h5⟩,fun x hx y hy=>?_⟩
   rcases List.mem_cons.1 hy with rfl|hy
   ·unfold PairOk indepE
    cases hx2:x.2 with
    | none=>right;trivial
    | some ex =>
     simp only
     rcases hl x hx ex hx2 with he|hm
     ·right
      have hwx:=hw x hx ex hx2
      refine ⟨fun p hp=>?_,fun p hp=>?_⟩
      ·have:=hwx p hp;rw [he] at this;simp at this
      ·rw [he];simp
     ·rcases logOk_spec (hlog hd) _ _ _ hm with h|⟨ha,hb⟩
      ·exact .inl h
      ·right
       exact ⟨fun p hp=>hb p.1 (List.mem_map.2 ⟨p,hp,rfl⟩),ha⟩
   ·exact h6 x (by simp [hx]) y hy
def tailOk (ops:Array Oper) (t0:Nat):Bool:=(List.range ops.size).all fun i=>decide (i<t0)||(List.range t0).all fun j=>(ops[i]?).elim true fun o=>o.after.any fun e=>Region.binds .any e&&e.on==j
theorem tailOk_spec {ops:Array Oper} {t0:Nat} (h:tailOk ops t0=true) {i:Nat} {o:Oper} (hi:t0≤i) (ho:ops[i]? = some o) {j:Nat} (hj:j<t0):∃ e∈o.after,Region.binds .any e=true∧e.on=j:=by
 unfold tailOk at h
 rw [List.all_eq_true] at h
 have h1:=h i (List.mem_range.2 (Array.getElem?_eq_some_iff.1 ho).1)
 rw [Bool.or_eq_true] at h1
 rcases h1 with h1|h1
 ·simp at h1;omega
 ·rw [List.all_eq_true] at h1
  have h2:=h1 j (List.mem_range.2 hj)
  rw [ho] at h2
  simp only [Option.elim_some,Array.any_eq_true,Bool.and_eq_true,beq_iff_eq] at h2
  obtain ⟨k,hk,h3,h4⟩:=h2
  exact ⟨_,Array.getElem_mem hk,h3,h4⟩
def frontL (n t0:Nat):Array Bool:=((List.range n).map fun i=>decide (i<t0)).toArray
theorem frontL_of {listed:Array Bool} {n t0:Nat} (hs:listed.size=n) (h:∀ i,i<n→(listed.getD i true=false↔t0≤i)):listed=frontL n t0:=by
 apply Array.ext
 ·simp [frontL,hs]
 ·intro i h1 h2
  have:=h i (by omega)
  simp [h1] at this
  simp only [frontL,List.getElem_toArray,List.getElem_map,List.getElem_range]
  by_cases hi:t0≤i
  ·have e:=this.2 hi
   rw [e];simp;omega
  ·cases e:listed[i] with
   | false=>exact absurd (this.1 e) hi
   | true=>simp;omega
section
variable {F:Fence} (hF:∀ f,F.fn f) (hdp:F.depth=none) {m:Nat} {ds:List Deferred}
variable {P:Program} (hcl:∀ k args w R,Calls P k args w R→CallsIn F (m - 1) P k args w R)
variable {env:Nat→Option (List V)} {ops:Array Oper} {gen reg n:Nat} (hn:dstOk n ops=true) (hok:drawOk ops=true)
include hF hdp hcl hn hok
theorem chain_preIn {t0:Nat} (ht:tailOk ops t0=true) (hle:t0≤ops.size) {Q:Exit→Act→World→Prop} {σe:St} {g0:G} {w0:World}
  (hk:∀ fuel g' a' w',ops.size - t0≤fuel→Ext g0 w0 g' w'→RelD ds env n g' w' a' σe→wpAnyIn F m P .any ops Q fuel (frontL ops.size t0) a' w') :
  ∀ (fuel:Nat) (l:List (Nat × Option Eff)) (listed:Array Bool) (σ:St) (g:G) (w:World) (a:Act),l.length+(ops.size - t0)≤fuel→listed.size=ops.size →
   (∀ i,(∃ x∈l,x.1=i)↔(i<t0∧listed.getD i true=false))→(∀ i,t0≤i→i<ops.size→listed.getD i true=false)→l.Pairwise (fun x y=>x.1<y.1)→l.Pairwise (PairOk ops) →
   (∀ j o,ops[j]? = some o→listed.getD j false=true→∀ e∈o.after,Region.binds .any e=true→listed.getD e.on false=true) →
   Chain P env ops gen reg l σ σe→Ext g0 w0 g w→RelD ds env n g w a σ→wpAnyIn F m P .any ops Q fuel listed a w:=by
 obtain ⟨htab,hsp⟩:=drawOk_spec hok
 intro fuel
 induction fuel with
 | zero =>
  intro l listed σ g w a hl hsz hm htl hp hpo hc hch hx r
  have:l=[]:=List.eq_nil_of_length_eq_zero (by omega)
  subst this
  cases hch
  have e:listed=frontL ops.size t0:=frontL_of hsz fun i hi=>⟨fun h=>Nat.le_of_not_lt fun hlt=>by
   obtain ⟨x,hx,_⟩:=(hm i).2 ⟨hlt,h⟩;simp at hx,fun h=>htl i h hi⟩
  rw [e]
  exact hk 0 g a w (by omega) hx r
 | succ fuel ih =>
  intro l listed σ g w a hl hsz hm htl hp hpo hc hch hx r
  cases l with
  | nil =>
   cases hch
   have e:listed=frontL ops.size t0:=frontL_of hsz fun i hi=>⟨fun h=>Nat.le_of_not_lt fun hlt=>by
    obtain ⟨x,hx,_⟩:=(hm i).2 ⟨hlt,h⟩;simp at hx,fun h=>htl i h hi⟩
   rw [e]
   exact hk (fuel+1) g a w (by simpa using hl) hx r
  | cons x0 l0 =>
  have hx0:=(hm x0.1).1 ⟨x0,by simp,rfl⟩
  have hx0sz:x0.1<ops.size:=by omega
  have hrd:x0.1∈Region.ready .any ops listed:=by
   rw [mem_ready]
   refine ⟨hx0.2,ops[x0.1]'hx0sz,Array.getElem?_eq_getElem hx0sz,fun e he hb=>?_⟩
   have hlt:=(hsp x0.1 _ (Array.getElem?_eq_getElem hx0sz)).1 e he hb
   cases hq:listed.getD e.on false with
   | true=>rfl
   | false =>
    have hsz':e.on<listed.size:=by omega
    have:listed.getD e.on true=false:=by
     simp [hsz'] at hq ⊢;exact hq
    obtain ⟨y,hy,e1⟩:=(hm e.on).2 ⟨by omega,this⟩
    rcases List.mem_cons.1 hy with rfl|hy
    ·omega
    ·have:=(List.pairwise_cons.1 hp).1 y hy;omega
  refine ⟨fun hr=>by rw [hr] at hrd;simp at hrd,fun i hi=>?_⟩
  ·have hi':=mem_ready.1 hi
   obtain ⟨h1,o,ho,hd⟩:=hi'
   have hisz:i<ops.size:=(Array.getElem?_eq_some_iff.1 ho).1
   have hit:i<t0:=by
    refine Nat.lt_of_not_le fun hge=>?_
    obtain ⟨e,he,hb,hon⟩:=tailOk_spec ht hge ho hx0.1
    have h2:=hd e he hb
    rw [hon] at h2
    have h3:=hx0.2
    have hsz':x0.1<listed.size:=by omega
    simp [hsz'] at h2 h3
    rw [h2] at h3;exact Bool.noConfusion h3
   obtain ⟨x,hxl,rfl⟩:=(hm i).2 ⟨hit,h1⟩
   obtain ⟨pre,post,hpp⟩:=List.append_of_mem hxl
   rw [hpp] at hl hm hp hpo hch
   have hpull:=pull (P:=P) (env:=env) (gen:=gen) (reg:=reg) ho pre post σ σe (fun y hy=>by
    have hy':=(hm y.1).1 ⟨y,by simp [hy],rfl⟩
    have hysz:y.1<ops.size:=by omega
    have hlt:y.1<x.1:=(List.pairwise_append.1 hp).2.2 y hy x (by simp)
    have hpk:PairOk ops y x:=(List.pairwise_append.1 hpo).2.2 y hy x (by simp)
    have hnord:ordB ops y.1 x.1≠true:=by
     intro hb
     have:=ord_listed htab hc x.1 o ho hd y.1 hysz hb
     have h2:=hy'.2
     have hsz':y.1<listed.size:=by rw [hsz];exact hysz
     simp [hsz'] at this h2
     rw [this] at h2;exact Bool.noConfusion h2
    refine ⟨ops[y.1]'hysz,Array.getElem?_eq_getElem hysz,?_,?_⟩
    ·exact ((hsp x.1 o ho).2 y.1 _ hlt (Array.getElem?_eq_getElem hysz)).resolve_left hnord
    ·exact hpk.resolve_left hnord) hch
   cases hpull with
   | cons _ _ _ σ1 _ hs t =>
    refine cstep_wpIn hF hdp hcl hn hs r fun g' a' w' hx' r'=>?_
    have hsub:(pre++post).Sublist (pre++x::post):=List.Sublist.append_left (List.sublist_cons_self x post) pre
    refine ih (pre++post) (listed.setIfInBounds x.1 true) σ1 g' w' a' (by simp at hl ⊢;omega) (by simpa using hsz) ?_ ?_ (hp.sublist hsub) (hpo.sublist hsub) ?_ t (hx.trans hx') r'
    ·intro i
     constructor
     ·rintro ⟨y,hy,rfl⟩
      have hy2:=(hm y.1).1 ⟨y,hsub.subset hy,rfl⟩
      have hne:x.1≠y.1:=by
       rcases List.mem_append.1 hy with hy|hy
       ·have:=(List.pairwise_append.1 hp).2.2 y hy x (by simp);omega
       ·have:=(List.pairwise_cons.1 (List.pairwise_append.1 hp).2.1).1 y hy;omega
      exact ⟨hy2.1,by rw [getD_set_ne true hne];exact hy2.2⟩
     ·rintro ⟨hi1,hi2⟩
      have hne:x.1≠i:=by
       intro e;subst e
       have:x.1<listed.size:=by rw [hsz];exact hisz
       simp [this] at hi2
      rw [getD_set_ne true hne] at hi2
      obtain ⟨y,hy,rfl⟩:=(hm i).2 ⟨hi1,hi2⟩
      rcases List.mem_append.1 hy with hy|hy
      ·exact ⟨y,by simp [hy],rfl⟩
      ·rcases List.mem_cons.1 hy with rfl|hy
       ·exact absurd rfl hne
       ·exact ⟨y,by simp [hy],rfl⟩
    ·intro i hi1 hi2
     rw [getD_set_ne true (by omega)]
     exact htl i hi1 hi2
    ·intro j o' ho' hj e he hb
     by_cases hjx:x.1=j
     ·subst hjx
      rw [ho] at ho';cases ho'
      exact getD_set_true (hd e he hb)
     ·rw [getD_set_ne false hjx] at hj
      exact getD_set_true (hc j o' ho' hj e he hb)
end
section
variable {F:Fence} (hF:∀ f,F.fn f) {m:Nat} {P:Program} {ops:Array Oper}
include hF
theorem plain_wpIn {o:Oper} {a:Act} {w:World} {K:Act→World→Prop} {Q:Exit→Act→World→Prop} {v:Value} {w':World} (hnd:∀ c,o.op≠.defer c)
  (hrun:(execOp a.eval o).run P w=.ok (.value v) w'∨((execOp a.eval o).run P w=.ok .skip w'∧v=undef)) (h:K (a.put o.dst v) w'):o.wpIn F m P a w K Q:=by
 refine ⟨fun f _=>hF f,?_⟩
 rw [Oper.semAt_plain F _ _ hnd]
 rcases hrun with hr|⟨hr,rfl⟩
 ·rw [hr];exact h
 ·rw [hr];exact h
theorem any_one {i:Nat} {o:Oper} {a:Act} {w:World} {Q:Exit→Act→World→Prop} {fuel:Nat} {listed:Array Bool} {v:Value} {w':World} (hr:i∈Region.ready .any ops listed) (ho:ops[i]? = some o) (hg:o.guard=none) (hnd:∀ c,o.op≠.defer c)
  (hrun:(execOp a.eval o).run P w=.ok (.value v) w'∨((execOp a.eval o).run P w=.ok .skip w'∧v=undef)) (h:wpAnyIn F m P .any ops Q fuel (listed.setIfInBounds i true) (a.put o.dst v) w') :
  wpOpIn F m P ops Q i (wpAnyIn F m P .any ops Q fuel (listed.setIfInBounds i true)) a w:=by
 unfold wpOpIn
 rw [ho]
 have hw:Region.wanted o (yielded ops a.tmps)=true:=by unfold Region.wanted;rw [hg]
 simp only [hw,if_true]
 exact plain_wpIn hF hnd hrun h
end
theorem eval_put_ne {a:Act} {d t:Nat} {v:Value} (h:t≠d):(a.put (some d) v).eval (.tmp t)=a.eval (.tmp t):=by
 show (a.tmps.setIfInBounds d v).getD t undef=a.tmps.getD t undef
 simp [Array.getD_eq_getD_getElem?,Array.getElem?_setIfInBounds,Ne.symm h]
theorem eval_put_eq {a:Act} {d:Nat} {v:Value} (h:d<a.tmps.size):(a.put (some d) v).eval (.tmp d)=v:=by
 show (a.tmps.setIfInBounds d v).getD d undef=v
 simp [Array.getD_eq_getD_getElem?,Array.getElem?_setIfInBounds,h]
theorem run_indexRaw {P:Program} {o:Oper} {t:TypeId} {x ix:Operand} {ρc:Operand→Value} {w:World} (ho:o.op=.indexAddr t x ix) {i:TyI} (hT:tyi P t=some i) (h4:i.kind=4) (hK:i.esize≠0)
  {b off len cap n:Nat} (hx:ρc x=.slice (some ⟨b,off,none⟩) len cap) {k:IntKind} (hi:ρc ix=.int k n) (hlt:n<len) :
  (execOp ρc o).run P w=.ok (.value (.pointer (some ⟨b,off+n * i.esize,none⟩))) w:=by
 obtain ⟨inf,d,z,h1,h2,h0,_,_,_,hz,_,hk4,hk5,_⟩:=tyi_inv hT
 obtain ⟨e,rfl,hes,_,_⟩:=hk4 h4
 obtain ⟨ie,de,he1,he2,he3⟩:=szOf_some (P:=P) (t:=e) (by rw [← hes];exact hK)
 simp [execOp,ho,Instr.indexAt,hi,hx,asIntOf,run_underlying h2,run_sizeOf' he1,add_off,hes,he3]
 intro hge;omega
theorem run_storeRaw {P:Program} {o:Oper} {t:TypeId} {x y:Operand} {ρc:Operand→Value} {w:World} (ho:o.op=.store t x y) {i:TyI} (hT:tyi P t=some i) {b p:Nat} (hx:ρc x=.pointer (some ⟨b,p,none⟩))
  {vs:Array Value} {ty:TypeId} (hb:w.heap[b]? = some (.cells vs ty (0,0))) (hsz:(ρc y).cells.size=i.size) (hfit:p+i.size≤vs.size) (hone:∀ v∈(ρc y).cells.toList,v.oneCell'=true) :
  (execOp ρc o).run P w=.ok .skip (w.setRow b (spliceA vs p (ρc y).cells)):=by
 obtain ⟨inf,d,z,h1,h2,h0,hs,_,ha,_⟩:=tyi_inv hT
 have hst:=run_storeCells_at (P:=P) b p ty (ρc y).cells.toList 0 vs w hb (by simp;omega) hone
 simp only [Nat.add_zero] at hst
 have e1:(ρc y).cells.size=inf.size:=by rw [hsz,hs]
 have e2:(vs.toList.take p++(ρc y).cells.toList++vs.toList.drop (p+(ρc y).cells.toList.length)).toArray=spliceA vs p (ρc y).cells:=by unfold spliceA;simp
 rw [e2] at hst
 simp [execOp,ho,Instr.storeAt,Instr.sureAddr,hx,storeVar,run_sizeOf' h1,e1]
 rw [hst]
 simp
structure TailReady (ops:Array Oper) (L:Array Bool):Prop where
 q0:Region.ready .any ops L=[5]
 q1:Region.ready .any ops (L.setIfInBounds 5 true)=[6,8]
 q2:Region.ready .any ops ((L.setIfInBounds 5 true).setIfInBounds 6 true)=[7,8]
 q3:Region.ready .any ops ((L.setIfInBounds 5 true).setIfInBounds 8 true)=[6]
 q4:Region.ready .any ops (((L.setIfInBounds 5 true).setIfInBounds 6 true).setIfInBounds 7 true)=[8]
 q5:Region.ready .any ops (((L.setIfInBounds 5 true).setIfInBounds 6 true).setIfInBounds 8 true)=[7]
 q6:Region.ready .any ops (((L.setIfInBounds 5 true).setIfInBounds 8 true).setIfInBounds 6 true)=[7]
 q7:Region.ready .any ops ((((L.setIfInBounds 5 true).setIfInBounds 6 true).setIfInBounds 7 true).setIfInBounds 8 true)=[]
 q8:Region.ready .any ops ((((L.setIfInBounds 5 true).setIfInBounds 6 true).setIfInBounds 8 true).setIfInBounds 7 true)=[]
 q9:Region.ready .any ops ((((L.setIfInBounds 5 true).setIfInBounds 8 true).setIfInBounds 6 true).setIfInBounds 7 true)=[]
structure TailOps (P:Program) (ops:Array Oper) (n:Nat) (t te:TypeId) (T Te:TyI) (ts ty tn tv tb d5 d6:Nat):Prop where
 o5:∃ o,ops[5]? = some o∧o.guard=none∧o.dst=some d5∧o.op=.call { callee:=.builtin .append,args:=#[.tmp ts,.tmp ty],argTypes:=#[t,t] }
 o6:∃ o,ops[6]? = some o∧o.guard=none∧o.dst=some d6∧o.op=.indexAddr t (.tmp d5) (.tmp tn)
 o7:∃ o,ops[7]? = some o∧o.guard=none∧o.dst=none∧o.op=.store te (.tmp d6) (.tmp tv)
 o8:∃ o,ops[8]? = some o∧o.guard=none∧o.dst=none∧o.op=.store t (.tmp tb) (.tmp d5)
 hT:tyi P t=some T
 hTe:tyi P te=some Te
 k4:T.kind=4
 sz:T.size=1
 ez:T.esize≠0
 ee:T.ezero.length=T.esize
 es:Te.size=T.esize
 d5n:d5<n
 d6n:d6<n
 n5:tn≠d5∧tv≠d5∧tb≠d5
 n6:d5≠d6∧tv≠d6∧tb≠d6
structure TailSt (σ:St) (T:TyI) (ts ty tn tv tb:Nat) (c c0:Cap) (es:List (List V)) (zs e:List V) (v0:V) (bid nid:Id):Prop where
 row:σ.tm ts=.sl c es
 place:σ.tm ty=.sl c0 [zs]
 len:σ.tm tn=.int .i64 (es.length:Nat)
 elt:σ.tm tv=.agg e
 box:σ.tm tb=.ptr bid 0
 at':σ.h bid=some (.box [v0])
 hes:∀ x∈es,x.length=T.esize
 hzs:zs.length=T.esize
 hz1:zs.all oneV=true
 he:e.length=T.esize
 he1:e.all oneV=true
 b8:(es.length+1) * T.ebytes≤140737488355328
 b9:es.length+1≤140737488355328
 new:σ.h nid=none
 own:c=.full∨∃ id,c=.own id∧σ.h id=some (.tok es.length T.esize)
def tailH (σ:St) (T:TyI) (es:List (List V)) (e:List V) (bid id:Id) (d5 d6:Nat):St :=
 ⟨upd (upd σ.tm (some d5) (.sl (.own id) (es++[e]))) (some d6) .undef,hset (hset σ.h id (.tok (es.length+1) T.esize)) bid (.box [.sl (.own id) (es++[e])])⟩
section
variable {F:Fence} (hF:∀ f,F.fn f) {m:Nat} {ds:List Deferred} {P:Program} {env:Nat→Option (List V)} {ops:Array Oper} {n:Nat}
include hF
theorem tail_grow {t te:TypeId} {T Te:TyI} {ts ty tn tv tb d5 d6:Nat} (hO:TailOps P ops n t te T Te ts ty tn tv tb d5 d6) {L:Array Bool} (hR:TailReady ops L)
  {σ:St} {c c0:Cap} {es:List (List V)} {zs e:List V} {v0:V} {bid nid:Id} (hS:TailSt σ T ts ty tn tv tb c c0 es zs e v0 bid nid)
  {g:G} {w:World} {a:Act} (r:RelD ds env n g w a σ) {Q:Exit→Act→World→Prop} {fuel:Nat} (hfuel:4≤fuel)
  (hQ:∀ id,((c=.full∧id=nid)∨c=.own id)→∀ a' g' w',Ext g w g' w'→RelD ds env n g' w' a' (tailH σ T es e bid id d5 d6)→Q .normal a' w') :
  wpAnyIn F m P .any ops Q fuel L a w:=by
 obtain ⟨f,rfl⟩:∃ f,fuel=f+1+1+1+1:=⟨fuel - 4,by omega⟩
 obtain ⟨q0,q1,q2,q3,q4,q5,q6,q7,q8,q9⟩:=hR
 obtain ⟨⟨p5,a5,g5,x5,y5⟩,⟨p6,a6,g6,x6,y6⟩,⟨p7,a7,g7,x7,y7⟩,⟨p8,a8,g8,x8,y8⟩,hT,hTe,k4,sz1,ez,ee,esz,d5n,d6n,⟨n51,n52,n53⟩,⟨n61,n62,n63⟩⟩:=hO
 obtain ⟨s1,s2,s3,s4,s5,s6,hes,hzs,hz1,he,he1,b8,b9,hnew,hown⟩:=hS
 have nd5:∀ c,p5.op≠.defer c:=by intro c hc;rw [y5] at hc;cases hc
 have nd6:∀ c,p6.op≠.defer c:=by intro c hc;rw [y6] at hc;cases hc
 have nd7:∀ c,p7.op≠.defer c:=by intro c hc;rw [y7] at hc;cases hc
 have nd8:∀ c,p8.op≠.defer c:=by intro c hc;rw [y8] at hc;cases hc
 have v1:=r.av (.tmp ts)
 have v2:=r.av (.tmp ty)
 have v3:=r.av (.tmp tn)
 have v4:=r.av (.tmp tv)
 have v5:=r.av (.tmp tb)
 simp only [av] at v1 v2 v3 v4 v5
 rw [s1] at v1;rw [s2] at v2;rw [s3] at v3;rw [s4] at v4;rw [s5] at v5
 have i3:a.eval (.tmp tn)=.int .i64 es.length:=by
  generalize a.eval (.tmp tn)=v at v3
  cases v3;rfl
 have i5:a.eval (.tmp tb)=.pointer (some ⟨g.loc bid,0,none⟩):=by
  generalize a.eval (.tmp tb)=v at v5
  cases v5;rfl
 have c4:RVL g w (a.eval (.tmp tv)).cells e:=rv_cells v4 (by simp [cellsOf])
 have hone:∀ v∈(a.eval (.tmp tv)).cells.toList,v.oneCell'=true:=by
  intro v hv
  obtain ⟨j,hj,ej⟩:=List.mem_iff_getElem.1 hv
  have hj':j<e.length:=by rw [← c4.1];simpa using hj
  have hxs:e[j]? = some e[j]:=by simp [hj']
  have hcs:(a.eval (.tmp tv)).cells[j]? = some v:=by
   have:(a.eval (.tmp tv)).cells.toList[j]? = some v:=by rw [List.getElem?_eq_getElem hj,ej]
   simpa using this
  have hrv:=c4.2 j v e[j] hcs hxs
  rw [List.all_eq_true] at he1
  exact oneCell_of hrv (he1 _ (List.getElem_mem hj'))
 have hsize:n≤a.tmps.size:=r.1.size
 obtain ⟨id,b,off,cap,W1,vs1,ty1,hid,run5,hb1,hfit,hbox,hWs,fin⟩:=app_raw r.1.rel (ρc:=a.eval) y5 hT k4 ez ee v1 hes v2 hzs hz1 b8 b9 hnew hown
 obtain ⟨w9,⟨ty9,hb9⟩,hs9,_,_,_⟩:=r.1.rel.box bid _ s6
 obtain ⟨hne9,hnid9,hk9⟩:=hbox bid _ s6
 obtain ⟨g',x',r',v'⟩:=fin _ e c4 he
 have hxl:(a.eval (.tmp tv)).cells.size=T.esize:=by rw [c4.1,he]
 obtain ⟨sv,hsv⟩:∃ sv:Value,sv=.slice (some ⟨b,off,none⟩) (es.length+1) cap:=⟨_,rfl⟩
 obtain ⟨pv,hpv⟩:∃ pv:Value,pv=.pointer (some ⟨b,off+es.length * T.esize,none⟩):=⟨_,rfl⟩
 rw [← hsv] at run5 v'
 have ev5:(a.put (some d5) sv).eval (.tmp d5)=sv:=eval_put_eq (by omega)
 have run6:∀ W,(execOp (a.put (some d5) sv).eval p6).run P W=.ok (.value pv) W:=fun W=>by
  rw [hpv]
  exact run_indexRaw y6 hT k4 ez (by rw [ev5,hsv]) (by rw [eval_put_ne n51];exact i3) (by omega)
 have hsz2:((a.put (some d5) sv).put (some d6) pv).eval (.tmp d6)=pv:=eval_put_eq (by show d6<(a.tmps.setIfInBounds d5 sv).size;simp;omega)
 have etv:((a.put (some d5) sv).put (some d6) pv).eval (.tmp tv)=a.eval (.tmp tv):=by rw [eval_put_ne n62,eval_put_ne n52]
 have etb:((a.put (some d5) sv).put (some d6) pv).eval (.tmp tb)=a.eval (.tmp tb):=by rw [eval_put_ne n63,eval_put_ne n53]
 have etb1:(a.put (some d5) sv).eval (.tmp tb)=a.eval (.tmp tb):=eval_put_ne n53
 have ed5:((a.put (some d5) sv).put (some d6) pv).eval (.tmp d5)=sv:=by rw [eval_put_ne n61,ev5]
 have run7:∀ W,W.heap[b]? = some (.cells vs1 ty1 (0,0))→(execOp ((a.put (some d5) sv).put (some d6) pv).eval p7).run P W=.ok .skip (W.setRow b (spliceA vs1 (off+es.length * T.esize) (a.eval (.tmp tv)).cells)):=fun W hW=>by
  have:=run_storeRaw (P:=P) (w:=W) y7 hTe (ρc:=((a.put (some d5) sv).put (some d6) pv).eval) (by rw [hsz2,hpv]) hW (by rw [etv,hxl,esz]) (by rw [esz];exact hfit) (by rw [etv];exact hone)
  rw [etv] at this
  exact this
 have hsc:sv.cells=#[sv]:=by rw [hsv];rfl
 have hso:sv.oneCell'=true:=by rw [hsv];rfl
 have hs9':w9.size=1:=hs9
 have hspl:spliceA w9 0 #[sv]=#[sv]:=by
  unfold spliceA
  apply Array.ext'
  have:(w9.toList.drop 1)=[]:=List.drop_of_length_le (by simp [hs9'])
  simp [this]
 have run8:∀ (ac:Act) W,ac.eval (.tmp tb)=a.eval (.tmp tb)→ac.eval (.tmp d5)=sv→W.heap[g.loc bid]? = some (.cells w9 ty9 (0,0))→(execOp ac.eval p8).run P W=.ok .skip (W.setRow (g.loc bid) #[sv]):=fun ac W h1 h2 hW=>by
  have:=run_storeRaw (P:=P) (w:=W) y8 hT (ρc:=ac.eval) (b:=g.loc bid) (p:=0) (by rw [h1,i5]) hW (by rw [h2,hsc,sz1];rfl) (by rw [sz1,hs9'];omega) (by rw [h2,hsc];simp [hso])
  rw [h2,hsc,hspl] at this
  exact this
 have hW1:W1.heap[g.loc bid]? = some (.cells w9 ty9 (0,0)):=by rw [hk9];exact hb9
 have hloc:g'.loc bid=g.loc bid:=(x'.dom bid ((r.1.rel.dom bid).2 (by rw [s6];simp))).2.1
 have hb':(hset σ.h id (.tok (es.length+1) T.esize)) bid=some (.box [v0]):=by rw [hset_other hnid9];exact s6
 obtain ⟨x'',r''⟩:=set_box r' hb' (vs:=#[sv]) (cs:=[.sl (.own id) (es++[e])]) ⟨rfl,fun j c1 v1 e1 e2=>by
  match j with
  | 0=>simp at e1 e2;subst e1;subst e2;exact v'
  | j+1=>simp at e2⟩
 rw [hloc] at x'' r''
 have hx3:=x'.trans x''
 have rf:RelD ds env n g' ((W1.setRow b (spliceA vs1 (off+es.length * T.esize) (a.eval (.tmp tv)).cells)).setRow (g.loc bid) #[sv]) ((a.put (some d5) sv).put (some d6) pv) (tailH σ T es e bid id d5 d6) :=
  (r.put hx3 (d:=some d5) (fun t ht=>by cases ht;exact d5n) r'' (v'.mono x'')).put (Ext.refl _ _) (d:=some d6) (fun t ht=>by cases ht;exact d6n) r'' (.undef _)
 have hend:=hQ id hid _ g' _ hx3 rf
 have e5:a.put p5.dst sv=a.put (some d5) sv:=by rw [x5]
 have e6:∀ ac:Act,ac.put p6.dst pv=ac.put (some d6) pv:=fun ac=>by rw [x6]
 have e7:∀ ac:Act,ac.put p7.dst undef=ac:=fun ac=>by rw [x7];rfl
 have e8:∀ ac:Act,ac.put p8.dst undef=ac:=fun ac=>by rw [x8];rfl
 refine ⟨fun h=>(by rw [q0] at h;cases h),fun i hi=>?_⟩
 rw [q0] at hi
 simp only [List.mem_cons,List.not_mem_nil,or_false] at hi
 subst hi
 refine any_one hF (by rw [q0];simp) a5 g5 nd5 (.inl run5) ?_
 rw [e5]
 refine ⟨fun h=>(by rw [q1] at h;cases h),fun i hi=>?_⟩
 rw [q1] at hi
 simp only [List.mem_cons,List.not_mem_nil,or_false] at hi
 rcases hi with rfl|rfl
 ·refine any_one hF (by rw [q1];simp) a6 g6 nd6 (.inl (run6 W1)) ?_
  rw [e6]
  refine ⟨fun h=>(by rw [q2] at h;cases h),fun i hi=>?_⟩
  rw [q2] at hi
  simp only [List.mem_cons,List.not_mem_nil,or_false] at hi
  rcases hi with rfl|rfl
  ·refine any_one hF (by rw [q2];simp) a7 g7 nd7 (.inr ⟨run7 W1 hb1,rfl⟩) ?_
   rw [e7]
   refine ⟨fun h=>(by rw [q4] at h;cases h),fun i hi=>?_⟩
   rw [q4] at hi
   simp only [List.mem_cons,List.not_mem_nil,or_false] at hi
   subst hi
   refine any_one hF (by rw [q4];simp) a8 g8 nd8 (.inr ⟨run8 _ _ etb ed5 (by rw [setRow_other _ _ _ _ hne9];exact hW1),rfl⟩) ?_
   rw [e8]
   exact wpAnyIn_done q7 hend f
  ·refine any_one hF (by rw [q2];simp) a8 g8 nd8 (.inr ⟨run8 _ _ etb ed5 hW1,rfl⟩) ?_
   rw [e8]
   refine ⟨fun h=>(by rw [q5] at h;cases h),fun i hi=>?_⟩
   rw [q5] at hi
   simp only [List.mem_cons,List.not_mem_nil,or_false] at hi
   subst hi
   refine any_one hF (by rw [q5];simp) a7 g7 nd7 (.inr ⟨run7 _ (by rw [setRow_other _ _ _ _ (Ne.symm hne9)];exact hb1),rfl⟩) ?_
   rw [e7,setRow_comm _ hne9]
   exact wpAnyIn_done q8 hend f
 ·refine any_one hF (by rw [q1];simp) a8 g8 nd8 (.inr ⟨run8 _ _ etb1 ev5 hW1,rfl⟩) ?_
  rw [e8]
  refine ⟨fun h=>(by rw [q3] at h;cases h),fun i hi=>?_⟩
  rw [q3] at hi
  simp only [List.mem_cons,List.not_mem_nil,or_false] at hi
  subst hi
  refine any_one hF (by rw [q3];simp) a6 g6 nd6 (.inl (run6 _)) ?_
  rw [e6]
  refine ⟨fun h=>(by rw [q6] at h;cases h),fun i hi=>?_⟩
  rw [q6] at hi
  simp only [List.mem_cons,List.not_mem_nil,or_false] at hi
  subst hi
  refine any_one hF (by rw [q6];simp) a7 g7 nd7 (.inr ⟨run7 _ (by rw [setRow_other _ _ _ _ (Ne.symm hne9)];exact hb1),rfl⟩) ?_
  rw [e7,setRow_comm _ hne9]
  exact wpAnyIn_done q9 hend f
end
theorem ARX_region_grow {c:Ctx} {x:XC} {gen:Nat} {k:List It} {σ:St} {id:Nat} {ops:Array Oper} (ok:XOk c.P x) (hm:c.P.follows .mixedOrders=true) (hok:okCode c.n (.region id ops true)=true)
  (ht:tailOk ops 5=true) (hsz:ops.size=9) (hR:TailReady ops (frontL 9 5)) {t te:TypeId} {T Te:TyI} {ts ty tn tv tb d5 d6:Nat} (hO:TailOps c.P ops c.n t te T Te ts ty tn tv tb d5 d6)
  (h:aops c.P c.env ops true gen id (ops.toList.take 5) 0 [] (fun σ1=>∃ cc c0 es zs e v0 bid nid,TailSt σ1 T ts ty tn tv tb cc c0 es zs e v0 bid nid ∧
   ∀ id',((cc=.full∧id'=nid)∨cc=.own id')→ARX c x gen k .normal (tailH σ1 T es e bid id' d5 d6)) σ):ARX c x gen (.code (.region id ops true)::k) .normal σ:=by
 intro g a w hx hX r
 simp only [okCode,Bool.and_eq_true,Bool.or_eq_true,Bool.not_eq_true'] at hok
 obtain ⟨hd,hdr⟩:=hok
 have hdk:drawOk ops=true:=by simpa using hdr
 obtain ⟨l,σe,h1,h2,⟨cc,c0,es,zs,e,v0,bid,nid,hS,h3⟩,h4⟩:=aops_preD (ops.toList.take 5) 0 [] σ [] (fun j o h=>by
  rw [List.getElem?_take] at h
  split at h
  ·simpa using h
  ·cases h) (by simp) (by simp) h
 have hl:l.map (·.1)=List.range 5:=by
  rw [h1,List.length_take]
  simp [hsz]
 have hx1:Ext g w g { w with drawn:=w.drawn+1 } :=
  ⟨rfl,rfl,rfl,Nat.le_refl _,fun _=>Nat.le_refl _,fun _ _ _=>rfl,fun _ _ h=>⟨rfl,h⟩,fun _ h=>⟨h,rfl,.inl rfl⟩,Nat.le_refl _⟩
 have hrel:Rel c.env g { w with drawn:=w.drawn+1 } σ.h:=by
  have q:=r.1.rel
  refine ⟨q.dom,q.top,fun id cs e=>?_,q.inj,fun id n k e=>?_,q.apart,q.apart2,q.limnew,fun k cs e=>(q.glob k cs e).mono hx1⟩
  ·obtain ⟨vs,h1,h2,h3,h4,h5⟩:=q.box id cs e
   exact ⟨vs,h1,h2,fun i c v x y=>(h3 i c v x y).mono hx1,h4,h5⟩
  ·obtain ⟨h1,h2,h3,h4⟩:=q.tok id n k e
   exact ⟨h1,h2,h3,h4⟩
 refine wpIn_region_any hm (chain_preIn ok.fn ok.dp ok.cl hd hdk ht (by omega) (g0:=g) (w0:=w) (Q:=postX c.P x.F x.E k) ?_ ops.size l _ σ g _ a ?_ (by simp) ?_ ?_ ?_ (h4 rfl).1 ?_ h2 hx1 ⟨⟨hrel,fun t=>(r.1.tm t).mono hx1,r.1.size,r.1.defers⟩,r.2⟩)
 ·intro fuel g' a' w' hf hx' r'
  rw [hsz] at hf ⊢
  exact tail_grow ok.fn hO hR hS r' hf fun id' hid a2 g2 w2 x2 r2=>h3 id' hid g2 a2 w2 ((hx.trans hx').trans x2) (ok.X _ _ _ _ (hx'.trans x2) hX) r2
 ·have:=congrArg List.length hl;simp at this;omega
 ·intro i
  have:(∃ x∈l,x.1=i)↔i∈l.map (·.1):=by simp
  rw [this,hl,List.mem_range]
  constructor
  ·intro h
   have hi':i<ops.size:=by omega
   exact ⟨h,by simp [hi']⟩
  ·exact fun h=>h.1
 ·intro i _ hi
  simp [hi]
 ·have:(l.map (·.1)).Pairwise (·<·):=by rw [hl];exact List.pairwise_lt_range
  rw [List.pairwise_map] at this
  exact this
 ·intro j o ho hj
  have hjl:j<ops.size:=(Array.getElem?_eq_some_iff.1 ho).1
  simp [hjl] at hj
theorem rel_tok {env:Nat→Option (List V)} {g:G} {w:World} {h:H} (r:Rel env g w h) {bid nid:Id} (K:Nat) (hb:h bid=some (.box [.sl .full []])) (hn:h nid=none) :
  ∃ g',Ext g w g' w∧Rel env g' w (hset (hset h nid (.tok 0 K)) bid (.box [.sl (.own nid) []])):=by
 obtain ⟨vs,hc,hs,hv,hl,hw⟩:=r.box bid _ hb
 have hs1:vs.size=1:=hs
 have h0:vs[0]? = some vs[0]:=Array.getElem?_eq_getElem (by omega)
 have hrv:=hv 0 _ _ h0 rfl
 obtain ⟨a,hA⟩:∃ a,vs[0]=.slice a 0 0:=by
  generalize vs[0]=c at hrv
  cases hrv with
  | sl a cap _ _ k cell hk hcap hrun hr hc =>
   have:cap=0:=hc
   subst this
   exact ⟨a,rfl⟩
 have hne:bid≠nid:=by rintro rfl;rw [hn] at hb;cases hb
 obtain ⟨g',hg'⟩:∃ g':G,g'={ g with buf:=fun i=>if i=nid then ⟨a,0,0,K⟩ else g.buf i,dom:=fun i=>if i=nid then true else g.dom i,top:=max g.top (nid.gen+1) }:=⟨_,rfl⟩
 have hbuf:∀ i,i≠nid→g'.buf i=g.buf i:=fun i hi=>by rw [hg'];show (if i=nid then _ else g.buf i)=_;rw [if_neg hi]
 have hbufn:g'.buf nid=⟨a,0,0,K⟩:=by rw [hg'];show (if nid=nid then _ else g.buf nid)=_;rw [if_pos rfl]
 have hdom:∀ i,i≠nid→g'.dom i=g.dom i:=fun i hi=>by rw [hg'];show (if i=nid then true else g.dom i)=_;rw [if_neg hi]
 have hdomn:g'.dom nid=true:=by rw [hg'];show (if nid=nid then true else g.dom nid)=_;rw [if_pos rfl]
 have elim:g'.lim=g.lim:=by rw [hg']
 have ewr:g'.wr=g.wr:=by rw [hg']
 have eloc:g'.loc=g.loc:=by rw [hg']
 have etop:g'.top=max g.top (nid.gen+1):=by rw [hg']
 clear hg'
 have hnn:∀ i,h i≠none→i≠nid:=fun i hi e=>hi (by rw [e];exact hn)
 have hx:Ext g w g' w:=by
  refine ⟨rfl,rfl,rfl,Nat.le_refl _,fun b=>by rw [elim];exact Nat.le_refl _,fun _ _ _=>rfl,fun b _ q=>⟨rfl,by rw [ewr];exact q⟩,fun i hi=>?_,by rw [etop];exact Nat.le_max_left _ _⟩
  have:=hnn i ((r.dom i).1 hi)
  exact ⟨by rw [hdom i this];exact hi,by rw [eloc],.inl (hbuf i this)⟩
 have hold:∀ i o,(hset (hset h nid (.tok 0 K)) bid (.box [.sl (.own nid) []])) i=some o→(i=bid∧o=.box [.sl (.own nid) []])∨(i=nid∧o=.tok 0 K)∨(i≠bid∧i≠nid∧h i=some o):=by
  intro i o e
  by_cases h1:i=bid
  ·subst h1;rw [hset_same] at e;exact .inl ⟨rfl,(by cases e;rfl)⟩
  ·rw [hset_other h1] at e
   by_cases h2:i=nid
   ·subst h2;rw [hset_same] at e;exact .inr (.inl ⟨rfl,(by cases e;rfl)⟩)
   ·rw [hset_other h2] at e;exact .inr (.inr ⟨h1,h2,e⟩)
 have hboxold:∀ i cs,(hset (hset h nid (.tok 0 K)) bid (.box [.sl (.own nid) []])) i=some (.box cs)→∃ cs0,h i=some (.box cs0):=by
  intro i cs e
  rcases hold i _ e with ⟨rfl,_⟩|⟨_,h2⟩|⟨_,_,h2⟩
  ·exact ⟨_,hb⟩
  ·cases h2
  ·exact ⟨_,h2⟩
 refine ⟨g',hx,?_⟩
 refine ⟨fun i=>?_,fun i hi=>?_,fun i cs e=>?_,fun i i' cs cs' e e' heq=>?_,fun i n k e=>?_,fun i i' n k cs e hlt e'=>?_,fun i i' n n' k k' e hlt e' hlt'=>?_,fun b q=>by rw [elim];exact r.limnew b q,fun k cs e=>(r.glob k cs e).mono hx⟩
 ·by_cases h1:i=bid
  ·subst h1
   rw [hset_same,hdom i hne]
   simp [(r.dom i),hb]
  ·rw [hset_other h1]
   by_cases h2:i=nid
   ·subst h2;rw [hset_same,hdomn];simp
   ·rw [hset_other h2,hdom i h2];exact r.dom i
 ·rw [etop]
  by_cases h2:i=nid
  ·subst h2;exact Nat.lt_of_lt_of_le (Nat.lt_succ_self _) (Nat.le_max_right _ _)
  ·refine Nat.lt_of_lt_of_le (r.top i ?_) (Nat.le_max_left _ _)
   by_cases h1:i=bid
   ·subst h1;rw [hb];simp
   ·rwa [hset_other h1,hset_other h2] at hi
 ·rcases hold i _ e with ⟨rfl,h2⟩|⟨_,h2⟩|⟨h1,h2,h3⟩
  ·cases h2
   refine ⟨vs,by rw [eloc];exact hc,by rw [hs1];rfl,fun j c v q1 q2=>?_,by rw [elim,eloc];exact hl,by rw [ewr,eloc];exact hw⟩
   match j with
   | 0 =>
    rw [h0] at q1
    simp at q1 q2
    subst q1;subst q2
    rw [hA]
    exact .sl a 0 (.own nid) [] K (fun _=>undef) (by simp) (by simp) (by simp) (by simp) ⟨hdomn,by simp,fun _=>hbufn⟩
   | j+1=>simp at q2
  ·cases h2
  ·obtain ⟨vs',q1,q2,q3,q4,q5⟩:=r.box i cs h3
   exact ⟨vs',by rw [eloc];exact q1,q2,fun j c v x y=>(q3 j c v x y).mono hx,by rw [elim,eloc];exact q4,by rw [ewr,eloc];exact q5⟩
 ·obtain ⟨c0,q0⟩:=hboxold i cs e
  obtain ⟨c1,q1⟩:=hboxold i' cs' e'
  rw [eloc] at heq
  exact r.inj i i' _ _ q0 q1 heq
 ·rcases hold i _ e with ⟨_,h2⟩|⟨rfl,h2⟩|⟨h1,h2,h3⟩
  ·cases h2
  ·cases h2
   rw [hbufn]
   exact ⟨rfl,Nat.le_refl _,fun q=>absurd q (Nat.lt_irrefl _),rfl⟩
  ·obtain ⟨q1,q2,q3,q4⟩:=r.tok i n k h3
   rw [hbuf i h2]
   refine ⟨q1,q2,fun q=>?_,q4⟩
   obtain ⟨b,off,vs',s1,s2,s3,s4,s5⟩:=q3 q
   exact ⟨b,off,vs',by rw [hbuf i h2];exact s1,s2,by rw [hbuf i h2];exact s3,by rw [hbuf i h2,elim];exact s4,by rw [ewr];exact s5⟩
 ·rcases hold i _ e with ⟨_,h2⟩|⟨rfl,h2⟩|⟨h1,h2,h3⟩
  ·cases h2
  ·cases h2;rw [hbufn] at hlt;exact absurd hlt (Nat.lt_irrefl _)
  ·obtain ⟨c1,q1⟩:=hboxold i' cs e'
   rw [hbuf i h2] at hlt ⊢
   rw [eloc]
   exact r.apart i i' n k c1 h3 hlt q1
 ·rcases hold i _ e with ⟨_,h2⟩|⟨rfl,h2⟩|⟨h1,h2,h3⟩
  ·cases h2
  ·cases h2;rw [hbufn] at hlt;exact absurd hlt (Nat.lt_irrefl _)
  ·rcases hold i' _ e' with ⟨_,h2'⟩|⟨rfl,h2'⟩|⟨h1',h2',h3'⟩
   ·cases h2'
   ·cases h2';rw [hbufn] at hlt';exact absurd hlt' (Nat.lt_irrefl _)
   ·rw [hbuf i h2] at hlt ⊢
    rw [hbuf i' h2'] at hlt' ⊢
    exact r.apart2 i i' n n' k k' h3 hlt h3' hlt'
theorem ARX_tok {c:Ctx} {x:XC} {gen:Nat} {k:List It} {e:Exit} {σ:St} (ok:XOk c.P x) (bid nid:Id) (K:Nat) (hb:σ.h bid=some (.box [.sl .full []])) (hn:σ.h nid=none)
  (h:ARX c x gen k e ⟨σ.tm,hset (hset σ.h nid (.tok 0 K)) bid (.box [.sl (.own nid) []])⟩):ARX c x gen k e σ:=by
 intro g a w hx hX r
 obtain ⟨g',x1,r'⟩:=rel_tok r.1.rel K hb hn
 exact h g' a w (hx.trans x1) (ok.X _ _ _ _ x1 hX) ⟨⟨r',fun t=>(r.1.tm t).mono x1,r.1.size,r.1.defers⟩,r.2⟩
def lns (F:Ty→List PVl):List Ty→List (List PVl)
 | []=>[[]]
 | t::ts=>(F t).flatMap fun v=>(lns F ts).map (v::·)
def rowsL (bs:List PVl) (L:List (List PVl)):List (List V):=L.map fun l=>[V.sl .any ((bs++l).map PVl.cells)]
theorem rowsL_len (bs:List PVl) (L:List (List PVl)):(rowsL bs L).length=L.length:=by simp [rowsL]
theorem rowsL_cons (F:Ty→List PVl) (bs:List PVl) (t:Ty) (ts:List Ty):rowsL bs (lns F (t::ts))=(F t).flatMap fun v=>rowsL (bs++[v]) (lns F ts):=by
 simp only [rowsL,lns,List.map_flatMap,List.map_map]
 congr 1
 funext v
 congr 1
 funext l
 simp
theorem rowsL_nil (F:Ty→List PVl) (bs:List PVl):rowsL bs (lns F [])=[[V.sl .any (bs.map PVl.cells)]]:=by simp [rowsL,lns]
theorem vals_isVl {b:Nat} (hb:b≤16) {t:Ty} (ht:PlT t):∀ v∈vals b t,∃ s,IsVl t v s∧tmSz s≤50 * tySz t:=by
 induction ht with
 | nat =>
  intro v hv
  have e:vals b tNat=valsN b:=by rw [tNat];rfl
  rw [e] at hv
  obtain ⟨n,hn,rfl⟩:=List.mem_map.1 hv
  have:=List.mem_range.1 hn
  exact ⟨_,.num n,by rw [tmSz_num,tySz_nat];omega⟩
 | list =>
  intro v hv
  have e:vals b tList=valsL b:=by rw [tList];rfl
  rw [e] at hv
  unfold valsL at hv
  have key:∀ l:List Nat,lsz l≤50→∃ s,IsVl tList (listP l) s∧tmSz s≤50 * tySz tList:=fun l hl=>⟨_,.list l,by rw [listT_sz,tySz_list];omega⟩
  rcases List.mem_append.1 hv with h|h
  ·rcases List.mem_cons.1 h with rfl|h
   ·exact key [] (by simp [lsz])
   ·obtain ⟨n,hn,rfl⟩:=List.mem_map.1 h
    have:=List.mem_range.1 hn
    exact key [n] (by simp [lsz];omega)
  ·obtain ⟨n,hn,h⟩:=List.mem_flatMap.1 h
   obtain ⟨m,hm,rfl⟩:=List.mem_map.1 h
   have:=List.mem_range.1 hn
   have:=List.mem_range.1 hm
   exact key [n,m] (by simp [lsz];omega)
 | unit =>
  intro v hv
  have e:vals b tUnit=[unitP]:=by rw [tUnit];rfl
  rw [e] at hv
  obtain rfl:=List.mem_singleton.1 hv
  exact ⟨_,.unit,by rw [tmSz_0,tySz_unit];omega⟩
 | @pair a c _ _ h1 h2 =>
  intro v hv
  have e:vals b (tPair a c)=valsP (vals b a) (vals b c):=by rw [tPair,vals]
  rw [e] at hv
  unfold valsP at hv
  obtain ⟨x,hx,h⟩:=List.mem_flatMap.1 hv
  obtain ⟨y,hy,rfl⟩:=List.mem_map.1 h
  obtain ⟨s,i1,z1⟩:=h1 x hx
  obtain ⟨u,i2,z2⟩:=h2 y hy
  exact ⟨_,.pair i1 i2,by rw [tmSz_2,tySz_pair];omega⟩
theorem IsVls.cons {g:List Ty} {l:List PVl} {ts:List Tm} {a:Ty} {v:PVl} {t:Tm} (h:IsVls g l ts) (i1:IsVl a v t) (ha:TyG a) (hz:tmSz t≤4096):IsVls (a::g) (v::l) (t::ts):=by
 induction h with
 | nil=>exact .snoc .nil i1 ha hz
 | snoc _ j1 j2 j3 ih=>exact .snoc ih j1 j2 j3
theorem lns_isVls {b m:Nat} (hb:b≤16):∀ (ts:List Ty),(∀ t∈ts,PlT t∧TyG t∧tySz t≤80)→∀ l∈lns (fun t=>(vals b t).take m) ts,∃ tms,IsVls ts l tms
 | [],_,l,hl=>by
  simp only [lns,List.mem_singleton] at hl
  subst hl
  exact ⟨[],.nil⟩
 | t::ts,ht,l,hl=>by
  simp only [lns] at hl
  obtain ⟨v,hv,h⟩:=List.mem_flatMap.1 hl
  obtain ⟨l',hl',rfl⟩:=List.mem_map.1 h
  obtain ⟨p1,p2,p3⟩:=ht t (by simp)
  obtain ⟨s,i1,z1⟩:=vals_isVl hb p1 v (List.mem_of_mem_take hv)
  obtain ⟨tms,i2⟩:=lns_isVls hb ts (fun t q=>ht t (by simp [q])) l' hl'
  exact ⟨s::tms,i2.cons i1 p2 (by omega)⟩
def findR (H:List PVl→Nat→Ans):List (List PVl)→Nat→Option (List PVl) × Int
 | [],_=>(none,0)
 | l::L,w=>if (H l w).2.2 != 0 then (none,(H l w).2.2) else if (H l w).1 then findR H L (w - (H l w).2.1) else (some l,0)
structure HoldOk (H:List PVl→Nat→Ans) (l:List PVl):Prop where
 code:∀ w,w≤65536→(H l w).2.2=0∨(H l w).2.2=4∨(H l w).2.2=5
 up:∀ w b u w',(H l w)=(b,u,0)→w≤w'→u≤w∧H l w'=(b,u,0)
theorem findR_code {H:List PVl→Nat→Ans}:∀ (L:List (List PVl)) (w:Nat),(∀ l∈L,HoldOk H l)→w≤65536→(findR H L w).2=0∨(findR H L w).2=4∨(findR H L w).2=5
 | [],w,_,_=>.inl rfl
 | l::L,w,h,hw=>by
  rw [findR]
  split
  ·exact (h l (by simp)).code w hw
  ·split
   ·exact findR_code L _ (fun x hx=>h x (by simp [hx])) (by omega)
   ·exact .inl rfl
theorem findR_some {H:List PVl→Nat→Ans} {l:List PVl}:∀ (L:List (List PVl)) (w:Nat),(∀ x∈L,HoldOk H x)→(findR H L w).1=some l→l∈L∧(findR H L w).2=0∧∃ w' u,w'≤w∧H l w'=(false,u,0)
 | [],w,_,h=>by simp [findR] at h
 | x::L,w,hk,h=>by
  rw [findR] at h ⊢
  split at h
  ·simp at h
  ·rename_i h1
   rw [if_neg h1]
   split at h
   ·rename_i h2
    rw [if_pos h2]
    obtain ⟨p1,p0,w',u,p2,p3⟩:=findR_some L _ (fun y hy=>hk y (by simp [hy])) h
    exact ⟨by simp [p1],p0,w',u,by omega,p3⟩
   ·rename_i h2
    rw [if_neg h2]
    simp only [Option.some.injEq] at h
    subst h
    refine ⟨by simp,rfl,w,(H x w).2.1,Nat.le_refl _,?_⟩
    generalize H x w=a at *
    obtain ⟨b,u,e⟩:=a
    simp at h1 h2
    simp [h1,h2]
theorem findR_none {H:List PVl→Nat→Ans}:∀ (L:List (List PVl)) (w:Nat),(findR H L w).1=none→(findR H L w).2=0→∀ l∈L,∃ w' u,w'≤w∧H l w'=(true,u,0)
 | [],w,_,_=>by simp
 | x :: L,w,h,h0=>by
  rw [findR] at h h0
  split at h
  ·rename_i h1
   rw [if_pos h1] at h0
   simp only at h0
   rw [h0] at h1
   simp at h1
  ·rename_i h1
   rw [if_neg h1] at h0
   split at h
   ·rename_i h2
    rw [if_pos h2] at h0
    intro l hl
    rcases List.mem_cons.1 hl with rfl|hl
    ·refine ⟨w,(H l w).2.1,Nat.le_refl _,?_⟩
     generalize H l w=a at *
     obtain ⟨b,u,e⟩:=a
     simp at h1 h2
     simp [h1,h2]
    ·obtain ⟨w',u,p1,p2⟩:=findR_none L _ h h0 l hl
     exact ⟨w',u,by omega,p2⟩
   ·simp at h
theorem findR_refutes {H:List PVl→Nat→Ans} {A:List (List PVl)} (hA:∀ l∈A,HoldOk H l) {w:Nat} {l:List PVl} (ha:(findR H A w).1=some l):∃ u,H l w=(false,u,0):=by
 obtain ⟨p1,p0,w1,u1,p2,p3⟩:=findR_some A w hA ha
 exact ⟨u1,((hA l p1).up _ _ _ _ p3 p2).2⟩
theorem terms_of {ts:List Ty}:∃ T:List PVl→List Tm,∀ l,(∃ tms,IsVls ts l tms)→IsVls ts l (T l):=by
 classical
 exact ⟨fun l=>if h:∃ tms,IsVls ts l tms then Classical.choose h else [],fun l h=>by simp only [dif_pos h];exact Classical.choose_spec h⟩
theorem putsR_dc {g:List Ty} {l:List PVl} {ts:List Tm} (h:IsVls g l ts):∀ {f:Fm},g.length≤16→Dc g f→fmSz f≤4096→(putsR f ts.reverse).2=0→Dc [] (putsR f ts.reverse).1∧fmSz (putsR f ts.reverse).1≤4096:=by
 induction h with
 | nil=>intro f _ h1 h2 _;exact ⟨h1,h2⟩
 | @snoc g l ts a v t _ j1 j2 j3 ih =>
  intro f hl h1 h2 h3
  rw [List.length_append] at hl
  rw [List.reverse_append] at h3 ⊢
  simp only [List.reverse_cons,List.reverse_nil,List.nil_append,List.cons_append,putsR] at h3 ⊢
  split at h3
  ·rename_i hz
   simp only at h3
   rw [h3] at hz;simp at hz
  ·rename_i hz
   rw [if_neg hz]
   obtain ⟨p1,p2⟩:=putR_dc h1 j1 j2 j3 (by omega) h2 (by simpa using hz)
   exact ih (by omega) p1 p2 h3
theorem putsR_code:∀ (ts:List Tm) (f:Fm),(putsR f ts).2=0∨(putsR f ts).2=4
 | [],f=>.inl rfl
 | t::ts,f=>by
  rw [putsR]
  split
  ·exact putR_code f t
  ·exact putsR_code ts _
theorem holds_ok {g:List Ty} {l:List PVl} {T:List PVl→List Tm} (h:IsVls g l (T l)) {f:Fm} (hg:g.length≤16) (hf:Dc g f) (zf:fmSz f≤4096):HoldOk (fun l w=>holdsR w f (T l)) l:=by
 refine ⟨fun w hw=>?_,fun w b u w' e hle=>?_⟩
 ·show (holdsR w f (T l)).2.2=0∨(holdsR w f (T l)).2.2=4∨(holdsR w f (T l)).2.2=5
  unfold holdsR
  split
  ·rename_i hz
   rcases putsR_code (T l).reverse f with e|e
   ·rw [e] at hz;simp at hz
   ·exact .inr (.inl e)
  ·rename_i hz
   obtain ⟨p1,p2⟩:=putsR_dc h hg hf zf (by simpa using hz)
   exact dA_code p1 p2
 ·replace e:holdsR w f (T l)=(b,u,0):=e
  show u≤w∧holdsR w' f (T l)=(b,u,0)
  unfold holdsR at e ⊢
  split at e
  ·rename_i hz
   simp only [Prod.mk.injEq] at e
   rw [e.2.2] at hz;simp at hz
  ·rename_i hz
   rw [if_neg hz]
   obtain ⟨p1,p2⟩:=putsR_dc h hg hf zf (by simpa using hz)
   unfold dA at e ⊢
   obtain ⟨q1,q2,q3⟩:=dT_up (lim:=w) (lim':=w') _ _ (Nat.le_refl _) p1 p2 _ (Nat.le_refl _) 0 b u 0 (by omega) e (by omega) (by omega)
   exact ⟨q2,by simpa using q3⟩
theorem Dc.univ {g:List Ty} {f:Fm} (h:Dc g f):(f.univ=([],f))∨∃ b,f.univ=([tNat],b)∧Dc (g++[tNat]) b∧fmSz b≤fmSz f:=by
 cases h with
 | eq _ _ _ _=>exact .inl (Fm.univ_n rfl)
 | @two _ k a b hk _ _=>exact .inl (Fm.univ_n (by rcases hk with rfl|rfl<;>rfl))
 | @bnd _ all q a h1 h2 h3 h4 =>
  cases all with
  | false=>exact .inl (Fm.univ_n rfl)
  | true =>
   refine .inr ⟨fmTwo 3 (lessF (tmVar 0) q) a,?_,?_,?_⟩
   ·rw [Fm.univ_4 (a:=fmTwo 3 (lessF (tmVar 0) q) a) rfl rfl,Fm.univ_n (f:=fmTwo 3 (lessF (tmVar 0) q) a) rfl];rfl
   ·exact .two (.inr rfl) (.eq (.t2 ar3 rfl (.t2 ar3 rfl subT_G (.t1 ar5 rfl v0_G)) h1) (.t0 ar4 rfl) (.n2 (ty:=.mk 0 []) .app (.n2 (ty:=.mk 0 []) .app .sub (.n1 (ty:=.mk 0 []) .succ .v0)) h2) (.n0 (ty:=.mk 0 []) .zero)) h4
   ·rw [bnd_sz,fmSz_two,lessF_sz,tmSz_v];omega
theorem allF_uni {f:Fm}:∀ g:List Ty,(allF g f).univ=(g++f.univ.1,f.univ.2)
 | []=>rfl
 | s::g=>by
  show (fmQ 4 s (allF g f)).univ=_
  rw [Fm.univ_4 (f:=fmQ 4 s (allF g f)) (a:=allF g f) rfl rfl,allF_uni g];rfl
theorem allF_ty {f:Fm}:∀ (g' g:List Ty),(∀ t∈g',TyG t)→FmTy TyG (g++g') f→FmTy TyG g (allF g' f)
 | [],g,_,h=>by rw [List.append_nil] at h;exact h
 | s::g',g,ht,h=>by
  show FmTy TyG g (fmQ 4 s (allF g' f))
  exact .q (by simp) (allF_ty g' (g++[s]) (fun t q=>ht t (by simp [q])) (by simpa using h))
theorem PlainTy.plT {t:Ty} (h:PlainTy t):PlT t:=by
 rcases h with rfl|rfl|rfl|rfl|rfl
 ·exact .nat
 ·exact .list
 ·exact .unit
 ·exact .pair .nat .list
 ·exact .pair .nat .nat
theorem PlainTy.sz {t:Ty} (h:PlainTy t):tySz t≤3:=by
 rcases h with rfl|rfl|rfl|rfl|rfl
 ·rw [tySz_nat];omega
 ·rw [tySz_list];omega
 ·rw [tySz_unit];omega
 ·rw [tySz_pair,tySz_nat,tySz_list];omega
 ·rw [tySz_pair,tySz_nat];omega
structure Front (g:List Ty) (f:Fm) (k:List Ty) (b:Fm):Prop where
 univ:(allF g f).univ=(k,b)
 dc:Dc k b
 sz:fmSz b≤300
 plain:∀ y∈k,PlainTy y
 len:k.length≤3
 ty:FmTy TyG [] (allF g f)
 good:FmG true (allF g f)
 size:fmSz (allF g f)≤400
theorem front_of {g:List Ty} {f:Fm} (df:Dc g f) (zf:fmSz f≤300) (hg:∀ y∈g,PlainTy y) (hl:g.length≤2):∃ k b,Front g f k b:=by
 have hT:∀ y∈g,TyG y:=fun y hy=>(hg y hy).G
 have t1:FmTy TyG [] (allF g f):=allF_ty g [] hT (by simpa using df.ty)
 have t2:FmG true (allF g f):=allF_G hT df.G
 have t3:fmSz (allF g f)≤400:=by rw [allF_sz];omega
 rcases df.univ with h|⟨b,h,h2,h3⟩
 ·exact ⟨g,f,by rw [allF_uni,h,List.append_nil],df,zf,hg,by omega,t1,t2,t3⟩
 ·refine ⟨g++[tNat],b,by rw [allF_uni,h],h2,by omega,fun y hy=>?_,by simp;omega,t1,t2,t3⟩
  rcases List.mem_append.1 hy with hy|hy
  ·exact hg y hy
  ·simp at hy;subst hy;exact .inl rfl
theorem front_mk {g:List Ty} {f:Fm} (mf:MkDec 1 g f) (hg:∀ y∈g,PlainTy y) (hl:g.length≤2):∃ k b,Front g f k b:=by
 have hm:∀ y∈g,MkTy 1 y:=fun y hy=>(hg y hy).mk
 exact front_of (mf.dc hm (by omega)) (by have:=(mf.all hm (by omega)).2.1;omega) hg hl
def tries (bd m:Nat) (k:List Ty):List (List PVl):=lns (fun t=>(vals bd t).take m) k
theorem tries_is {bd m:Nat} {k:List Ty} (hb:bd≤16) (hk:∀ y∈k,PlainTy y):∀ l∈tries bd m k,∃ tms,IsVls k l tms :=
 lns_isVls hb k fun t ht=>⟨(hk t ht).plT,(hk t ht).G,by have:=(hk t ht).sz;omega⟩
def holdsT (b:Fm) (T:List PVl→List Tm) (l:List PVl) (w:Nat):Ans:=holdsR w b (T l)
theorem holdsT_ok {b:Fm} {k:List Ty} {T:List PVl→List Tm} {l:List PVl} (h:IsVls k l (T l)) (hk:k.length≤16) (db:Dc k b) (zb:fmSz b≤4096):HoldOk (holdsT b T) l:=holds_ok h hk db zb
theorem lns_snoc {F:Ty→List PVl} {t:Ty} {v:PVl} (hv:v∈F t):∀ (ts:List Ty) (l:List PVl),l∈lns F ts→l++[v]∈lns F (ts++[t])
 | [],l,h=>by
  simp only [lns,List.mem_singleton] at h
  subst h
  simp only [List.nil_append,lns,List.map_cons,List.map_nil]
  exact List.mem_flatMap.2 ⟨v,hv,by simp⟩
 | s::ts,l,h=>by
  simp only [lns] at h
  obtain ⟨u,hu,h⟩:=List.mem_flatMap.1 h
  obtain ⟨x,hx,rfl⟩:=List.mem_map.1 h
  simp only [List.cons_append,lns]
  exact List.mem_flatMap.2 ⟨u,hu,List.mem_map.2 ⟨x++[v],lns_snoc hv ts x hx,rfl⟩⟩
theorem tries_snoc {bd m:Nat} {k:List Ty} {i:Nat} {t:Ty} (ht:k[i]? = some t) {v:PVl} (hv:v∈(vals bd t).take m) {l:List PVl} (hl:l∈tries bd m (k.take i)):l++[v]∈tries bd m (k.take (i+1)):=by
 have e:k.take (i+1)=k.take i++[t]:=by rw [List.take_add_one,ht];rfl
 rw [e]
 exact lns_snoc (F:=fun t=>(vals bd t).take m) hv _ _ hl
theorem vals_pos {t:Ty} (ht:PlT t) {b:Nat} (hb:1≤b):1≤(vals b t).length:=by
 induction ht with
 | nat=>rw [show vals b tNat=valsN b by rw [tNat];rfl,valsN_len];exact hb
 | list=>rw [show vals b tList=valsL b by rw [tList];rfl,valsL_len];omega
 | unit=>rw [show vals b tUnit=[unitP] by rw [tUnit];rfl];exact Nat.le_refl _
 | pair _ _ h1 h2 =>
  rw [tPair,vals,valsP_len]
  exact Nat.mul_pos h1 h2
end GoAbs
