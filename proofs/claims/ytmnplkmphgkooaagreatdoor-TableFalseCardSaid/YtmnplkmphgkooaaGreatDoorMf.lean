/-
 Walks: several parts in one text.
-/
import Derived.Test.YtmnplkmphgkooaaGreatDoorNx
import Derived.Test.YtmnplkmphgkooaaGreatDoorMb
import Derived.Test.YtmnplkmphgkooaaGreatDoorAbsD
set_option linter.unusedSimpArgs false
set_option linter.unusedVariables false
set_option maxRecDepth 20000
set_option maxHeartbeats 4000000
namespace Go.Proofs.YtmnplkmphgkooaaGreatDoor
open Go GoAbs Go.Proofs
def tyN (t:Ty):Int:=(chk 64 t.nodes).1
theorem tyN_G {t:Ty} (h:TyG t):tyN t=(tySz t:Int):=by
 unfold tyN
 rw [h.1.nodes (by have:=h.2;omega),chk,if_neg (by have:=h.2;omega)]
theorem ty_cells (t:Ty):t.cells=[.int .i64 t.kind,.sl .any (t.args.map Ty.cells)]:=by cases t;simp [Ty.mk_cells,Ty.mk_kind,Ty.mk_args]
def szC (t:Ty):List V:=[.int .i64 t.kind,.sl .any (t.args.map Ty.cells),.int .i64 (tyN t)]
theorem c_sOf (t:Ty) (ht:TyW t):Pure Tryz.prog env 113 [.agg t.cells] (.agg (szC t)):=by
 intro h
 have hc:=c_CheckType t ht
 unfold two at hc
 unfold szC tyN
 exact ek_ Tryz.func113 [.cell 2 130]
theorem c_sIs (t:Ty) (k:Int):Pure Tryz.prog env 159 [.agg (szC t),.int .i64 k] (.bool (t.kind==k)):=by
 intro h
 unfold szC
 exact ek_ Tryz.func159 [.tmp 4]
theorem c_sPart (t:Ty) (i:Nat) (a:Ty) (ha:t.args[i]? = some a) (hw:TyW a):Pure Tryz.prog env 160 [.agg (szC t),.int .i64 i] (.agg (szC a)):=by
 intro h
 have hc:=c_sOf a hw
 have hlt:i<t.args.length:=(List.getElem?_eq_some_iff.1 ha).1
 unfold szC at *
 exact ek_ Tryz.func160 [.cell 4 130]
theorem c_sSame (t:Ty) (ht:TyW t):Pure Tryz.prog env 161 [.agg (szC t),.agg (szC t)] (.bool true):=by
 intro h
 have hc:=c_SameType t ht t ht
 rw [Ty.same_refl,ty_cells] at hc
 have bq:(tyN t==tyN t)=true:=beq_self_eq_true _
 unfold szC
 exact ek_ Tryz.func161 [.tmp 4]
theorem c_sJoin (k:Int) (a b:Ty) (ha:TyG a) (hb:TyG b) (hs:tySz a+tySz b≤63) (hn:(tyN (.mk k [a,b]))=1+(tySz a:Int)+(tySz b:Int)) :
  Pure Tryz.prog env 117 [.int .i64 k,.agg (szC a),.agg (szC b)] (.tup [.agg (szC (.mk k [a,b])),.int .i64 0]):=by
 intro h
 unfold szC
 rw [hn,tyN_G ha,tyN_G hb]
 have w1:IntKind.i64.wrap (1+(tySz a:Int))=1+(tySz a:Int):=wrap_eq rfl (by omega) (by omega)
 have w2:IntKind.i64.wrap (1+(tySz a:Int)+(tySz b:Int))=1+(tySz a:Int)+(tySz b:Int):=wrap_eq rfl (by omega) (by omega)
 have hd:decide (1+(tySz a:Int)+(tySz b:Int)>64)=false:=by simp;omega
 clear hs hn
 refine en_ Tryz.func117 [.cell 6 130,.tmp 7] fun g0 w0 gen hrel hfr hfr' hres=>?_
 first|refine wq_ ?_|exact wk_
 all_goals simp [Ty.kind,Ty.args,ty_cells]
theorem c_tList:Pure Tryz.prog env 133 [] (.agg tList.cells):=by
 intro h
 unfold tList
 refine en_ Tryz.func133 [.cell 0 29] fun g0 w0 gen hrel hfr hfr' hres=>?_
 first|refine wq_ ?_|exact wk_
 all_goals simp [ty_cells,Ty.kind,Ty.args]
def funs (l:List Ty) (r:Ty):Ty:=l.foldr tFun r
theorem funs_step {l:List Ty} {r:Ty} {j:Nat} {x:Ty} (h:l[j]? = some x):tFun x (funs (l.drop (j+1)) r)=funs (l.drop j) r:=by
 rw [drop_get h];rfl
theorem c_tFun (r:Ty) (l:List Ty) (hl:l.length≤1000):Pure Tryz.prog env 189 [.agg r.cells,.sl .any (l.map Ty.cells)] (.agg (funs l r).cells):=by
 intro h
 have hw0:IntKind.i64.wrap ((l.length:Int) - 1)=(l.length:Int) - 1:=wrap_eq rfl (by omega) (by omega)
 refine en_ Tryz.func189 [.cell 4 29] fun g0 w0 gen hrel hfr hfr' hres=>?_
 refine wq_ ?_
 refine AR_loop_nat (fun i σ=>σ.tm 5=.int .i64 ((l.length:Int) - 1 - i)∧σ.tm 1=.sl .any (l.map Ty.cells)∧σ.tm 2=.ptr ⟨gen,0,0⟩ 0∧σ.tm 4=.ptr ⟨gen,0,1⟩ 0 ∧
  σ.h ⟨gen,0,0⟩=some (.box (funs (l.drop (l.length - i)) r).cells)∧σ.h ⟨gen,0,1⟩=some (.box [.int .i64 0,.sl .full []])∧Agree h σ.h∧i≤l.length) l.length ?_ ?_
 ·have e:(l.drop (l.length - 0))=[]:=by simp
  simp only [go_sem, *,e]
  exact ⟨by simp,rfl,ag_,by omega⟩
 intro i σ hi ⟨j1,j2,j3,j4,j5,j6,j7,j8⟩
 clear j8
 have hw1:IntKind.i64.wrap ((l.length:Int) - 1 - (i:Int) - 1)=(l.length:Int) - 1 - (i:Int) - 1:=wrap_eq rfl (by omega) (by omega)
 rcases Nat.lt_or_ge i l.length with hlt|hge
 ·have hd:decide ((l.length:Int) - 1 - (i:Int)≥0)=true:=by simp;omega
  have e0:l.length - (i+1)+1=l.length - i:=by omega
  obtain ⟨x,hx⟩:∃ x,l[l.length - (i+1)]? = some x:=⟨_,List.getElem?_eq_getElem (by omega)⟩
  have hst:=funs_step (r:=r) hx
  rw [e0] at hst
  rw [← hst]
  have e2:((l.length:Int) - 1 - (i:Int)).toNat=l.length - (i+1):=by omega
  have e3:0≤(l.length:Int) - 1 - (i:Int):=by omega
  have e4:(l.length:Int) - 1 - ((i+1:Nat):Int)=(l.length:Int) - 1 - (i:Int) - 1:=by omega
  have e5:i+1≤l.length:=by omega
  clear hst
  generalize funs (l.drop (l.length - i)) r=b' at *
  have hcell:(tFun x b').cells=[.int .i64 4,.sl .any [x.cells,b'.cells]]:=by simp [ty_cells,tFun,Ty.kind,Ty.args]
  clear hi
  repeat' (first
   |(refine ⟨?_,?_⟩;focus ((repeat' (first|refine ⟨?_,?_⟩|refine .inr ?_));all_goals kernel_rfl))
   | (first|refine wp rfl ?_|refine spt rfl ?_|refine spf rfl ?_|(refine spl (fun hc=>?_) fun hc=>?_)<;>(try rw [beq_iff_eq] at hc)<;>try simp only [hc])<;>try simp only [go_sem, *])
  refine AR_weakBox ⟨gen,0,0⟩ (by simp only [go_sem, *]<;>rfl) ?_
  refine AR_inv ?_
  simp only [go_sem, *]
  exact ag_
 ·have hd:decide ((l.length:Int) - 1 - (i:Int)≥0)=false:=by simp;omega
  have e0:l.length - i=0:=by omega
  rw [e0,List.drop_zero] at j5
  exact wk_
def plainK (k:Int):List Int:=if k==4 then [1] else if k==5 then [1,1] else if k==7 then [2] else if k==8 then [2,1,2] else if k==13 then [5] else []
theorem c_plainK (k:Int) (vs:List Int) (hv:plainK k=vs):Pure Tryz.prog env 158 [.int .i64 k] (.sl .any (vs.map fun i=>[.int .i64 i])):=by
 intro h
 subst hv
 unfold plainK
 refine en_ Tryz.func158 [.tmp 2] fun g0 w0 gen hrel hfr hfr' hres=>?_
 repeat' (first
  |exact hin _|exact agf (by assumption)
  | (first|refine wp rfl ?_|refine spt rfl ?_|refine spf rfl ?_|(refine spl (fun hc=>?_) fun hc=>?_)<;>(try rw [beq_iff_eq] at hc)<;>try simp only [hc]|refine finF hrel ?_ ?_ ?_)<;>try simp only [go_sem, *])
 all_goals simp_all
theorem c_tStep (t:Tm) (hk:t.kind=6∨t.kind=9):Pure Tryz.prog env 162 [.agg t.cells] (.agg (if t.kind==9 then funs [tNat,tList,t.type] t.type else funs [tNat,t.type] t.type).cells):=by
 intro h
 have h2:=c_tFun t.type [tNat,t.type] (by simp)
 have h3:=c_tFun t.type [tNat,tList,t.type] (by simp)
 simp only [List.map_cons,List.map_nil] at h2 h3
 rcases hk with hk|hk
 all_goals
  rw [hk]
  simp only [Int.reduceBEq,Bool.false_eq_true,if_false,if_true]
  have zq0:=c_tNat
  have zq1:=c_tList
  exact ek_ Tryz.func162 [.cell 2 29]
def zS:List V:=[.int .i64 0,.sl .any [],.int .i64 0]
def padS (ts:List Ty):List V:=ts.flatMap szC++(List.replicate (3 - ts.length) zS).flatten
theorem padS0:padS []=[.int .i64 0,.sl .any [],.int .i64 0,.int .i64 0,.sl .any [],.int .i64 0,.int .i64 0,.sl .any [],.int .i64 0]:=rfl
theorem padS1 {a:Ty}:padS [a]=[.int .i64 a.kind,.sl .any (a.args.map Ty.cells),.int .i64 (tyN a),.int .i64 0,.sl .any [],.int .i64 0,.int .i64 0,.sl .any [],.int .i64 0]:=rfl
theorem padS2 {a b:Ty}:padS [a,b]=[.int .i64 a.kind,.sl .any (a.args.map Ty.cells),.int .i64 (tyN a),.int .i64 b.kind,.sl .any (b.args.map Ty.cells),.int .i64 (tyN b),.int .i64 0,.sl .any [],.int .i64 0]:=rfl
theorem padS3 {a b c:Ty}:padS [a,b,c]=[.int .i64 a.kind,.sl .any (a.args.map Ty.cells),.int .i64 (tyN a),.int .i64 b.kind,.sl .any (b.args.map Ty.cells),.int .i64 (tyN b),.int .i64 c.kind,.sl .any (c.args.map Ty.cells),.int .i64 (tyN c)]:=rfl
theorem c_node0 (t:Tm) (k:Int) (hk:plainK t.kind=[k]) (hw:TyW (.mk k [])):Pure Tryz.prog env 118 [.agg t.cells,.agg (padS [])] (.tup [.agg (szC (.mk k [])),.int .i64 0]):=by
 intro h
 have h1:=c_plainK t.kind _ hk
 have h2:=c_sOf (.mk k []) hw
 simp only [ty_cells,Ty.mk_kind,Ty.mk_args,List.map_nil,List.map_cons] at h1 h2
 rw [padS0]
 unfold szC at *
 simp only [Ty.mk_kind,Ty.mk_args,List.map_nil] at *
 clear hk
 have mn:∀ (f:Operand→V),Option.map f none=none:=fun _=>rfl
 have p1:decide (((1:Nat):Int)>0)=true:=rfl
 have p2:decide (((2:Nat):Int)>0)=true:=rfl
 have p3:decide (((3:Nat):Int)>0)=true:=rfl
 refine en_ Tryz.func118 [.cell 4 130,.tmp 5] fun g0 w0 gen hrel hfr hfr' hres=>?_
 refine wq_ ?_
 refine ar_ [2,3,4,6,18] [⟨gen,0,0⟩,⟨gen,0,1⟩,⟨gen,0,2⟩] (fun i σ=>Agree h σ.h∧True) (([]:List Int)).length ?_ ?_ ?_
 ·simp only [go_sem, *]
  exact ag_
 ·
  intro i σ gr0 hgl_gr0 hgn hlt jI jN jS ⟨jA,jU⟩
  obtain ⟨jT,jB⟩:=jS
  simp only [go_sem] at jT jB
  obtain ⟨hgf,hgf0,eg_gen_gr0,eh_gen_gr0⟩:=rnd hgn hgl_gr0 jA
  obtain ⟨x,hx,hxm,hm⟩:=rnx hlt
  clear hgn
  exact absurd hlt (by simp)
 ·
  intro σ ga0 hgl_ga0 hgn jS ⟨jA,jU⟩
  obtain ⟨jT,jB⟩:=jS
  simp only [go_sem] at jT jB
  obtain ⟨hgf,hgf0,eg_gen_ga0,eh_gen_ga0⟩:=rnd hgn hgl_ga0 jA
  clear hgn
  exact wk_
theorem c_node1 (t:Tm) (k:Int) (a:Ty) (hk:plainK t.kind=[k,a.kind]) (hw:TyW (.mk k [])):Pure Tryz.prog env 118 [.agg t.cells,.agg (padS [a])] (.tup [.agg (szC (.mk k [])),.int .i64 0]):=by
 intro h
 have h1:=c_plainK t.kind _ hk
 have h2:=c_sOf (.mk k []) hw
 have i1:=c_sIs a a.kind
 rw [show (a.kind==a.kind)=true from beq_self_eq_true _] at i1
 simp only [ty_cells,Ty.mk_kind,Ty.mk_args,List.map_nil,List.map_cons] at h1 h2
 rw [padS1]
 unfold szC at *
 simp only [Ty.mk_kind,Ty.mk_args,List.map_nil] at *
 clear hk
 have mn:∀ (f:Operand→V),Option.map f none=none:=fun _=>rfl
 have p1:decide (((1:Nat):Int)>0)=true:=rfl
 have p2:decide (((2:Nat):Int)>0)=true:=rfl
 have p3:decide (((3:Nat):Int)>0)=true:=rfl
 refine en_ Tryz.func118 [.cell 4 130,.tmp 5] fun g0 w0 gen hrel hfr hfr' hres=>?_
 refine wq_ ?_
 refine ar_ [2,3,4,6,18] [⟨gen,0,0⟩,⟨gen,0,1⟩,⟨gen,0,2⟩] (fun i σ=>Agree h σ.h∧True) ([a.kind]).length ?_ ?_ ?_
 ·simp only [go_sem, *]
  exact ag_
 ·
  intro i σ gr0 hgl_gr0 hgn hlt jI jN jS ⟨jA,jU⟩
  obtain ⟨jT,jB⟩:=jS
  simp only [go_sem] at jT jB
  obtain ⟨hgf,hgf0,eg_gen_gr0,eh_gen_gr0⟩:=rnd hgn hgl_gr0 jA
  obtain ⟨x,hx,hxm,hm⟩:=rnx hlt
  clear hgn
  obtain rfl:i=0:=by simpa using hlt
  replace jI:σ.tm 20=.int .i64 0:=jI
  have z0:((0:Int)<((3:Nat):Int))=True:=by simp
  simp at hx
  subst hx
  first|refine wq_ ?_|exact wk_
  all_goals rfl
 ·
  intro σ ga0 hgl_ga0 hgn jS ⟨jA,jU⟩
  obtain ⟨jT,jB⟩:=jS
  simp only [go_sem] at jT jB
  obtain ⟨hgf,hgf0,eg_gen_ga0,eh_gen_ga0⟩:=rnd hgn hgl_ga0 jA
  clear hgn
  exact wk_
theorem c_node2 (t:Tm) (k:Int) (a b:Ty) (hk:plainK t.kind=[k,a.kind,b.kind]) (hw:TyW (.mk k [])):Pure Tryz.prog env 118 [.agg t.cells,.agg (padS [a,b])] (.tup [.agg (szC (.mk k [])),.int .i64 0]):=by
 intro h
 have h1:=c_plainK t.kind _ hk
 have h2:=c_sOf (.mk k []) hw
 have i1:=c_sIs a a.kind
 rw [show (a.kind==a.kind)=true from beq_self_eq_true _] at i1
 have i2:=c_sIs b b.kind
 rw [show (b.kind==b.kind)=true from beq_self_eq_true _] at i2
 simp only [ty_cells,Ty.mk_kind,Ty.mk_args,List.map_nil,List.map_cons] at h1 h2
 rw [padS2]
 unfold szC at *
 simp only [Ty.mk_kind,Ty.mk_args,List.map_nil] at *
 clear hk
 have mn:∀ (f:Operand→V),Option.map f none=none:=fun _=>rfl
 have p1:decide (((1:Nat):Int)>0)=true:=rfl
 have p2:decide (((2:Nat):Int)>0)=true:=rfl
 have p3:decide (((3:Nat):Int)>0)=true:=rfl
 refine en_ Tryz.func118 [.cell 4 130,.tmp 5] fun g0 w0 gen hrel hfr hfr' hres=>?_
 refine wq_ ?_
 refine ar_ [2,3,4,6,18] [⟨gen,0,0⟩,⟨gen,0,1⟩,⟨gen,0,2⟩] (fun i σ=>Agree h σ.h∧True) ([a.kind,b.kind]).length ?_ ?_ ?_
 ·simp only [go_sem, *]
  exact ag_
 ·
  intro i σ gr0 hgl_gr0 hgn hlt jI jN jS ⟨jA,jU⟩
  obtain ⟨jT,jB⟩:=jS
  simp only [go_sem] at jT jB
  obtain ⟨hgf,hgf0,eg_gen_gr0,eh_gen_gr0⟩:=rnd hgn hgl_gr0 jA
  obtain ⟨x,hx,hxm,hm⟩:=rnx hlt
  clear hgn
  match i,hlt with
  | 0,_ =>
   replace jI:σ.tm 20=.int .i64 0:=jI
   have z0:((0:Int)<((3:Nat):Int))=True:=by simp
   simp at hx
   subst hx
   first|refine wq_ ?_|exact wk_
   all_goals rfl
  | 1,_ =>
   replace jI:σ.tm 20=.int .i64 1:=jI
   have z1:((1:Int)<((3:Nat):Int))=True:=by simp
   simp at hx
   subst hx
   first|refine wq_ ?_|exact wk_
   all_goals rfl
  | i+2,h2=>simp at h2;omega
 ·
  intro σ ga0 hgl_ga0 hgn jS ⟨jA,jU⟩
  obtain ⟨jT,jB⟩:=jS
  simp only [go_sem] at jT jB
  obtain ⟨hgf,hgf0,eg_gen_ga0,eh_gen_ga0⟩:=rnd hgn hgl_ga0 jA
  clear hgn
  exact wk_
theorem c_nodeApp (t:Tm) (a b:Ty) (hk:t.kind=3) (ha:TyW a) (hb:TyW b):Pure Tryz.prog env 118 [.agg t.cells,.agg (padS [tFun a b,a])] (.tup [.agg (szC b),.int .i64 0]):=by
 intro h
 have h1:=c_plainK 3 [] rfl
 have i1:=c_sIs (tFun a b) 4
 have i2:=c_sPart (tFun a b) 0 a rfl ha
 have i3:=c_sPart (tFun a b) 1 b rfl hb
 have i4:=c_sSame a ha
 rw [show ((tFun a b).kind==4)=true from rfl] at i1
 generalize tFun a b=f at *
 simp only [List.map_nil] at h1
 rw [padS2]
 unfold szC at *
 have p0:decide (((0:Nat):Int)>0)=false:=rfl
 have z0:((0:Int)<((3:Nat):Int))=True:=by simp
 have z1:((1:Int)<((3:Nat):Int))=True:=by simp
 exact ek_ Tryz.func118 [.cell 4 130,.tmp 5]
theorem c_nodeRec (t:Tm) (x:Ty) (hx:TyW x) (hk:(t.kind=6∧x=tNat)∨(t.kind=9∧x=tList)) (ht:TyW t.type) (hs:TyW (if t.kind==9 then funs [tNat,tList,t.type] t.type else funs [tNat,t.type] t.type)) :
  Pure Tryz.prog env 118 [.agg t.cells,.agg (padS [t.type,if t.kind==9 then funs [tNat,tList,t.type] t.type else funs [tNat,t.type] t.type,x])] (.tup [.agg (szC t.type),.int .i64 0]):=by
 intro h
 have h2:=c_tStep t (by rcases hk with h|h;exact .inl h.1;exact .inr h.1)
 have i1:=c_sOf t.type ht
 have i2:=c_sSame t.type ht
 have i3:=c_SameType _ hs _ hs
 rw [Ty.same_refl] at i3
 have n1:(6:Int)=9↔False:=by simp
 have p0:decide (((0:Nat):Int)>0)=false:=rfl
 have z0:((0:Int)<((3:Nat):Int))=True:=by simp
 have z1:((1:Int)<((3:Nat):Int))=True:=by simp
 have z2:((2:Int)<((3:Nat):Int))=True:=by simp
 generalize (if t.kind==9 then funs [tNat,tList,t.type] t.type else funs [tNat,t.type] t.type)=f at *
 have fc:=ty_cells f
 rw [fc] at i3 h2
 rcases hk with ⟨hk,rfl⟩|⟨hk,rfl⟩
 ·have h1:=c_plainK 6 [] rfl
  have i4:=c_sIs tNat 1
  rw [show (tNat.kind==1)=true from rfl] at i4
  simp only [List.map_nil] at h1
  rw [padS3]
  unfold szC at *
  generalize tNat=u at *
  clear hs ht fc
  exact ek_ Tryz.func118 [.cell 4 130,.tmp 5]
 ·have h1:=c_plainK 9 [] rfl
  have i4:=c_sIs tList 2
  rw [show (tList.kind==2)=true from rfl] at i4
  simp only [List.map_nil] at h1
  rw [padS3]
  unfold szC at *
  generalize tList=u at *
  clear hs ht fc
  exact ek_ Tryz.func118 [.cell 4 130,.tmp 5]
theorem c_nodePair (t:Tm) (a b:Ty) (hk:t.kind=10) (hp:TyG (tPair a b)):Pure Tryz.prog env 118 [.agg t.cells,.agg (padS [a,b])] (.tup [.agg (szC (tPair a b)),.int .i64 0]):=by
 intro h
 have h1:=c_plainK 10 [] rfl
 obtain ⟨ga,gb⟩:=hp.pair1
 have hz:=hp.2
 rw [tySz_pair] at hz
 have i1:=c_sJoin 3 a b ga gb (by omega) (by have:=tyN_G hp;rw [tySz_pair] at this;unfold tPair at this;rw [this];omega)
 have e:Ty.mk 3 [a,b]=tPair a b:=rfl
 rw [e] at i1
 generalize tPair a b=q at *
 simp only [List.map_nil] at h1
 rw [padS2]
 unfold szC at *
 have p0:decide (((0:Nat):Int)>0)=false:=rfl
 have z0:((0:Int)<((3:Nat):Int))=True:=by simp
 have z1:((1:Int)<((3:Nat):Int))=True:=by simp
 clear hp hz e ga gb
 exact ek_ Tryz.func118 [.cell 4 130,.tmp 5]
theorem c_nodeProj (t:Tm) (a b:Ty) (j:Nat) (hj:(t.kind=11∧j=0)∨(t.kind=12∧j=1)) (s:Ty) (hs:[a,b][j]? = some s) (hw:TyW s):Pure Tryz.prog env 118 [.agg t.cells,.agg (padS [tPair a b])] (.tup [.agg (szC s),.int .i64 0]):=by
 intro h
 have i1:=c_sIs (tPair a b) 3
 have i2:=c_sPart (tPair a b) j s hs hw
 rw [show ((tPair a b).kind==3)=true from rfl] at i1
 generalize tPair a b=q at *
 have p0:decide (((0:Nat):Int)>0)=false:=rfl
 have z0:((0:Int)<((3:Nat):Int))=True:=by simp
 rcases hj with ⟨hk,rfl⟩|⟨hk,rfl⟩
 ·have h1:=c_plainK 11 [] rfl
  simp only [List.map_nil] at h1
  replace i2:Pure Tryz.prog env 160 [.agg (szC q),.int .i64 0] (.agg (szC s)):=i2
  rw [padS1]
  unfold szC at *
  clear hs
  exact ek_ Tryz.func118 [.cell 4 130,.tmp 5]
 ·have h1:=c_plainK 12 [] rfl
  simp only [List.map_nil] at h1
  replace i2:Pure Tryz.prog env 160 [.agg (szC q),.int .i64 1] (.agg (szC s)):=i2
  rw [padS1]
  unfold szC at *
  clear hs
  exact ek_ Tryz.func118 [.cell 4 130,.tmp 5]
theorem szC_len (t:Ty):(szC t).length=3:=rfl
theorem szC_0 (t:Ty):(szC t)[0]? = some (.int .i64 t.kind):=rfl
theorem szC_1 (t:Ty):(szC t)[1]? = some (.sl .any (t.args.map Ty.cells)):=rfl
theorem szC_2 (t:Ty):(szC t)[2]? = some (.int .i64 (tyN t)):=rfl
theorem szC_take (t:Ty):List.take 3 (szC t)=szC t:=rfl
theorem szC_ty (t:Ty):List.take 2 (szC t)=t.cells:=by rw [ty_cells];rfl
theorem szC_one (t:Ty):(szC t).all oneV=true:=rfl
theorem splice_sz {cs:List V} {t:Ty} (h:cs.length=3):splice cs 0 (szC t)=szC t:=splice_full (by rw [h,szC_len])
theorem weakL_sz (t:Ty):weakL (szC t)=szC t:=by simp [szC,weakL,weak,weakLL_Ty]
theorem weakLL_sz (l:List Ty):weakLL (l.map szC)=l.map szC:=by
 rw [weakLL_eq,List.map_map];exact List.map_congr_left fun x _=>weakL_sz x
theorem InL_sz {S:GoAbs.Id→Prop} (t:Ty):InL S (szC t):=by simp [szC,InL,InV,capIn,InLL_Ty]
theorem InLL_sz {S:GoAbs.Id→Prop} (l:List Ty):InLL S (l.map szC):=by
 rw [InLL_mem];intro x hx;obtain ⟨y,_,rfl⟩:=List.mem_map.1 hx;exact InL_sz y
theorem all_len_sz (l:List Ty):(l.map szC).all (fun e=>e.length==3)=true:=by simp [szC_len]
theorem all_one_sz (l:List Ty):(l.map szC).flatten.all oneV=true:=by
 rw [List.all_eq_true];intro v hv
 obtain ⟨c,hc,hv⟩:=List.mem_flatten.1 hv
 obtain ⟨x,_,rfl⟩:=List.mem_map.1 hc
 exact List.all_eq_true.1 (szC_one x) v hv
attribute [go_sem] szC_len szC_0 szC_1 szC_2 szC_take szC_ty szC_one splice_sz weakL_sz weakLL_sz InL_sz InLL_sz all_len_sz all_one_sz
theorem c_ctxFrom (g:List Ty) (hg:∀ y∈g,TyW y) (hl:g.length≤1000):Pure Tryz.prog env 70 [.sl .any (g.map Ty.cells)] (.sl .any (g.map szC)):=by
 intro h
 have hall:=all_len_sz
 refine en_ Tryz.func70 [.tmp 2] fun g0 w0 gen hrel hfr hfr' hres=>?_
 refine wq_ ?_
 refine ar_ [2,6] [] (fun i σ=>Agree h σ.h∧OwnS h σ.h (σ.tm 3) 3 ((g.take i).map szC)) (g).length ?_ ?_ ?_
 ·simp only [go_sem, *]
  exact ⟨ag_,.inl rfl⟩
 ·
  intro i σ gr0 hgl_gr0 hgn hlt jI jN jS ⟨jA,jO0⟩
  obtain ⟨jT,jB⟩:=jS
  simp only [go_sem] at jT jB
  obtain ⟨hgf,hgf0,eg_gen_gr0,eh_gen_gr0⟩:=rnd hgn hgl_gr0 jA
  obtain ⟨x,hx,hxm,hm⟩:=rnx hlt
  clear hgn
  have hc:=c_sOf x (hg x hxm)
  have hts:(g.take (i+1)).map szC=(g.take i).map szC++[szC x]:=by rw [map_take_succ hx]
  have htl:(g.take i).length=i:=by rw [List.length_take];omega
  have b1:(i+1) * 40≤140737488355328:=by omega
  have b2:i+1≤140737488355328:=by omega
  repeat' (first
   |(refine okE_app_own jO0 (by repeat (first|exact Keeps.refl _|refine Keeps.new ?_ (hgf _ _)|refine Keeps.new ?_ (hfr' _ _)|refine Keeps.box ?_ rfl|refine Keeps.box ?_ (by simp only [go_sem, *]))) rfl (by simp only [go_sem, *]<;>omega) (by first|exact hgf0 _ _|exact hfr' _ _) (by simp only [go_sem, *]) (by intro hd;cases hd) ?_;intro v' h' log' jO jK jAg jAb jF;simp only [go_sem, *])
   | (first|refine wp rfl ?_|refine spt rfl ?_|refine spf rfl ?_|(refine spl (fun hc=>?_) fun hc=>?_)<;>(try rw [beq_iff_eq] at hc)<;>try simp only [hc]|refine cp hc ?_|refine AR_inv ?_)<;>try simp only [go_sem, *])
  exact jAg (by repeat (first|exact jA|refine Agree.new ?_ (hgf0 _ _)))
 ·
  intro σ ga0 hgl_ga0 hgn jS ⟨jA,jO0⟩
  obtain ⟨jT,jB⟩:=jS
  simp only [go_sem] at jT jB
  obtain ⟨hgf,hgf0,eg_gen_ga0,eh_gen_ga0⟩:=rnd hgn hgl_ga0 jA
  clear hgn
  rw [List.take_length] at jO0
  obtain ⟨c,jO0⟩:=jO0.val
  exact wk_
theorem c_ctxWith (g:List Ty) (a:Ty) (ha:TyW a) (hl:g.length≤100000):Pure Tryz.prog env 114 [.sl .any (g.map szC),.sl .any [a.cells]] (.sl .any ((g++[a]).map szC)):=by
 intro h
 have hc:=c_ctxFrom [a] (by simpa using ha) (by simp)
 simp only [List.map_cons,List.map_nil] at hc
 have hwk:weakLL (g.map szC++[szC a])=(g++[a]).map szC:=by rw [← weakLL_sz (g++[a])];simp
 have b3:(g.length+1) * 40≤140737488355328:=by omega
 have b4:g.length+1≤140737488355328:=by omega
 have t1:(0:Int)≤(g.length:Int):=by omega
 have t2:((g.length:Int)).toNat=g.length:=Int.toNat_natCast _
 have t3:List.take g.length (g.map szC)=g.map szC:=List.take_of_length_le (by simp)
 have t4:0≤g.length:=by omega
 have t5:g.length≤g.length:=Nat.le_refl _
 have mn:∀ (f:Operand→V),Option.map f none=none:=fun _=>rfl
 have ml:(g.map szC).length=g.length:=by simp
 exact ek_ Tryz.func114 [.tmp 4]
def zF:List V:=[.int .i64 0,.sl .full [],.int .i64 0]
def padF (ts:List Ty):List V:=ts.flatMap szC++(List.replicate (3 - ts.length) zF).flatten
theorem padF0:padF []=[.int .i64 0,.sl .full [],.int .i64 0,.int .i64 0,.sl .full [],.int .i64 0,.int .i64 0,.sl .full [],.int .i64 0]:=rfl
theorem padF1 {a:Ty}:padF [a]=[.int .i64 a.kind,.sl .any (a.args.map Ty.cells),.int .i64 (tyN a),.int .i64 0,.sl .full [],.int .i64 0,.int .i64 0,.sl .full [],.int .i64 0]:=rfl
theorem padF2 {a b:Ty}:padF [a,b]=[.int .i64 a.kind,.sl .any (a.args.map Ty.cells),.int .i64 (tyN a),.int .i64 b.kind,.sl .any (b.args.map Ty.cells),.int .i64 (tyN b),.int .i64 0,.sl .full [],.int .i64 0]:=rfl
theorem padF3 {a b c:Ty}:padF [a,b,c]=[.int .i64 a.kind,.sl .any (a.args.map Ty.cells),.int .i64 (tyN a),.int .i64 b.kind,.sl .any (b.args.map Ty.cells),.int .i64 (tyN b),.int .i64 c.kind,.sl .any (c.args.map Ty.cells),.int .i64 (tyN c)]:=rfl
theorem c_typeOfNode (g:List Ty) (k:Int) (ty:Ty) (hty:TyW ty) (l:List Tm) (ts:List Ty) (s:Ty) (hN:NodeTy TyG k ty ts s) (hlen:l.length=ts.length) (hts:∀ y∈ts,TyW y) (hws:TyW s)
  (ih:∀ (j:Nat) (x:Tm) (a:Ty),l[j]? = some x→ts[j]? = some a→Pure Tryz.prog env 73 [.sl .any (g.map szC),.agg x.cells] (.tup [.agg (szC a),.int .i64 0])) :
  Pure Tryz.prog env 73 [.sl .any (g.map szC),.agg (tmT k ty l).cells] (.tup [.agg (szC s),.int .i64 0]):=by
 intro h
 have hl3:l.length≤3:=by rw [hlen];cases hN<;>simp
 have hnode:Pure Tryz.prog env 118 [.agg (tmT k ty l).cells,.agg (padS ts)] (.tup [.agg (szC s),.int .i64 0]):=by
  cases hN with
  | app=>exact c_nodeApp _ _ _ rfl (hts _ (by simp)) hws
  | zero=>exact c_node0 _ 1 rfl hws
  | succ=>exact c_node1 _ 1 tNat rfl hws
  | recr=>exact c_nodeRec (tmT 6 ty l) tNat tNat_W (.inl ⟨rfl,rfl⟩) hty (hts _ (by simp [tmT,Tm.kind,Tm.type,funs]))
  | nil=>exact c_node0 _ 2 rfl hws
  | cons=>exact c_node2 _ 2 tNat tList rfl hws
  | fold=>exact c_nodeRec (tmT 9 ty l) tList tList_W (.inr ⟨rfl,rfl⟩) hty (hts _ (by simp [tmT,Tm.kind,Tm.type,funs]))
  | pair hp=>exact c_nodePair _ _ _ rfl hp
  | fst=>exact c_nodeProj _ _ _ 0 (.inl ⟨rfl,rfl⟩) _ rfl hws
  | snd=>exact c_nodeProj _ _ _ 1 (.inr ⟨rfl,rfl⟩) _ rfl hws
  | unit=>exact c_node0 _ 5 rfl hws
 have hk1:(k==1)=false:=by cases hN<;>rfl
 have hk2:(k==2)=false:=by cases hN<;>rfl
 have e1:(tmT k ty l).kind=k:=rfl
 have e3:(tmT k ty l).args=l:=rfl
 generalize tmT k ty l=t at *
 have n0:((0:Int) != 0)=false:=rfl
 have hget:∀ (i:Nat) (x:Tm),l[i]? = some x→∃ a,ts[i]? = some a:=fun i x hx=>⟨_,List.getElem?_eq_getElem (by have:=(List.getElem?_eq_some_iff.1 hx).1;omega)⟩
 have hlen':ts.take l.length=ts:=by rw [hlen,List.take_length]
 clear hlen hws hty hN hts
 refine en_ Tryz.func73 [.cell 4 130,.tmp 5] fun g0 w0 gen hrel hfr hfr' hres=>?_
 refine wq_ ?_
 refine ar_ [0,3,4,9,65] [⟨gen,0,0⟩,⟨gen,0,1⟩] (fun i σ=>Agree h σ.h∧σ.h ⟨gen,11,0⟩=some (.box (padF (ts.take i)))) (l).length ?_ ?_ ?_
 ·simp only [go_sem, *]
  exact ⟨ag_,rfl⟩
 ·clear hlen' hnode
  intro i σ gr0 hgl_gr0 hgn hlt jI jN jS ⟨jA,jb⟩
  obtain ⟨jT,jB⟩:=jS
  simp only [go_sem] at jT jB
  obtain ⟨hgf,hgf0,eg_gen_gr0,eh_gen_gr0⟩:=rnd hgn hgl_gr0 jA
  obtain ⟨x,hx,hxm,hm⟩:=rnx hlt
  clear hgn
  obtain ⟨a,ha⟩:=hget i x hx
  have hc:=ih i x a hx ha
  have htk:ts.take (i+1)=ts.take i++[a]:=by rw [List.take_add_one,ha];rfl
  have htl:(ts.take i).length=i:=by rw [List.length_take];have:=(List.getElem?_eq_some_iff.1 ha).1;omega
  generalize ts.take i=q at *
  clear ih hget
  unfold szC at hc
  match q,htl with
  | [],e =>
   obtain rfl:i=0:=e.symm
   replace jI:σ.tm 67=.int .i64 0:=jI
   have z0:((0:Int)<((3:Nat):Int))=True:=by simp
   rw [padF0] at jb
   simp only [htk,List.nil_append,padF1]
   first|refine wq_ ?_|exact wk_
   all_goals first|rfl|exact ag_
  | [b],e =>
   obtain rfl:i=1:=e.symm
   replace jI:σ.tm 67=.int .i64 1:=jI
   have z0:((1:Int)<((3:Nat):Int))=True:=by simp
   rw [padF1] at jb
   simp only [htk,List.cons_append,List.nil_append,padF2]
   first|refine wq_ ?_|exact wk_
   all_goals first|rfl|exact ag_
  | [b,c],e =>
   obtain rfl:i=2:=e.symm
   replace jI:σ.tm 67=.int .i64 2:=jI
   have z0:((2:Int)<((3:Nat):Int))=True:=by simp
   rw [padF2] at jb
   simp only [htk,List.cons_append,List.nil_append,padF3]
   first|refine wq_ ?_|exact wk_
   all_goals first|rfl|exact ag_
  | _::_::_::_,e=>simp at e;omega
 ·
  intro σ ga0 hgl_ga0 hgn jS ⟨jA,jb⟩
  obtain ⟨jT,jB⟩:=jS
  simp only [go_sem] at jT jB
  obtain ⟨hgf,hgf0,eg_gen_ga0,eh_gen_ga0⟩:=rnd hgn hgl_ga0 jA
  clear hgn
  rw [hlen'] at jb
  have pl:(padF ts).length=9∧weakL (padF ts)=padS ts:=by
   have:ts.length≤3:=by rw [← hlen',List.length_take];omega
   clear jb hnode hlen'
   match ts,this with
   | [],_=>exact ⟨rfl,by simp [padF0,padS0,weakL,weak,weakLL]⟩
   | [a],_=>exact ⟨rfl,by simp [padF1,padS1,weakL,weak,weakLL,weakLL_Ty]⟩
   | [a,b],_=>exact ⟨rfl,by simp [padF2,padS2,weakL,weak,weakLL,weakLL_Ty]⟩
   | [a,b,c],_=>exact ⟨rfl,by simp [padF3,padS3,weakL,weak,weakLL,weakLL_Ty]⟩
   | _::_::_::_::_,h=>simp at h
  clear ih hget hlen'
  generalize padF ts=pc at *
  generalize padS ts=pd at *
  obtain ⟨pl,pw⟩:=pl
  have pt:List.take 9 pc=pc:=List.take_of_length_le (by omega)
  exact wk_
theorem TyG.fun1 {a b:Ty} (h:TyG (tFun a b)):TyG a∧TyG b:=by
 obtain ⟨h1,h2⟩:=h
 cases h1 with
 | func ha hb=>rw [tySz_fun] at h2;exact ⟨⟨ha,by omega⟩,⟨hb,by omega⟩⟩
theorem c_typeOf {g:List Ty} {t:Tm} {s:Ty} (h:HasTy TyG g t s):(∀ y∈g,TyW y)→TmW t→g.length+tmSz t≤1000000 →
  Pure Tryz.prog env 73 [.sl .any (g.map szC),.agg t.cells] (.tup [.agg (szC s),.int .i64 0]):=by
 induction h with
 | @var g i t hi hg =>
  intro hw _ hb h
  rw [tmSz_v] at hb
  have e1:(tmVar (i:Int)).kind=1:=rfl
  have e2:(tmVar (i:Int)).index=(i:Int):=rfl
  have w1:IntKind.i64.wrap ((g.length:Int) - 1)=((g.length - 1:Nat):Int):=wrap_eq (by omega) (by omega) (by omega)
  have w2:IntKind.i64.wrap (((g.length - 1:Nat):Int) - (i:Int))=((g.length - 1 - i:Nat):Int):=wrap_eq (by omega) (by omega) (by omega)
  have hd:decide ((i:Int)≥(g.length:Int))=false:=by simp;omega
  generalize tmVar (i:Int)=x at *
  clear hw hi
  exact ek_ Tryz.func73 [.cell 4 130,.tmp 5]
 | @lam g a b t ht _ ih =>
  intro hw hW hb h
  rw [tmSz_T1] at hb
  have hwa:TyW a:=hW.ty
  have wt:TmW t:=hW.arg (by simp [tmT,Tm.args])
  have hc:=ih (by intro y hy;rcases List.mem_append.1 hy with hy|hy;exact hw y hy;simp at hy;subst hy;exact hwa) wt (by simp;omega)
  have r1:=c_sOf a hwa
  obtain ⟨ga,gb⟩:=TyG.fun1 ht
  have hz:=ht.2
  rw [tySz_fun] at hz
  have r2:=c_sJoin 4 a b ga gb (by omega) (by have:=tyN_G ht;rw [tySz_fun] at this;unfold tFun at this;rw [this];omega)
  have e:Ty.mk 4 [a,b]=tFun a b:=rfl
  rw [e] at r2
  have e1:(tmT 2 a [t]).kind=2:=rfl
  have e2:(tmT 2 a [t]).type=a:=rfl
  have e3:(tmT 2 a [t]).args=[t]:=rfl
  have n0:((0:Int) != 0)=false:=rfl
  have hwk:weakLL (g.map szC++[szC a])=(g++[a]).map szC:=by rw [← weakLL_sz (g++[a])];simp
  have b3:(g.length+1) * 40≤140737488355328:=by omega
  have b4:g.length+1≤140737488355328:=by omega
  have t1:(0:Int)≤(g.length:Int):=by omega
  have t2:((g.length:Int)).toNat=g.length:=Int.toNat_natCast _
  have t3:List.take g.length (g.map szC)=g.map szC:=List.take_of_length_le (by simp)
  have t4:0≤g.length:=by omega
  have t5:g.length≤g.length:=Nat.le_refl _
  have mn:∀ (f:Operand→V),Option.map f none=none:=fun _=>rfl
  have ml:(g.map szC).length=g.length:=by simp
  generalize tmT 2 a [t]=x at *
  clear hw hW ih wt hwa ht ga gb hz e
  generalize tFun a b=q at *
  exact ek_ Tryz.func73 [.cell 4 130,.tmp 5]
 | @n0 g k ty s hN =>
  intro hw hW hb
  exact c_typeOfNode g k ty hW.ty [] [] s hN rfl (by simp) ((HasTy.n0 (g:=g) hN).W hw hW).1 (by intro j x a hx;simp at hx)
 | @n1 g k ty s a x hN h1 ih1 =>
  intro hw hW hb
  have z:tmSz (tmT k ty [x])=tmSz x+1:=tmSz_T1
  have w1:TmW x:=hW.arg (by simp [tmT,Tm.args])
  refine c_typeOfNode g k ty hW.ty [x] [a] s hN rfl (by simp [(h1.W hw w1).1]) ((HasTy.n1 hN h1).W hw hW).1 ?_
  intro j y b hy hb'
  match j with
  | 0=>simp at hy hb';subst hy;subst hb';exact ih1 hw w1 (by omega)
  | j+1=>simp at hy
 | @n2 g k ty s a b x y hN h1 h2 ih1 ih2 =>
  intro hw hW hb
  have z:tmSz (tmT k ty [x,y])=tmSz x+tmSz y+1:=by simp [tmT,tmSz,tmSzL]
  have w1:TmW x:=hW.arg (by simp [tmT,Tm.args])
  have w2:TmW y:=hW.arg (by simp [tmT,Tm.args])
  refine c_typeOfNode g k ty hW.ty [x,y] [a,b] s hN rfl (by simp [(h1.W hw w1).1,(h2.W hw w2).1]) ((HasTy.n2 hN h1 h2).W hw hW).1 ?_
  intro j u v hu hv
  match j with
  | 0=>simp at hu hv;subst hu;subst hv;exact ih1 hw w1 (by omega)
  | 1=>simp at hu hv;subst hu;subst hv;exact ih2 hw w2 (by omega)
  | j+2=>simp at hu
 | @n3 g k ty s a b c x y z hN h1 h2 h3 ih1 ih2 ih3 =>
  intro hw hW hb
  have zz:tmSz (tmT k ty [x,y,z])=tmSz x+(tmSz y+tmSz z)+1:=tmSz_T3
  have w1:TmW x:=hW.arg (by simp [tmT,Tm.args])
  have w2:TmW y:=hW.arg (by simp [tmT,Tm.args])
  have w3:TmW z:=hW.arg (by simp [tmT,Tm.args])
  refine c_typeOfNode g k ty hW.ty [x,y,z] [a,b,c] s hN rfl (by simp [(h1.W hw w1).1,(h2.W hw w2).1,(h3.W hw w3).1]) ((HasTy.n3 hN h1 h2 h3).W hw hW).1 ?_
  intro j u v hu hv
  match j with
  | 0=>simp at hu hv;subst hu;subst hv;exact ih1 hw w1 (by omega)
  | 1=>simp at hu hv;subst hu;subst hv;exact ih2 hw w2 (by omega)
  | 2=>simp at hu hv;subst hu;subst hv;exact ih3 hw w3 (by omega)
  | j+3=>simp at hu
end Go.Proofs.YtmnplkmphgkooaaGreatDoor
