/-
 Walks: several parts in one text.
-/
import Derived.Test.YteaijonkbbkkjaaGreatDoorNx
import Derived.Test.YteaijonkbbkkjaaGreatDoorMb
import Derived.Test.YteaijonkbbkkjaaGreatDoorAbsD
set_option linter.unusedSimpArgs false
set_option linter.unusedVariables false
set_option maxRecDepth 20000
set_option maxHeartbeats 4000000
namespace Go.Proofs.YteaijonkbbkkjaaGreatDoor
open Go GoAbs Go.Proofs
def tyN (t:Ty):Int:=(chk 64 t.nodes).1
theorem bS0 {t:Ty} (h:TyG t):tyN t=(D7 t:Int):=by
 unfold tyN;rw [h.1.nodes (by have:=h.2;omega),chk,if_neg (by have:=h.2;omega)]
theorem Q2 (t:Ty):t.cells=[.int .i64 t.kind,.sl .any (t.args.map Ty.cells)]:=by cases t;simp [Ty.p9,Ty.J5,Ty.J4]
def szC (t:Ty):List V:=[.int .i64 t.kind,.sl .any (t.args.map Ty.cells),.int .i64 (tyN t)]
theorem aX3 (t:Ty) (ht:TyW t):Pure Tryz.prog env 137 [.agg t.cells] (.agg (szC t)):=by
 intro h;have hc:=ay3 t ht;unfold two at hc;unfold szC tyN;exact ek_ Tryz.func137 [.cell 2 166]
theorem aS8 (t:Ty) (k:Int):Pure Tryz.prog env 205 [.agg (szC t),.int .i64 k] (.bool (t.kind==k)):=by
 intro h;unfold szC;exact ek_ Tryz.func205 [.tmp 4]
theorem bn3 (t:Ty) (i:Nat) (a:Ty) (ha:t.args[i]? = some a) (hw:TyW a):Pure Tryz.prog env 232 [.agg (szC t),.int .i64 i] (.agg (szC a)):=by
 intro h;have hc:=aX3 a hw;have hlt:i<t.args.length:=(List.getElem?_eq_some_iff.1 ha).1;unfold szC at *;exact ek_ Tryz.func232 [.cell 4 166]
theorem bN8 (t:Ty) (ht:TyW t):Pure Tryz.prog env 233 [.agg (szC t),.agg (szC t)] (.bool true):=by
 intro h;have hc:=an0 t ht t ht;rw [Ty.O6,Q2] at hc;have bq:(tyN t==tyN t)=true:=beq_self_eq_true _;unfold szC;exact ek_ Tryz.func233 [.tmp 4]
theorem bP1 (k:Int) (a b:Ty) (ha:TyG a) (hb:TyG b) (hs:D7 a+D7 b≤63) (hn:(tyN (.mk k [a,b]))=1+(D7 a:Int)+(D7 b:Int)) :
  Pure Tryz.prog env 219 [.int .i64 k,.agg (szC a),.agg (szC b)] (.tup [.agg (szC (.mk k [a,b])),.int .i64 0]):=by
 intro h;unfold szC;rw [hn,bS0 ha,bS0 hb];have w1:IntKind.i64.wrap (1+(D7 a:Int))=1+(D7 a:Int):=w8 rfl om_ om_;have w2:IntKind.i64.wrap (1+(D7 a:Int)+(D7 b:Int))=1+(D7 a:Int)+(D7 b:Int):=w8 rfl om_ om_;have hd:decide (1+(D7 a:Int)+(D7 b:Int)>64)=false:=by simp;omega
 clear hs hn;refine en_ Tryz.func219 [.cell 6 166,.tmp 7] fun g0 w0 gen b7 hfr c6 m0=>?_
 first|refine wq_ ?_|exact wk_
 all_goals simp [Ty.kind,Ty.args,Q2]
theorem bR3:Pure Tryz.prog env 179 [] (.agg C8.cells):=by
 intro h;unfold C8;refine en_ Tryz.func179 [.cell 0 27] fun g0 w0 gen b7 hfr c6 m0=>?_
 first|refine wq_ ?_|exact wk_
 all_goals simp [Q2,Ty.kind,Ty.args]
def aH2 (l:List Ty) (r:Ty):Ty:=l.foldr G1 r
theorem bV4 {l:List Ty} {r:Ty} {j:Nat} {x:Ty} (h:l[j]? = some x):G1 x (aH2 (l.drop (j+1)) r)=aH2 (l.drop j) r:=by
 rw [A2 h];rfl
theorem cj0 (r:Ty) (l:List Ty) (hl:l.length≤1000):Pure Tryz.prog env 239 [.agg r.cells,.sl .any (l.map Ty.cells)] (.agg (aH2 l r).cells):=by
 intro h;have hw0:IntKind.i64.wrap ((l.length:Int) - 1)=(l.length:Int) - 1:=w8 rfl om_ om_;refine en_ Tryz.func239 [.cell 4 27] fun g0 w0 gen b7 hfr c6 m0=>?_;refine wq_ ?_;refine B1 (fun i σ=>σ.tm 5=.int .i64 ((l.length:Int) - 1 - i)∧σ.tm 1=.sl .any (l.map Ty.cells)∧σ.tm 2=.ptr ⟨gen,0,0⟩ 0∧σ.tm 4=.ptr ⟨gen,0,1⟩ 0 ∧
  σ.h ⟨gen,0,0⟩=some (.box (aH2 (l.drop (l.length - i)) r).cells)∧σ.h ⟨gen,0,1⟩=some (.box [.int .i64 0,.sl .full []])∧g9 h σ.h∧i≤l.length) l.length ?_ ?_
 ·have e:(l.drop (l.length - 0))=[]:=by simp
  simp only [go_sem, *,e];exact ⟨sp_,rfl,ag_,om_⟩
 intro i σ hi ⟨j1,j2,j3,j4,j5,j6,j7,j8⟩;clear j8;have hw1:IntKind.i64.wrap ((l.length:Int) - 1 - (i:Int) - 1)=(l.length:Int) - 1 - (i:Int) - 1:=w8 rfl om_ om_;rcases Nat.lt_or_ge i l.length with hlt|hge
 ·have hd:decide ((l.length:Int) - 1 - (i:Int)≥0)=true:=by simp;omega
  have e0:l.length - (i+1)+1=l.length - i:=by omega
  obtain ⟨x,hx⟩:∃ x,l[l.length - (i+1)]? = some x:=⟨_,List.getElem?_eq_getElem om_⟩;have hst:=bV4 (r:=r) hx;rw [e0] at hst;rw [← hst];have e2:((l.length:Int) - 1 - (i:Int)).toNat=l.length - (i+1):=by omega
  have e3:0≤(l.length:Int) - 1 - (i:Int):=by omega
  have e4:(l.length:Int) - 1 - ((i+1:Nat):Int)=(l.length:Int) - 1 - (i:Int) - 1:=by omega
  have e5:i+1≤l.length:=by omega
  clear hst;generalize aH2 (l.drop (l.length - i)) r=b' at *;have Y0:(G1 x b').cells=[.int .i64 4,.sl .any [x.cells,b'.cells]]:=by simp [Q2,G1,Ty.kind,Ty.args]
  clear hi
  repeat' (first
   |(refine ⟨?_,?_⟩;focus ((repeat' (first|refine ⟨?_,?_⟩|refine .inr ?_));all_goals kernel_rfl))
   | (first|refine wp rfl ?_|refine spt rfl ?_|refine spf rfl ?_|(refine spl (fun hc=>?_) fun hc=>?_)<;>(try rw [beq_iff_eq] at hc)<;>try simp only [hc])<;>try simp only [go_sem, *])
  refine ai3 ⟨gen,0,0⟩ sr_ ?_;refine u7 ?_;simp only [go_sem, *];exact ag_
 ·have hd:decide ((l.length:Int) - 1 - (i:Int)≥0)=false:=by simp;omega
  have e0:l.length - i=0:=by omega
  rw [e0,List.drop_zero] at j5;exact wk_
def aY8 (k:Int):List Int:=if k==4 then [1] else if k==5 then [1,1] else if k==7 then [2] else if k==8 then [2,1,2] else if k==13 then [5] else []
theorem ae7 (k:Int) (vs:List Int) (hv:aY8 k=vs):Pure Tryz.prog env 231 [.int .i64 k] (.sl .any (vs.map fun i=>[.int .i64 i])):=by
 intro h;subst hv;unfold aY8;refine en_ Tryz.func231 [.tmp 2] fun g0 w0 gen b7 hfr c6 m0=>?_
 repeat' (first
  |exact hin _|exact agf as_
  | (first|refine wp rfl ?_|refine spt rfl ?_|refine spf rfl ?_|(refine spl (fun hc=>?_) fun hc=>?_)<;>(try rw [beq_iff_eq] at hc)<;>try simp only [hc]|refine A9 b7 ?_ ?_ ?_)<;>try simp only [go_sem, *])
 all_goals simp_all
theorem cw7 (t:Tm) (hk:t.kind=6∨t.kind=9):Pure Tryz.prog env 234 [.agg t.cells] (.agg (if t.kind==9 then aH2 [r5,C8,t.type] t.type else aH2 [r5,t.type] t.type).cells):=by
 intro h;have h2:=cj0 t.type [r5,t.type] sp_;have h3:=cj0 t.type [r5,C8,t.type] sp_;simp only [List.map_cons,List.map_nil] at h2 h3;rcases hk with hk|hk
 all_goals
  rw [hk];simp only [Int.reduceBEq,Bool.false_eq_true,if_false,if_true];have zq0:=ba1;have zq1:=bR3;exact ek_ Tryz.func234 [.cell 2 27]
def zS:List V:=[.int .i64 0,.sl .any [],.int .i64 0]
def aL0 (ts:List Ty):List V:=ts.flatMap szC++(List.replicate (3 - ts.length) zS).flatten
theorem cM2:aL0 []=[.int .i64 0,.sl .any [],.int .i64 0,.int .i64 0,.sl .any [],.int .i64 0,.int .i64 0,.sl .any [],.int .i64 0]:=rfl
theorem bQ7 {a:Ty}:aL0 [a]=[.int .i64 a.kind,.sl .any (a.args.map Ty.cells),.int .i64 (tyN a),.int .i64 0,.sl .any [],.int .i64 0,.int .i64 0,.sl .any [],.int .i64 0]:=rfl
theorem bP4 {a b:Ty}:aL0 [a,b]=[.int .i64 a.kind,.sl .any (a.args.map Ty.cells),.int .i64 (tyN a),.int .i64 b.kind,.sl .any (b.args.map Ty.cells),.int .i64 (tyN b),.int .i64 0,.sl .any [],.int .i64 0]:=rfl
theorem ct1 {a b c:Ty}:aL0 [a,b,c]=[.int .i64 a.kind,.sl .any (a.args.map Ty.cells),.int .i64 (tyN a),.int .i64 b.kind,.sl .any (b.args.map Ty.cells),.int .i64 (tyN b),.int .i64 c.kind,.sl .any (c.args.map Ty.cells),.int .i64 (tyN c)]:=rfl
theorem bj9 (t:Tm) (k:Int) (hk:aY8 t.kind=[k]) (hw:TyW (.mk k [])):Pure Tryz.prog env 220 [.agg t.cells,.agg (aL0 [])] (.tup [.agg (szC (.mk k [])),.int .i64 0]):=by
 intro h;have h1:=ae7 t.kind _ hk;have h2:=aX3 (.mk k []) hw;simp only [Q2,Ty.J5,Ty.J4,List.map_nil,List.map_cons] at h1 h2;rw [cM2];unfold szC at *;simp only [Ty.J5,Ty.J4,List.map_nil] at *;clear hk;have mn:∀ (f:Operand→V),Option.map f none=none:=fun _=>rfl;have p1:decide (((1:Nat):Int)>0)=true:=rfl;have p2:decide (((2:Nat):Int)>0)=true:=rfl;have p3:decide (((3:Nat):Int)>0)=true:=rfl;refine en_ Tryz.func220 [.cell 4 166,.tmp 5] fun g0 w0 gen b7 hfr c6 m0=>?_;refine wq_ ?_;refine ar_ [2,3,4,6,18] [⟨gen,0,0⟩,⟨gen,0,1⟩,⟨gen,0,2⟩] (fun i σ=>g9 h σ.h∧True) (([]:List Int)).length ?_ ?_ ?_
 ·simp only [go_sem, *]
  exact ag_
 ·
  intro i σ gr0 l6 hgn hlt jI jN jS ⟨jA,jU⟩;obtain ⟨jT,jB⟩:=jS;simp only [go_sem] at jT jB;obtain ⟨hgf,m6,n7,n8⟩:=rnd hgn l6 jA;obtain ⟨x,hx,hxm,hm⟩:=rnx hlt;clear hgn;exact absurd hlt sp_
 ·
  intro σ ga0 l9 hgn jS ⟨jA,jU⟩;obtain ⟨jT,jB⟩:=jS;simp only [go_sem] at jT jB;obtain ⟨hgf,m6,n9,o0⟩:=rnd hgn l9 jA;clear hgn;exact wk_
theorem cy2 (t:Tm) (k:Int) (a:Ty) (hk:aY8 t.kind=[k,a.kind]) (hw:TyW (.mk k [])):Pure Tryz.prog env 220 [.agg t.cells,.agg (aL0 [a])] (.tup [.agg (szC (.mk k [])),.int .i64 0]):=by
 intro h;have h1:=ae7 t.kind _ hk;have h2:=aX3 (.mk k []) hw;have i1:=aS8 a a.kind;rw [show (a.kind==a.kind)=true from beq_self_eq_true _] at i1;simp only [Q2,Ty.J5,Ty.J4,List.map_nil,List.map_cons] at h1 h2;rw [bQ7];unfold szC at *;simp only [Ty.J5,Ty.J4,List.map_nil] at *;clear hk;have mn:∀ (f:Operand→V),Option.map f none=none:=fun _=>rfl;have p1:decide (((1:Nat):Int)>0)=true:=rfl;have p2:decide (((2:Nat):Int)>0)=true:=rfl;have p3:decide (((3:Nat):Int)>0)=true:=rfl;refine en_ Tryz.func220 [.cell 4 166,.tmp 5] fun g0 w0 gen b7 hfr c6 m0=>?_;refine wq_ ?_;refine ar_ [2,3,4,6,18] [⟨gen,0,0⟩,⟨gen,0,1⟩,⟨gen,0,2⟩] (fun i σ=>g9 h σ.h∧True) ([a.kind]).length ?_ ?_ ?_
 ·simp only [go_sem, *]
  exact ag_
 ·
  intro i σ gr0 l6 hgn hlt jI jN jS ⟨jA,jU⟩;obtain ⟨jT,jB⟩:=jS;simp only [go_sem] at jT jB;obtain ⟨hgf,m6,n7,n8⟩:=rnd hgn l6 jA;obtain ⟨x,hx,hxm,hm⟩:=rnx hlt;clear hgn;obtain rfl:i=0:=by simpa using hlt
  replace jI:σ.tm 20=.int .i64 0:=jI;have z0:((0:Int)<((3:Nat):Int))=True:=by simp
  simp at hx;subst hx
  first|refine wq_ ?_|exact wk_
  all_goals rfl
 ·
  intro σ ga0 l9 hgn jS ⟨jA,jU⟩;obtain ⟨jT,jB⟩:=jS;simp only [go_sem] at jT jB;obtain ⟨hgf,m6,n9,o0⟩:=rnd hgn l9 jA;clear hgn;exact wk_
theorem cx2 (t:Tm) (k:Int) (a b:Ty) (hk:aY8 t.kind=[k,a.kind,b.kind]) (hw:TyW (.mk k [])):Pure Tryz.prog env 220 [.agg t.cells,.agg (aL0 [a,b])] (.tup [.agg (szC (.mk k [])),.int .i64 0]):=by
 intro h;have h1:=ae7 t.kind _ hk;have h2:=aX3 (.mk k []) hw;have i1:=aS8 a a.kind;rw [show (a.kind==a.kind)=true from beq_self_eq_true _] at i1;have i2:=aS8 b b.kind;rw [show (b.kind==b.kind)=true from beq_self_eq_true _] at i2;simp only [Q2,Ty.J5,Ty.J4,List.map_nil,List.map_cons] at h1 h2;rw [bP4];unfold szC at *;simp only [Ty.J5,Ty.J4,List.map_nil] at *;clear hk;have mn:∀ (f:Operand→V),Option.map f none=none:=fun _=>rfl;have p1:decide (((1:Nat):Int)>0)=true:=rfl;have p2:decide (((2:Nat):Int)>0)=true:=rfl;have p3:decide (((3:Nat):Int)>0)=true:=rfl;refine en_ Tryz.func220 [.cell 4 166,.tmp 5] fun g0 w0 gen b7 hfr c6 m0=>?_;refine wq_ ?_;refine ar_ [2,3,4,6,18] [⟨gen,0,0⟩,⟨gen,0,1⟩,⟨gen,0,2⟩] (fun i σ=>g9 h σ.h∧True) ([a.kind,b.kind]).length ?_ ?_ ?_
 ·simp only [go_sem, *]
  exact ag_
 ·
  intro i σ gr0 l6 hgn hlt jI jN jS ⟨jA,jU⟩;obtain ⟨jT,jB⟩:=jS;simp only [go_sem] at jT jB;obtain ⟨hgf,m6,n7,n8⟩:=rnd hgn l6 jA;obtain ⟨x,hx,hxm,hm⟩:=rnx hlt;clear hgn
  match i,hlt with
  | 0,_ =>
   replace jI:σ.tm 20=.int .i64 0:=jI;have z0:((0:Int)<((3:Nat):Int))=True:=by simp
   simp at hx;subst hx
   first|refine wq_ ?_|exact wk_
   all_goals rfl
  | 1,_ =>
   replace jI:σ.tm 20=.int .i64 1:=jI;have z1:((1:Int)<((3:Nat):Int))=True:=by simp
   simp at hx;subst hx
   first|refine wq_ ?_|exact wk_
   all_goals rfl
  | i+2,h2=>simp at h2;omega
 ·
  intro σ ga0 l9 hgn jS ⟨jA,jU⟩;obtain ⟨jT,jB⟩:=jS;simp only [go_sem] at jT jB;obtain ⟨hgf,m6,n9,o0⟩:=rnd hgn l9 jA;clear hgn;exact wk_
theorem cc3 (t:Tm) (a b:Ty) (hk:t.kind=3) (ha:TyW a) (hb:TyW b):Pure Tryz.prog env 220 [.agg t.cells,.agg (aL0 [G1 a b,a])] (.tup [.agg (szC b),.int .i64 0]):=by
 intro h;have h1:=ae7 3 [] rfl;have i1:=aS8 (G1 a b) 4;have i2:=bn3 (G1 a b) 0 a rfl ha;have i3:=bn3 (G1 a b) 1 b rfl hb;have i4:=bN8 a ha;rw [show ((G1 a b).kind==4)=true from rfl] at i1;generalize G1 a b=f at *;simp only [List.map_nil] at h1;rw [bP4];unfold szC at *;have p0:decide (((0:Nat):Int)>0)=false:=rfl;have z0:((0:Int)<((3:Nat):Int))=True:=by simp
 have z1:((1:Int)<((3:Nat):Int))=True:=by simp
 exact ek_ Tryz.func220 [.cell 4 166,.tmp 5]
theorem bg2 (t:Tm) (x:Ty) (hx:TyW x) (hk:(t.kind=6∧x=r5)∨(t.kind=9∧x=C8)) (ht:TyW t.type) (hs:TyW (if t.kind==9 then aH2 [r5,C8,t.type] t.type else aH2 [r5,t.type] t.type)) :
  Pure Tryz.prog env 220 [.agg t.cells,.agg (aL0 [t.type,if t.kind==9 then aH2 [r5,C8,t.type] t.type else aH2 [r5,t.type] t.type,x])] (.tup [.agg (szC t.type),.int .i64 0]):=by
 intro h;have h2:=cw7 t (by rcases hk with h|h;exact .inl h.1;exact .inr h.1);have i1:=aX3 t.type ht;have i2:=bN8 t.type ht;have i3:=an0 _ hs _ hs;rw [Ty.O6] at i3;have n1:(6:Int)=9↔False:=by simp
 have p0:decide (((0:Nat):Int)>0)=false:=rfl;have z0:((0:Int)<((3:Nat):Int))=True:=by simp
 have z1:((1:Int)<((3:Nat):Int))=True:=by simp
 have z2:((2:Int)<((3:Nat):Int))=True:=by simp
 generalize (if t.kind==9 then aH2 [r5,C8,t.type] t.type else aH2 [r5,t.type] t.type)=f at *;have fc:=Q2 f;rw [fc] at i3 h2;rcases hk with ⟨hk,rfl⟩|⟨hk,rfl⟩
 ·have h1:=ae7 6 [] rfl
  have i4:=aS8 r5 1;rw [show (r5.kind==1)=true from rfl] at i4;simp only [List.map_nil] at h1;rw [ct1];unfold szC at *;generalize r5=u at *;clear hs ht fc;exact ek_ Tryz.func220 [.cell 4 166,.tmp 5]
 ·have h1:=ae7 9 [] rfl
  have i4:=aS8 C8 2;rw [show (C8.kind==2)=true from rfl] at i4;simp only [List.map_nil] at h1;rw [ct1];unfold szC at *;generalize C8=u at *;clear hs ht fc;exact ek_ Tryz.func220 [.cell 4 166,.tmp 5]
theorem bE6 (t:Tm) (a b:Ty) (hk:t.kind=10) (hp:TyG (E9 a b)):Pure Tryz.prog env 220 [.agg t.cells,.agg (aL0 [a,b])] (.tup [.agg (szC (E9 a b)),.int .i64 0]):=by
 intro h;have h1:=ae7 10 [] rfl;obtain ⟨ga,gb⟩:=hp.bQ2;have hz:=hp.2;rw [P0] at hz;have i1:=bP1 3 a b ga gb om_ (by have:=bS0 hp;rw [P0] at this;unfold E9 at this;rw [this];omega);have e:Ty.mk 3 [a,b]=E9 a b:=rfl;rw [e] at i1;generalize E9 a b=q at *;simp only [List.map_nil] at h1;rw [bP4];unfold szC at *;have p0:decide (((0:Nat):Int)>0)=false:=rfl;have z0:((0:Int)<((3:Nat):Int))=True:=by simp
 have z1:((1:Int)<((3:Nat):Int))=True:=by simp
 clear hp hz e ga gb;exact ek_ Tryz.func220 [.cell 4 166,.tmp 5]
theorem aX7 (t:Tm) (a b:Ty) (j:Nat) (hj:(t.kind=11∧j=0)∨(t.kind=12∧j=1)) (s:Ty) (hs:[a,b][j]? = some s) (hw:TyW s):Pure Tryz.prog env 220 [.agg t.cells,.agg (aL0 [E9 a b])] (.tup [.agg (szC s),.int .i64 0]):=by
 intro h;have i1:=aS8 (E9 a b) 3;have i2:=bn3 (E9 a b) j s hs hw;rw [show ((E9 a b).kind==3)=true from rfl] at i1;generalize E9 a b=q at *;have p0:decide (((0:Nat):Int)>0)=false:=rfl;have z0:((0:Int)<((3:Nat):Int))=True:=by simp
 rcases hj with ⟨hk,rfl⟩|⟨hk,rfl⟩
 ·have h1:=ae7 11 [] rfl
  simp only [List.map_nil] at h1;replace i2:Pure Tryz.prog env 232 [.agg (szC q),.int .i64 0] (.agg (szC s)):=i2;rw [bQ7];unfold szC at *;clear hs;exact ek_ Tryz.func220 [.cell 4 166,.tmp 5]
 ·have h1:=ae7 12 [] rfl
  simp only [List.map_nil] at h1;replace i2:Pure Tryz.prog env 232 [.agg (szC q),.int .i64 1] (.agg (szC s)):=i2;rw [bQ7];unfold szC at *;clear hs;exact ek_ Tryz.func220 [.cell 4 166,.tmp 5]
theorem bk2 (t:Ty):(szC t).length=3:=rfl
theorem dc1 (t:Ty):(szC t)[0]? = some (.int .i64 t.kind):=rfl
theorem df1 (t:Ty):(szC t)[1]? = some (.sl .any (t.args.map Ty.cells)):=rfl
theorem cY6 (t:Ty):(szC t)[2]? = some (.int .i64 (tyN t)):=rfl
theorem cl2 (t:Ty):List.take 3 (szC t)=szC t:=rfl
theorem cS0 (t:Ty):List.take 2 (szC t)=t.cells:=by rw [Q2];rfl
theorem bO3 (t:Ty):(szC t).all ab6=true:=rfl
theorem cc2 {cs:List V} {t:Ty} (h:cs.length=3):I2 cs 0 (szC t)=szC t:=R7 (by rw [h,bk2])
theorem by7 (t:Ty):C7 (szC t)=szC t:=by simp [szC,C7,H2,H8]
theorem aN3 (l:List Ty):B2 (l.map szC)=l.map szC:=by
 rw [H6,List.map_map];exact List.map_congr_left fun x _=>by7 x
theorem cm5 {S:GoAbs.Id→Prop} (t:Ty):InL S (szC t):=by simp [szC,InL,InV,aq0,aC5]
theorem cH5 {S:GoAbs.Id→Prop} (l:List Ty):Z6 S (l.map szC):=by
 rw [S3];intro x hx;obtain ⟨y,_,rfl⟩:=List.mem_map.1 hx;exact cm5 y
theorem aZ2 (l:List Ty):(l.map szC).all (fun e=>e.length==3)=true:=by simp [bk2]
theorem bB7 (l:List Ty):(l.map szC).flatten.all ab6=true:=by
 rw [List.all_eq_true];intro v hv;obtain ⟨c,hc,hv⟩:=List.mem_flatten.1 hv;obtain ⟨x,_,rfl⟩:=List.mem_map.1 hc;exact List.all_eq_true.1 (bO3 x) v hv
attribute [go_sem] bk2 dc1 df1 cY6 cl2 cS0 bO3 cc2 by7 aN3 cm5 cH5 aZ2 bB7
theorem aO5 (g:List Ty) (hg:∀ y∈g,TyW y) (hl:g.length≤1000):Pure Tryz.prog env 82 [.sl .any (g.map Ty.cells)] (.sl .any (g.map szC)):=by
 intro h;have bd2:=aZ2;refine en_ Tryz.func82 [.tmp 2] fun g0 w0 gen b7 hfr c6 m0=>?_;refine wq_ ?_;refine ar_ [2,6] [] (fun i σ=>g9 h σ.h∧T7 h σ.h (σ.tm 3) 3 ((g.take i).map szC)) (g).length ?_ ?_ ?_
 ·simp only [go_sem, *]
  exact ⟨ag_,.inl rfl⟩
 ·
  intro i σ gr0 l6 hgn hlt jI jN jS ⟨jA,jO0⟩;obtain ⟨jT,jB⟩:=jS;simp only [go_sem] at jT jB;obtain ⟨hgf,m6,n7,n8⟩:=rnd hgn l6 jA;obtain ⟨x,hx,hxm,hm⟩:=rnx hlt;clear hgn;have hc:=aX3 x (hg x hxm);have hts:(g.take (i+1)).map szC=(g.take i).map szC++[szC x]:=by rw [B4 hx]
  have htl:(g.take i).length=i:=by rw [List.length_take];omega
  have b1:(i+1) * 40≤140737488355328:=by omega
  have b2:i+1≤140737488355328:=by omega
  repeat' (first
   |(refine U6 jO0 kp_ rfl so_ fr_ sg_ (by intro hd;cases hd) ?_;intro v' h' log' jO jK jAg jAb jF;simp only [go_sem, *])
   | (first|refine wp rfl ?_|refine spt rfl ?_|refine spf rfl ?_|(refine spl (fun hc=>?_) fun hc=>?_)<;>(try rw [beq_iff_eq] at hc)<;>try simp only [hc]|refine cp hc ?_|refine u7 ?_)<;>try simp only [go_sem, *])
  exact jAg (by repeat (first|exact jA|refine g9.new ?_ (m6 _ _)))
 ·
  intro σ ga0 l9 hgn jS ⟨jA,jO0⟩;obtain ⟨jT,jB⟩:=jS;simp only [go_sem] at jT jB;obtain ⟨hgf,m6,n9,o0⟩:=rnd hgn l9 jA;clear hgn;rw [List.take_length] at jO0;obtain ⟨c,jO0⟩:=jO0.val;exact wk_
theorem ce0 (g:List Ty) (a:Ty) (ha:TyW a) (hl:g.length≤100000):Pure Tryz.prog env 138 [.sl .any (g.map szC),.sl .any [a.cells]] (.sl .any ((g++[a]).map szC)):=by
 intro h;have hc:=aO5 [a] (by simpa using ha) sp_;simp only [List.map_cons,List.map_nil] at hc;have hwk:B2 (g.map szC++[szC a])=(g++[a]).map szC:=by rw [← aN3 (g++[a])];simp
 have b3:(g.length+1) * 40≤140737488355328:=by omega
 have b4:g.length+1≤140737488355328:=by omega
 have t1:(0:Int)≤(g.length:Int):=by omega
 have t2:((g.length:Int)).toNat=g.length:=Int.toNat_natCast _;have t3:List.take g.length (g.map szC)=g.map szC:=List.take_of_length_le sp_;have t4:0≤g.length:=by omega
 have t5:g.length≤g.length:=Nat.le_refl _;have mn:∀ (f:Operand→V),Option.map f none=none:=fun _=>rfl;have ml:(g.map szC).length=g.length:=by simp
 exact ek_ Tryz.func138 [.tmp 4]
def zF:List V:=[.int .i64 0,.sl .full [],.int .i64 0]
def bA3 (ts:List Ty):List V:=ts.flatMap szC++(List.replicate (3 - ts.length) zF).flatten
theorem cL5:bA3 []=[.int .i64 0,.sl .full [],.int .i64 0,.int .i64 0,.sl .full [],.int .i64 0,.int .i64 0,.sl .full [],.int .i64 0]:=rfl
theorem ch9 {a:Ty}:bA3 [a]=[.int .i64 a.kind,.sl .any (a.args.map Ty.cells),.int .i64 (tyN a),.int .i64 0,.sl .full [],.int .i64 0,.int .i64 0,.sl .full [],.int .i64 0]:=rfl
theorem cr0 {a b:Ty}:bA3 [a,b]=[.int .i64 a.kind,.sl .any (a.args.map Ty.cells),.int .i64 (tyN a),.int .i64 b.kind,.sl .any (b.args.map Ty.cells),.int .i64 (tyN b),.int .i64 0,.sl .full [],.int .i64 0]:=rfl
theorem cK7 {a b c:Ty}:bA3 [a,b,c]=[.int .i64 a.kind,.sl .any (a.args.map Ty.cells),.int .i64 (tyN a),.int .i64 b.kind,.sl .any (b.args.map Ty.cells),.int .i64 (tyN b),.int .i64 c.kind,.sl .any (c.args.map Ty.cells),.int .i64 (tyN c)]:=rfl
theorem al4 (g:List Ty) (k:Int) (ty:Ty) (hty:TyW ty) (l:List Tm) (ts:List Ty) (s:Ty) (hN:S7 TyG k ty ts s) (hlen:l.length=ts.length) (hts:∀ y∈ts,TyW y) (hws:TyW s)
  (ih:∀ (j:Nat) (x:Tm) (a:Ty),l[j]? = some x→ts[j]? = some a→Pure Tryz.prog env 204 [.sl .any (g.map szC),.agg x.cells] (.tup [.agg (szC a),.int .i64 0])) :
  Pure Tryz.prog env 204 [.sl .any (g.map szC),.agg (tmT k ty l).cells] (.tup [.agg (szC s),.int .i64 0]):=by
 intro h;have hl3:l.length≤3:=by rw [hlen];cases hN<;>simp
 have cL9:Pure Tryz.prog env 220 [.agg (tmT k ty l).cells,.agg (aL0 ts)] (.tup [.agg (szC s),.int .i64 0]):=by
  cases hN with
  | app=>exact cc3 _ _ _ rfl (hts _ sp_) hws
  | zero=>exact bj9 _ 1 rfl hws
  | succ=>exact cy2 _ 1 r5 rfl hws
  | av8=>exact bg2 (tmT 6 ty l) r5 K4 (.inl ⟨rfl,rfl⟩) hty (hts _ (by simp [tmT,Tm.kind,Tm.type,aH2]))
  | nil=>exact bj9 _ 2 rfl hws
  | cons=>exact cx2 _ 2 r5 C8 rfl hws
  | fold=>exact bg2 (tmT 9 ty l) C8 Z0 (.inr ⟨rfl,rfl⟩) hty (hts _ (by simp [tmT,Tm.kind,Tm.type,aH2]))
  | pair hp=>exact bE6 _ _ _ rfl hp
  | fst=>exact aX7 _ _ _ 0 (.inl ⟨rfl,rfl⟩) _ rfl hws
  | snd=>exact aX7 _ _ _ 1 (.inr ⟨rfl,rfl⟩) _ rfl hws
  | unit=>exact bj9 _ 5 rfl hws
 have hk1:(k==1)=false:=by cases hN<;>rfl
 have hk2:(k==2)=false:=by cases hN<;>rfl
 have e1:(tmT k ty l).kind=k:=rfl;have e3:(tmT k ty l).args=l:=rfl;generalize tmT k ty l=t at *;have n0:((0:Int) != 0)=false:=rfl;have I8:∀ (i:Nat) (x:Tm),l[i]? = some x→∃ a,ts[i]? = some a:=fun i x hx=>⟨_,List.getElem?_eq_getElem (by have:=(List.getElem?_eq_some_iff.1 hx).1;omega)⟩;have aI8:ts.take l.length=ts:=by rw [hlen,List.take_length]
 clear hlen hws hty hN hts;refine en_ Tryz.func204 [.cell 4 166,.tmp 5] fun g0 w0 gen b7 hfr c6 m0=>?_;refine wq_ ?_;refine ar_ [0,3,4,9,65] [⟨gen,0,0⟩,⟨gen,0,1⟩] (fun i σ=>g9 h σ.h∧σ.h ⟨gen,11,0⟩=some (.box (bA3 (ts.take i)))) (l).length ?_ ?_ ?_
 ·simp only [go_sem, *]
  exact ⟨ag_,rfl⟩
 ·clear aI8 cL9
  intro i σ gr0 l6 hgn hlt jI jN jS ⟨jA,jb⟩;obtain ⟨jT,jB⟩:=jS;simp only [go_sem] at jT jB;obtain ⟨hgf,m6,n7,n8⟩:=rnd hgn l6 jA;obtain ⟨x,hx,hxm,hm⟩:=rnx hlt;clear hgn;obtain ⟨a,ha⟩:=I8 i x hx;have hc:=ih i x a hx ha;have htk:ts.take (i+1)=ts.take i++[a]:=by rw [List.take_add_one,ha];rfl
  have htl:(ts.take i).length=i:=by rw [List.length_take];have:=(List.getElem?_eq_some_iff.1 ha).1;omega
  generalize ts.take i=q at *;clear ih I8;unfold szC at hc
  match q,htl with
  | [],e =>
   obtain rfl:i=0:=e.symm;replace jI:σ.tm 67=.int .i64 0:=jI;have z0:((0:Int)<((3:Nat):Int))=True:=by simp
   rw [cL5] at jb;simp only [htk,List.nil_append,ch9]
   first|refine wq_ ?_|exact wk_
   all_goals first|rfl|exact ag_
  | [b],e =>
   obtain rfl:i=1:=e.symm;replace jI:σ.tm 67=.int .i64 1:=jI;have z0:((1:Int)<((3:Nat):Int))=True:=by simp
   rw [ch9] at jb;simp only [htk,List.cons_append,List.nil_append,cr0]
   first|refine wq_ ?_|exact wk_
   all_goals first|rfl|exact ag_
  | [b,c],e =>
   obtain rfl:i=2:=e.symm;replace jI:σ.tm 67=.int .i64 2:=jI;have z0:((2:Int)<((3:Nat):Int))=True:=by simp
   rw [cr0] at jb;simp only [htk,List.cons_append,List.nil_append,cK7]
   first|refine wq_ ?_|exact wk_
   all_goals first|rfl|exact ag_
  | _::_::_::_,e=>simp at e;omega
 ·
  intro σ ga0 l9 hgn jS ⟨jA,jb⟩;obtain ⟨jT,jB⟩:=jS;simp only [go_sem] at jT jB;obtain ⟨hgf,m6,n9,o0⟩:=rnd hgn l9 jA;clear hgn;rw [aI8] at jb;have pl:(bA3 ts).length=9∧C7 (bA3 ts)=aL0 ts:=by
   have:ts.length≤3:=by rw [← aI8,List.length_take];omega
   clear jb cL9 aI8
   match ts,this with
   | [],_=>exact ⟨rfl,by simp [cL5,cM2,C7,H2,B2]⟩
   | [a],_=>exact ⟨rfl,by simp [ch9,bQ7,C7,H2,B2,H8]⟩
   | [a,b],_=>exact ⟨rfl,by simp [cr0,bP4,C7,H2,B2,H8]⟩
   | [a,b,c],_=>exact ⟨rfl,by simp [cK7,ct1,C7,H2,B2,H8]⟩
   | _::_::_::_::_,h=>simp at h
  clear ih I8 aI8;generalize bA3 ts=pc at *;generalize aL0 ts=pd at *;obtain ⟨pl,pw⟩:=pl;have pt:List.take 9 pc=pc:=List.take_of_length_le om_;exact wk_
theorem TyG.ce2 {a b:Ty} (h:TyG (G1 a b)):TyG a∧TyG b:=by
 obtain ⟨h1,h2⟩:=h;cases h1 with
 | func ha hb=>rw [M6] at h2;exact ⟨⟨ha,om_⟩,⟨hb,om_⟩⟩
theorem bB2 {g:List Ty} {t:Tm} {s:Ty} (h:w7 TyG g t s):(∀ y∈g,TyW y)→TmW t→g.length+m7 t≤1000000 →
  Pure Tryz.prog env 204 [.sl .any (g.map szC),.agg t.cells] (.tup [.agg (szC s),.int .i64 0]):=by
 induction h with
 | @var g i t hi hg =>
  intro hw _ hb h;rw [ao7] at hb;have e1:(u5 (i:Int)).kind=1:=rfl;have e2:(u5 (i:Int)).index=(i:Int):=rfl;have w1:IntKind.i64.wrap ((g.length:Int) - 1)=((g.length - 1:Nat):Int):=w8 om_ om_ om_;have w2:IntKind.i64.wrap (((g.length - 1:Nat):Int) - (i:Int))=((g.length - 1 - i:Nat):Int):=w8 om_ om_ om_;have hd:decide ((i:Int)≥(g.length:Int))=false:=by simp;omega
  generalize u5 (i:Int)=x at *;clear hw hi;exact ek_ Tryz.func204 [.cell 4 166,.tmp 5]
 | @lam g a b t ht _ ih =>
  intro hw hW hb h;rw [P9] at hb;have hwa:TyW a:=hW.ty;have wt:TmW t:=hW.arg (by simp [tmT,Tm.args]);have hc:=ih (by intro y hy;rcases List.mem_append.1 hy with hy|hy;exact hw y hy;simp at hy;subst hy;exact hwa) wt (by simp;omega);have r1:=aX3 a hwa;obtain ⟨ga,gb⟩:=TyG.ce2 ht;have hz:=ht.2;rw [M6] at hz;have r2:=bP1 4 a b ga gb om_ (by have:=bS0 ht;rw [M6] at this;unfold G1 at this;rw [this];omega);have e:Ty.mk 4 [a,b]=G1 a b:=rfl;rw [e] at r2;have e1:(tmT 2 a [t]).kind=2:=rfl;have e2:(tmT 2 a [t]).type=a:=rfl;have e3:(tmT 2 a [t]).args=[t]:=rfl;have n0:((0:Int) != 0)=false:=rfl;have hwk:B2 (g.map szC++[szC a])=(g++[a]).map szC:=by rw [← aN3 (g++[a])];simp
  have b3:(g.length+1) * 40≤140737488355328:=by omega
  have b4:g.length+1≤140737488355328:=by omega
  have t1:(0:Int)≤(g.length:Int):=by omega
  have t2:((g.length:Int)).toNat=g.length:=Int.toNat_natCast _;have t3:List.take g.length (g.map szC)=g.map szC:=List.take_of_length_le sp_;have t4:0≤g.length:=by omega
  have t5:g.length≤g.length:=Nat.le_refl _;have mn:∀ (f:Operand→V),Option.map f none=none:=fun _=>rfl;have ml:(g.map szC).length=g.length:=by simp
  generalize tmT 2 a [t]=x at *;clear hw hW ih wt hwa ht ga gb hz e;generalize G1 a b=q at *;exact ek_ Tryz.func204 [.cell 4 166,.tmp 5]
 | @n0 g k ty s hN =>
  intro hw hW hb;exact al4 g k ty hW.ty [] [] s hN rfl sp_ ((w7.n0 (g:=g) hN).W hw hW).1 (by intro j x a hx;simp at hx)
 | @n1 g k ty s a x hN h1 ih1 =>
  intro hw hW hb;have z:m7 (tmT k ty [x])=m7 x+1:=P9;have w1:TmW x:=hW.arg (by simp [tmT,Tm.args]);refine al4 g k ty hW.ty [x] [a] s hN rfl (by simp [(h1.W hw w1).1]) ((w7.n1 hN h1).W hw hW).1 ?_;intro j y b hy hb'
  match j with
  | 0=>simp at hy hb';subst hy;subst hb';exact ih1 hw w1 om_
  | j+1=>simp at hy
 | @n2 g k ty s a b x y hN h1 h2 ih1 ih2 =>
  intro hw hW hb;have z:m7 (tmT k ty [x,y])=m7 x+m7 y+1:=by simp [tmT,m7,F8]
  have w1:TmW x:=hW.arg (by simp [tmT,Tm.args]);have w2:TmW y:=hW.arg (by simp [tmT,Tm.args]);refine al4 g k ty hW.ty [x,y] [a,b] s hN rfl (by simp [(h1.W hw w1).1,(h2.W hw w2).1]) ((w7.n2 hN h1 h2).W hw hW).1 ?_;intro j u v hu hv
  match j with
  | 0=>simp at hu hv;subst hu;subst hv;exact ih1 hw w1 om_
  | 1=>simp at hu hv;subst hu;subst hv;exact ih2 hw w2 om_
  | j+2=>simp at hu
 | @n3 g k ty s a b c x y z hN h1 h2 h3 ih1 ih2 ih3 =>
  intro hw hW hb;have zz:m7 (tmT k ty [x,y,z])=m7 x+(m7 y+m7 z)+1:=ai6;have w1:TmW x:=hW.arg (by simp [tmT,Tm.args]);have w2:TmW y:=hW.arg (by simp [tmT,Tm.args]);have w3:TmW z:=hW.arg (by simp [tmT,Tm.args]);refine al4 g k ty hW.ty [x,y,z] [a,b,c] s hN rfl (by simp [(h1.W hw w1).1,(h2.W hw w2).1,(h3.W hw w3).1]) ((w7.n3 hN h1 h2 h3).W hw hW).1 ?_;intro j u v hu hv
  match j with
  | 0=>simp at hu hv;subst hu;subst hv;exact ih1 hw w1 om_
  | 1=>simp at hu hv;subst hu;subst hv;exact ih2 hw w2 om_
  | 2=>simp at hu hv;subst hu;subst hv;exact ih3 hw w3 om_
  | j+3=>simp at hu
end Go.Proofs.YteaijonkbbkkjaaGreatDoor
