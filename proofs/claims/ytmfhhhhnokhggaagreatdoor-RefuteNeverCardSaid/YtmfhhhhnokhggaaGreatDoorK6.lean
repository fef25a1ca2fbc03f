/-
 Walks: several parts in one text.
-/
import Derived.Test.YtmfhhhhnokhggaaGreatDoorK2
import Derived.Test.YtmfhhhhnokhggaaGreatDoorAbsDd
set_option linter.unusedSimpArgs false
set_option linter.unusedVariables false
set_option maxRecDepth 20000
set_option maxHeartbeats 4000000
namespace Go.Proofs.YtmfhhhhnokhggaaGreatDoor
open Go GoAbs Go.Proofs
theorem ax6:(Ty.mk 0 []).cells=[.int .i64 0,.sl .any []]:=by rw [Ty.l4];rfl
theorem dC8 (t:Ty) (ht:TyF t) (hs:64<E5 t) (hs2:E5 t<=1000):c_ env 226 [.agg t.cells] (.tup [.agg (Ty.mk 0 []).cells,.int .i64 4]):=by
 intro h;have h1:=ab0 t ht.W;rw [ht.err a_,y9 a_] at h1;have n0:((4:Int) != 0)=true:=rfl;have zc:=ax6;clear ht hs hs2;exact d_ Tryz.func226 [.cell 2 29,.tmp 3]
theorem bP3 (g:List Ty) (k:Int) (ty:Ty) (hty:TyW ty) (l:List Tm) (ts:List Ty) (e:Int) (hN:ap0 k ty ts e) (hlen:l.length=ts.length) (hts:∀ y∈ts,TyG y)
  (ih:∀ (j:Nat) (x:Tm) (a:Ty),l[j]? = some x->ts[j]? = some a->c_ env 209 [.sl .any (g.map Ty.cells),.agg x.cells] (.tup [.agg a.cells,.int .i64 0])) :
  c_ env 209 [.sl .any (g.map Ty.cells),.agg (tmT k ty l).cells] (.tup [.agg (Ty.mk 0 []).cells,.int .i64 e]):=by
 intro h;have zc:=ax6;have hk1:(k==1)=false:=by cases hN<;>rfl
 have hk2:(k==2)=false:=by cases hN<;>rfl
 have hl3:l.length<=3:=by rw [hlen];cases hN<;>simp
 have e1:(tmT k ty l).kind=k:=rfl;have e2:(tmT k ty l).type=ty:=rfl;have e3:(tmT k ty l).args=l:=rfl;generalize tmT k ty l=t at *;have n0:((0:Int) != 0)=false:=rfl;have ad5:∀ (i:Nat) (x:Tm),l[i]? = some x->∃ a,ts[i]? = some a:=fun i x hx=>⟨_,W4 (by have:=(F2.1 hx).1;omega)⟩;have aE2:ts.take l.length=ts:=by rw [hlen,L2]
 clear hlen;refine g_ Tryz.func209 [.cell 4 29,.tmp 5] fun g0 w0 gen g9 hfr e9 n8=>?_;refine e_ ?_;refine k_ [0,3,4,67] [⟨gen,0,0⟩,⟨gen,0,1⟩] (fun i σ=>Q4 h σ.h (σ.tm 8) 2 ((ts.take i).map Ty.cells)) (l) ?_ ?_ ?_
 ·simp only [go_sem, *]
  exact ⟨f_,.inl rfl⟩
 ·clear aE2 hN hts
  intro i x σ gr0 o5 hgf l6 l9 m6 hx hxm hm hlt jI jN jT jA jO0;obtain ⟨a,ha⟩:=ad5 i x hx;have hc:=ih i x a hx ha;have hts:(ts.take (i+1)).map Ty.cells=(ts.take i).map Ty.cells++[a.cells]:=by rw [p9 ha]
  have htl:(ts.take i).length=i:=by rw [ae6];have:=(F2.1 ha).1;omega
  clear ih ad5
  repeat' (first
   |(refine ⟨?_,?_⟩;focus ((repeat' (first|refine ⟨?_,?_⟩|refine .inr ?_));all_goals kernel_rfl))
   |(refine X6 jO0 t_ rfl r_ s_ j_ (by intro hd;cases hd) ?_;intro v' h' log' jO jK jAg jAb jF;simp only [go_sem, *])
   | (first|refine wp rfl ?_|refine spt rfl ?_|refine spf rfl ?_|(refine spl (fun hc=>?_) fun hc=>?_)<;>(try rw [L1] at hc)<;>try simp only [hc]|(refine gs (fun hb=>?_) fun hb=>?_)<;>try simp only [E7,M9] at hb|refine cp hc ?_|refine D3 ?_)<;>try simp only [go_sem, *])
  exact jAg (by repeat (first|exact jA|refine m8.new ?_ (l6 _ _)))
 ·
  intro σ ga0 q9 hgf l6 l8 m5 jT jA jO0;rw [aE2] at jO0;obtain ⟨c,jO0⟩:=jO0.val;clear ih ad5 aE2;have hS:=fun a b (ha:TyW a) (hb:TyW b)=>U2 a ha b hb;have hST:∀ y,TyW y->c_ env 78 [.agg y.cells,.agg y.cells] (.bool true):=fun y hy=>by
   have:=U2 y hy y hy;rw [Ty.U5] at this;exact this
  have hSF:∀ a b,TyW a->TyW b->a≠b->c_ env 78 [.agg a.cells,.agg b.cells] (.bool false):=fun a b ha hb hne=>by
   have:=U2 a ha b hb;rw [dz4 hne] at this;exact this
  clear hS;cases hN with
  | @app _ a b hne =>
   have ga:=hts a b_;have gb:=hts b b_;rcases ga.dO3 hne with q4|⟨x,y,rfl,hxb,gx⟩
   ·clear hST hSF hts hne
    have zq0:=s8;have zq1:=B9;exact i_
   ·have s1:=hSF x b gx.1.W gb.1.W hxb
    have f1:(x9 x y).kind=4:=rfl;have f2:(x9 x y).args=[x,y]:=rfl;have q4:((4:Int) != 4)=false:=rfl;clear hST hSF hts hne;have zq0:=s8;have zq1:=B9;exact i_
  | @succ _ a hne =>
   have s1:=hSF a c8 (hts a b_).1.W J9 hne;clear hST hSF hts;have zq0:=s8;have zq1:=B9;exact i_
  | @V8 _ a b c hne =>
   have wa:=(hts a b_).1.W;have wb:=(hts b b_).1.W;have wc:=(hts c b_).1.W;have w1:=au5 hty hty;have w2:=au5 J9 w1;have r1:=W6 ty ty hty hty;have r2:=W6 c8 _ J9 w1;by_cases h1:a=ty
   ·subst h1
    have s1:=hST a wa;by_cases h2:b=x9 c8 (x9 a a)
    ·subst h2
     have s2:=hST _ w2;have s3:=hSF c c8 wc J9 (fun e=>hne ⟨rfl,rfl,e⟩);clear hST hSF hts hne;have zq0:=s8;have zq1:=B9;exact i_
    ·have s2:=hSF b _ wb w2 h2
     clear hST hSF hts hne;have zq0:=s8;have zq1:=B9;exact i_
   ·have s1:=hSF a ty wa hty h1
    clear hST hSF hts hne;have zq0:=s8;have zq1:=B9;exact i_
  | @cons _ a b hne =>
   have wa:=(hts a b_).1.W;have wb:=(hts b b_).1.W;by_cases h1:a=c8
   ·subst h1
    have s1:=hST c8 J9;have s2:=hSF b r5 wb Y0 (fun e=>hne ⟨rfl,e⟩);clear hST hSF hts hne;have zq0:=s8;have zq1:=B9;exact i_
   ·have s1:=hSF a c8 wa J9 h1
    clear hST hSF hts hne;have zq0:=s8;have zq1:=B9;exact i_
  | @fold _ a b c hne =>
   have wa:=(hts a b_).1.W;have wb:=(hts b b_).1.W;have wc:=(hts c b_).1.W;have w1:=au5 hty hty;have w2:=au5 Y0 w1;have w3:=au5 J9 w2;have r1:=W6 ty ty hty hty;have r2:=W6 r5 _ Y0 w1;have r4:=W6 c8 _ J9 w2;by_cases h1:a=ty
   ·subst h1
    have s1:=hST a wa;by_cases h2:b=x9 c8 (x9 r5 (x9 a a))
    ·subst h2
     have s2:=hST _ w3;have s3:=hSF c r5 wc Y0 (fun e=>hne ⟨rfl,rfl,e⟩);clear hST hSF hts hne;have zq0:=s8;have zq1:=B9;exact i_
    ·have s2:=hSF b _ wb w3 h2
     clear hST hSF hts hne;have zq0:=s8;have zq1:=B9;exact i_
   ·have s1:=hSF a ty wa hty h1
    clear hST hSF hts hne;have zq0:=s8;have zq1:=B9;exact i_
  | @pair _ a b hp =>
   have ga:=hts a b_;have gb:=hts b b_;have r1:=bu8 a b ga.1.W gb.1.W;have r2:=dC8 (B6 a b) (.pair ga.1 gb.1) (by rw [S4];omega) (by rw [S4];have:=ga.2;have:=gb.2;omega);clear hST hSF hts ga gb;have zq0:=s8;have zq1:=B9;exact i_
  | @fst _ a hne =>
   have q3:=(hts a b_).cC7 hne;clear hST hSF hts hne;have zq0:=s8;have zq1:=B9;exact i_
  | @snd _ a hne =>
   have q3:=(hts a b_).cC7 hne;clear hST hSF hts hne;have zq0:=s8;have zq1:=B9;exact i_
def tyN (t:Ty):Int:=(chk 64 t.nodes).1
theorem cF1 {t:Ty} (h:TyG t):tyN t=(E5 t:Int):=by
 unfold tyN;rw [h.1.nodes (by have:=h.2;omega),chk,y9 (by have:=h.2;omega)]
theorem R8 (t:Ty):t.cells=[.int .i64 t.kind,.sl .any (t.args.map Ty.cells)]:=by cases t;simp [Ty.r7,Ty.O0,Ty.N9]
def szC (t:Ty):List V:=[.int .i64 t.kind,.sl .any (t.args.map Ty.cells),.int .i64 (tyN t)]
theorem bu9 (t:Ty) (ht:TyW t):c_ env 147 [.agg t.cells] (.agg (szC t)):=by
 intro h;have hc:=aN5 t ht;unfold two at hc;unfold szC tyN;exact d_ Tryz.func147 [.cell 2 188]
theorem bk5 (t:Ty) (k:Int):c_ env 216 [.agg (szC t),.int .i64 k] (.bool (t.kind==k)):=by
 intro h;unfold szC;exact d_ Tryz.func216 [.tmp 4]
theorem bQ0 (t:Ty) (i:Nat) (a:Ty) (ha:t.args[i]? = some a) (hw:TyW a):c_ env 247 [.agg (szC t),.int .i64 i] (.agg (szC a)):=by
 intro h;have hc:=bu9 a hw;have hlt:i<t.args.length:=(F2.1 ha).1;unfold szC at *;exact d_ Tryz.func247 [.cell 4 188]
theorem cz7 (t:Ty) (ht:TyW t):c_ env 248 [.agg (szC t),.agg (szC t)] (.bool true):=by
 intro h;have hc:=aH6 t ht t ht;rw [Ty.U5,R8] at hc;have bq:(tyN t==tyN t)=true:=ad1 _;unfold szC;exact d_ Tryz.func248 [.tmp 4]
theorem cz6 (k:Int) (a b:Ty) (ha:TyG a) (hb:TyG b) (hs:E5 a+E5 b<=63) (hn:(tyN (.mk k [a,b]))=1+(E5 a:Int)+(E5 b:Int)) :
  c_ env 234 [.int .i64 k,.agg (szC a),.agg (szC b)] (.tup [.agg (szC (.mk k [a,b])),.int .i64 0]):=by
 intro h;unfold szC;rw [hn,cF1 ha,cF1 hb];have w1:IntKind.i64.wrap (1+(E5 a:Int))=1+(E5 a:Int):=x7 rfl a_ a_;have w2:IntKind.i64.wrap (1+(E5 a:Int)+(E5 b:Int))=1+(E5 a:Int)+(E5 b:Int):=x7 rfl a_ a_;have hd:decide (1+(E5 a:Int)+(E5 b:Int)>64)=false:=by simp;omega
 clear hs hn;refine g_ Tryz.func234 [.cell 6 188,.tmp 7] fun g0 w0 gen g9 hfr e9 n8=>?_
 first|refine e_ ?_|exact i_
 all_goals simp [Ty.kind,Ty.args,R8]
theorem ds2:c_ env 255 [] (.agg r5.cells):=by
 intro h;unfold r5;refine g_ Tryz.func255 [.cell 0 29] fun g0 w0 gen g9 hfr e9 n8=>?_
 first|refine e_ ?_|exact i_
 all_goals simp [R8,Ty.kind,Ty.args]
def aX8 (l:List Ty) (r:Ty):Ty:=l.foldr x9 r
theorem cL9 {l:List Ty} {r:Ty} {j:Nat} {x:Ty} (h:l[j]? = some x):x9 x (aX8 (l.drop (j+1)) r)=aX8 (l.drop j) r:=by
 rw [s9 h];rfl
theorem cZ1 (r:Ty) (l:List Ty) (hl:l.length<=1000):c_ env 253 [.agg r.cells,.sl .any (l.map Ty.cells)] (.agg (aX8 l r).cells):=by
 intro h;have hw0:IntKind.i64.wrap ((l.length:Int) - 1)=(l.length:Int) - 1:=x7 rfl a_ a_;refine g_ Tryz.func253 [.cell 4 29] fun g0 w0 gen g9 hfr e9 n8=>?_;refine e_ ?_;refine E6 (fun i σ=>σ.tm 5=.int .i64 ((l.length:Int) - 1 - i)/\σ.tm 1=.sl .any (l.map Ty.cells)/\σ.tm 2=.ptr ⟨gen,0,0⟩ 0/\σ.tm 4=.ptr ⟨gen,0,1⟩ 0 /\
  σ.h ⟨gen,0,0⟩=some (.box (aX8 (l.drop (l.length - i)) r).cells)/\σ.h ⟨gen,0,1⟩=some (.box [.int .i64 0,.sl .full []])/\m8 h σ.h/\i<=l.length) l.length ?_ ?_
 ·have e:(l.drop (l.length - 0))=[]:=by simp
  simp only [go_sem, *,e];exact ⟨b_,rfl,f_,a_⟩
 intro i σ hi ⟨j1,j2,j3,j4,j5,j6,j7,j8⟩;clear j8;have hw1:IntKind.i64.wrap ((l.length:Int) - 1 - (i:Int) - 1)=(l.length:Int) - 1 - (i:Int) - 1:=x7 rfl a_ a_;rcases R0 i l.length with hlt|hge
 ·have hd:decide ((l.length:Int) - 1 - (i:Int)>=0)=true:=by simp;omega
  have e0:l.length - (i+1)+1=l.length - i:=by omega
  obtain ⟨x,hx⟩:∃ x,l[l.length - (i+1)]? = some x:=⟨_,W4 a_⟩;have hst:=cL9 (r:=r) hx;rw [e0] at hst;rw [<- hst];have e2:((l.length:Int) - 1 - (i:Int)).toNat=l.length - (i+1):=by omega
  have e3:0<=(l.length:Int) - 1 - (i:Int):=by omega
  have e4:(l.length:Int) - 1 - ((i+1:Nat):Int)=(l.length:Int) - 1 - (i:Int) - 1:=by omega
  have e5:i+1<=l.length:=by omega
  clear hst;generalize aX8 (l.drop (l.length - i)) r=b' at *;have ac8:(x9 x b').cells=[.int .i64 4,.sl .any [x.cells,b'.cells]]:=by simp [R8,x9,Ty.kind,Ty.args]
  clear hi
  repeat' (first
   |(refine ⟨?_,?_⟩;focus ((repeat' (first|refine ⟨?_,?_⟩|refine .inr ?_));all_goals kernel_rfl))
   | (first|refine wp rfl ?_|refine spt rfl ?_|refine spf rfl ?_|(refine spl (fun hc=>?_) fun hc=>?_)<;>(try rw [L1] at hc)<;>try simp only [hc])<;>try simp only [go_sem, *])
  refine ax7 ⟨gen,0,0⟩ q_ ?_;refine D3 ?_;simp only [go_sem, *];exact f_
 ·have hd:decide ((l.length:Int) - 1 - (i:Int)>=0)=false:=by simp;omega
  have e0:l.length - i=0:=by omega
  rw [e0,aQ6] at j5;exact i_
def bz4 (k:Int):List Int:=if k==4 then [1] else if k==5 then [1,1] else if k==7 then [2] else if k==8 then [2,1,2] else if k==13 then [5] else []
theorem al5 (k:Int) (vs:List Int) (hv:bz4 k=vs):c_ env 246 [.int .i64 k] (.sl .any (vs.map fun i=>[.int .i64 i])):=by
 intro h;subst hv;unfold bz4;refine g_ Tryz.func246 [.tmp 2] fun g0 w0 gen g9 hfr e9 n8=>?_
 first|refine e_ ?_|exact i_
 all_goals simp_all
theorem ds3 (t:Tm) (hk:t.kind=6\/t.kind=9):c_ env 249 [.agg t.cells] (.agg (if t.kind==9 then aX8 [c8,r5,t.type] t.type else aX8 [c8,t.type] t.type).cells):=by
 intro h;have h2:=cZ1 t.type [c8,t.type] b_;have h3:=cZ1 t.type [c8,r5,t.type] b_;simp only [E0,B7] at h2 h3;rcases hk with hk|hk
 all_goals
  rw [hk];simp only [Int.reduceBEq,B2,r6,p7];have zq0:=bQ1;have zq1:=ds2;exact d_ Tryz.func249 [.cell 2 29]
def zS:List V:=[.int .i64 0,.sl .any [],.int .i64 0]
def bc9 (ts:List Ty):List V:=ts.flatMap szC++(List.replicate (3 - ts.length) zS).flatten
theorem dF3:bc9 []=[.int .i64 0,.sl .any [],.int .i64 0,.int .i64 0,.sl .any [],.int .i64 0,.int .i64 0,.sl .any [],.int .i64 0]:=rfl
variable {a:Ty}
theorem cD2:bc9 [a]=[.int .i64 a.kind,.sl .any (a.args.map Ty.cells),.int .i64 (tyN a),.int .i64 0,.sl .any [],.int .i64 0,.int .i64 0,.sl .any [],.int .i64 0]:=rfl
variable {b:Ty}
theorem cD3:bc9 [a,b]=[.int .i64 a.kind,.sl .any (a.args.map Ty.cells),.int .i64 (tyN a),.int .i64 b.kind,.sl .any (b.args.map Ty.cells),.int .i64 (tyN b),.int .i64 0,.sl .any [],.int .i64 0]:=rfl
theorem dh2 {c:Ty}:bc9 [a,b,c]=[.int .i64 a.kind,.sl .any (a.args.map Ty.cells),.int .i64 (tyN a),.int .i64 b.kind,.sl .any (b.args.map Ty.cells),.int .i64 (tyN b),.int .i64 c.kind,.sl .any (c.args.map Ty.cells),.int .i64 (tyN c)]:=rfl
theorem bP6 (t:Tm) (k:Int) (hk:bz4 t.kind=[k]) (hw:TyW (.mk k [])):c_ env 235 [.agg t.cells,.agg (bc9 [])] (.tup [.agg (szC (.mk k [])),.int .i64 0]):=by
 intro h;have h1:=al5 t.kind _ hk;have h2:=bu9 (.mk k []) hw;simp only [R8,Ty.O0,Ty.N9,B7,E0] at h1 h2;rw [dF3];unfold szC at *;simp only [Ty.O0,Ty.N9,B7] at *;clear hk;have mn:∀ (f:Operand->V),Option.map f none=none:=fun _=>rfl;have p1:decide (((1:Nat):Int)>0)=true:=rfl;have p2:decide (((2:Nat):Int)>0)=true:=rfl;have p3:decide (((3:Nat):Int)>0)=true:=rfl;refine g_ Tryz.func235 [.cell 4 188,.tmp 5] fun g0 w0 gen g9 hfr e9 n8=>?_;refine e_ ?_;refine k_ [2,3,4,6,18] [⟨gen,0,0⟩,⟨gen,0,1⟩,⟨gen,0,2⟩] (fun i σ=>True) (([]:List Int)) ?_ ?_ ?_
 ·simp only [go_sem, *]
  exact f_
 ·
  intro i x σ gr0 o5 hgf l6 l9 m6 hx hxm hm hlt jI jN jT jA jU;exact absurd hlt b_
 ·
  intro σ ga0 q9 hgf l6 l8 m5 jT jA jU;exact i_
theorem dr6 (t:Tm) (k:Int) (a:Ty) (hk:bz4 t.kind=[k,a.kind]) (hw:TyW (.mk k [])):c_ env 235 [.agg t.cells,.agg (bc9 [a])] (.tup [.agg (szC (.mk k [])),.int .i64 0]):=by
 intro h;have h1:=al5 t.kind _ hk;have h2:=bu9 (.mk k []) hw;have i1:=bk5 a a.kind;rw [show (a.kind==a.kind)=true from ad1 _] at i1;simp only [R8,Ty.O0,Ty.N9,B7,E0] at h1 h2;rw [cD2];unfold szC at *;simp only [Ty.O0,Ty.N9,B7] at *;clear hk;have mn:∀ (f:Operand->V),Option.map f none=none:=fun _=>rfl;have p1:decide (((1:Nat):Int)>0)=true:=rfl;have p2:decide (((2:Nat):Int)>0)=true:=rfl;have p3:decide (((3:Nat):Int)>0)=true:=rfl;refine g_ Tryz.func235 [.cell 4 188,.tmp 5] fun g0 w0 gen g9 hfr e9 n8=>?_;refine e_ ?_;refine k_ [2,3,4,6,18] [⟨gen,0,0⟩,⟨gen,0,1⟩,⟨gen,0,2⟩] (fun i σ=>True) ([a.kind]) ?_ ?_ ?_
 ·simp only [go_sem, *]
  exact f_
 ·
  intro i x σ gr0 o5 hgf l6 l9 m6 hx hxm hm hlt jI jN jT jA jU;obtain rfl:i=0:=by simpa using hlt
  replace jI:σ.tm 20=.int .i64 0:=jI;have z0:((0:Int)<((3:Nat):Int))=True:=by simp
  simp at hx;subst hx
  first|refine e_ ?_|exact i_
  all_goals rfl
 ·
  intro σ ga0 q9 hgf l6 l8 m5 jT jA jU;exact i_
theorem dr7 (t:Tm) (k:Int) (a b:Ty) (hk:bz4 t.kind=[k,a.kind,b.kind]) (hw:TyW (.mk k [])):c_ env 235 [.agg t.cells,.agg (bc9 [a,b])] (.tup [.agg (szC (.mk k [])),.int .i64 0]):=by
 intro h;have h1:=al5 t.kind _ hk;have h2:=bu9 (.mk k []) hw;have i1:=bk5 a a.kind;rw [show (a.kind==a.kind)=true from ad1 _] at i1;have i2:=bk5 b b.kind;rw [show (b.kind==b.kind)=true from ad1 _] at i2;simp only [R8,Ty.O0,Ty.N9,B7,E0] at h1 h2;rw [cD3];unfold szC at *;simp only [Ty.O0,Ty.N9,B7] at *;clear hk;have mn:∀ (f:Operand->V),Option.map f none=none:=fun _=>rfl;have p1:decide (((1:Nat):Int)>0)=true:=rfl;have p2:decide (((2:Nat):Int)>0)=true:=rfl;have p3:decide (((3:Nat):Int)>0)=true:=rfl;refine g_ Tryz.func235 [.cell 4 188,.tmp 5] fun g0 w0 gen g9 hfr e9 n8=>?_;refine e_ ?_;refine k_ [2,3,4,6,18] [⟨gen,0,0⟩,⟨gen,0,1⟩,⟨gen,0,2⟩] (fun i σ=>True) ([a.kind,b.kind]) ?_ ?_ ?_
 ·simp only [go_sem, *]
  exact f_
 ·
  intro i x σ gr0 o5 hgf l6 l9 m6 hx hxm hm hlt jI jN jT jA jU
  match i,hlt with
  | 0,_ =>
   replace jI:σ.tm 20=.int .i64 0:=jI;have z0:((0:Int)<((3:Nat):Int))=True:=by simp
   simp at hx;subst hx
   first|refine e_ ?_|exact i_
   all_goals rfl
  | 1,_ =>
   replace jI:σ.tm 20=.int .i64 1:=jI;have z1:((1:Int)<((3:Nat):Int))=True:=by simp
   simp at hx;subst hx
   first|refine e_ ?_|exact i_
   all_goals rfl
  | i+2,h2=>simp at h2;omega
 ·
  intro σ ga0 q9 hgf l6 l8 m5 jT jA jU;exact i_
theorem cJ0 (t:Tm) (a b:Ty) (hk:t.kind=3) (ha:TyW a) (hb:TyW b):c_ env 235 [.agg t.cells,.agg (bc9 [x9 a b,a])] (.tup [.agg (szC b),.int .i64 0]):=by
 intro h;have h1:=al5 3 [] rfl;have i1:=bk5 (x9 a b) 4;have i2:=bQ0 (x9 a b) 0 a rfl ha;have i3:=bQ0 (x9 a b) 1 b rfl hb;have i4:=cz7 a ha;rw [show ((x9 a b).kind==4)=true from rfl] at i1;generalize x9 a b=f at *;simp only [B7] at h1;rw [cD3];unfold szC at *;have p0:decide (((0:Nat):Int)>0)=false:=rfl;have z0:((0:Int)<((3:Nat):Int))=True:=by simp
 have z1:((1:Int)<((3:Nat):Int))=True:=by simp
 exact d_ Tryz.func235 [.cell 4 188,.tmp 5]
theorem bH1 (t:Tm) (x:Ty) (hx:TyW x) (hk:(t.kind=6/\x=c8)\/(t.kind=9/\x=r5)) (ht:TyW t.type) (hs:TyW (if t.kind==9 then aX8 [c8,r5,t.type] t.type else aX8 [c8,t.type] t.type)) :
  c_ env 235 [.agg t.cells,.agg (bc9 [t.type,if t.kind==9 then aX8 [c8,r5,t.type] t.type else aX8 [c8,t.type] t.type,x])] (.tup [.agg (szC t.type),.int .i64 0]):=by
 intro h;have h2:=ds3 t (by rcases hk with h|h;exact .inl h.1;exact .inr h.1);have i1:=bu9 t.type ht;have i2:=cz7 t.type ht;have i3:=aH6 _ hs _ hs;rw [Ty.U5] at i3;have n1:(6:Int)=9↔False:=by simp
 have p0:decide (((0:Nat):Int)>0)=false:=rfl;have z0:((0:Int)<((3:Nat):Int))=True:=by simp
 have z1:((1:Int)<((3:Nat):Int))=True:=by simp
 have z2:((2:Int)<((3:Nat):Int))=True:=by simp
 generalize (if t.kind==9 then aX8 [c8,r5,t.type] t.type else aX8 [c8,t.type] t.type)=f at *;have fc:=R8 f;rw [fc] at i3 h2;rcases hk with ⟨hk,rfl⟩|⟨hk,rfl⟩
 ·have h1:=al5 6 [] rfl
  have i4:=bk5 c8 1;rw [show (c8.kind==1)=true from rfl] at i4;simp only [B7] at h1;rw [dh2];unfold szC at *;generalize c8=u at *;clear hs ht fc;exact d_ Tryz.func235 [.cell 4 188,.tmp 5]
 ·have h1:=al5 9 [] rfl
  have i4:=bk5 r5 2;rw [show (r5.kind==2)=true from rfl] at i4;simp only [B7] at h1;rw [dh2];unfold szC at *;generalize r5=u at *;clear hs ht fc;exact d_ Tryz.func235 [.cell 4 188,.tmp 5]
theorem cm2 (t:Tm) (a b:Ty) (hk:t.kind=10) (hp:TyG (B6 a b)):c_ env 235 [.agg t.cells,.agg (bc9 [a,b])] (.tup [.agg (szC (B6 a b)),.int .i64 0]):=by
 intro h;have h1:=al5 10 [] rfl;obtain ⟨ga,gb⟩:=hp.bz1;have hz:=hp.2;rw [S4] at hz;have i1:=cz6 3 a b ga gb a_ (by have:=cF1 hp;rw [S4] at this;unfold B6 at this;rw [this];omega);have e:Ty.mk 3 [a,b]=B6 a b:=rfl;rw [e] at i1;generalize B6 a b=q at *;simp only [B7] at h1;rw [cD3];unfold szC at *;have p0:decide (((0:Nat):Int)>0)=false:=rfl;have z0:((0:Int)<((3:Nat):Int))=True:=by simp
 have z1:((1:Int)<((3:Nat):Int))=True:=by simp
 clear hp hz e ga gb;exact d_ Tryz.func235 [.cell 4 188,.tmp 5]
theorem bu3 (t:Tm) (a b:Ty) (j:Nat) (hj:(t.kind=11/\j=0)\/(t.kind=12/\j=1)) (s:Ty) (hs:[a,b][j]? = some s) (hw:TyW s):c_ env 235 [.agg t.cells,.agg (bc9 [B6 a b])] (.tup [.agg (szC s),.int .i64 0]):=by
 intro h;have i1:=bk5 (B6 a b) 3;have i2:=bQ0 (B6 a b) j s hs hw;rw [show ((B6 a b).kind==3)=true from rfl] at i1;generalize B6 a b=q at *;have p0:decide (((0:Nat):Int)>0)=false:=rfl;have z0:((0:Int)<((3:Nat):Int))=True:=by simp
 rcases hj with ⟨hk,rfl⟩|⟨hk,rfl⟩
 ·have h1:=al5 11 [] rfl
  simp only [B7] at h1;replace i2:c_ env 247 [.agg (szC q),.int .i64 0] (.agg (szC s)):=i2;rw [cD2];unfold szC at *;clear hs;exact d_ Tryz.func235 [.cell 4 188,.tmp 5]
 ·have h1:=al5 12 [] rfl
  simp only [B7] at h1;replace i2:c_ env 247 [.agg (szC q),.int .i64 1] (.agg (szC s)):=i2;rw [cD2];unfold szC at *;clear hs;exact d_ Tryz.func235 [.cell 4 188,.tmp 5]
theorem dp5 (d:GoAbs.Id) (i b:Int) (s:Bool) (A:GoAbs.Id) (oA:GoAbs.Obj) :
  ad3 Tryz.prog env 171 (.int .i64 i::.int .i64 b::[.ptr d 0]) [(A,oA)] d (.box [.bool s]) (.tup []) (.box [.bool (bm6 i b s)]):=by
 intro h he hd;unfold bm6;clear he;cases s
 all_goals
  cases hq:decide (i<=536870912)
  all_goals
   simp only [J6,J7];exact n_ Tryz.func171 []
theorem cW3 (t:Tm) (ht:TmW t):c_ env 109 [.agg t.cells] (.bool t.dO2):=by
 intro h;unfold Tm.dO2;refine g_ Tryz.func109 [.tmp 2] fun g0 w0 gen g9 hfr e9 n8=>?_;have nA:(⟨gen,0,0⟩:GoAbs.Id)≠⟨gen,1,0⟩:=by simp
 have hc:=cW1 (fun n:Bool=>V.bool n) bm6 171 [.ptr ⟨gen,1,0⟩ 0] rfl (fun _ _=>by simp [InV]) ⟨gen,0,0⟩ ⟨gen,1,0⟩ (.box t.cells) nA
  (fun i b n=>dp5 _ i b n _ _) t ht true
 clear nA;generalize t.af2 bm6 0 true=v at hc ⊢
 repeat' (first
  |exact hin _|exact agf l_
  | (first|refine wp rfl ?_|(refine P2 (hc) ?_ ?_ ?_;(focus ((simp only [go_sem, *]<;>(repeat (first|assumption|rfl|refine And.intro ?_ ?_)));done));(focus ((simp only [go_sem, *]<;>first|rfl|assumption);done)))|refine Y7 g9 ?_ ?_ ?_)<;>try simp only [go_sem, *])
theorem cm7 (F:Int->Int->Tm) (kd:Nat) (cap:List V) (aa3:B1 cap=cap)
  (O R A B:GoAbs.Id) (oA oB:GoAbs.Obj)
  (hof:∀ i b,aA8 Tryz.prog env kd (.int .i64 i::.int .i64 b::cap) [(A,oA),(B,oB)] (.agg (F i b).cells)) :
  ∀ t:Tm,TmW t->∀ b:Int,aA8 Tryz.prog env 224 [.agg t.cells,.int .i64 b,.ptr O 0,.ptr R 0]
   [(O,.box [.fn (.func kd) [] cap]),(R,.box [.fn (.func 224) [] [.ptr O 0,.ptr R 0]]),(A,oA),(B,oB)] (.agg (t.rb F b).cells):=by
 intro t
 induction t using Tm.ind with|h t ih=>?_
 intro ht b h he;simp only [D9,K0,D1,bo7,an4] at he;obtain ⟨hO,hR,hA,hB⟩:=he;have hlen:=ht.len;have ih':∀ x∈t.args,∀ b:Int,aA8 Tryz.prog env 224 [.agg x.cells,.int .i64 b,.ptr O 0,.ptr R 0]
   [(O,.box [.fn (.func kd) [] cap]),(R,.box [.fn (.func 224) [] [.ptr O 0,.ptr R 0]]),(A,oA),(B,oB)] (.agg (x.rb F b).cells):=fun x hx=>ih x hx (ht.arg hx)
 have hT:=ax0 t.type ht.ty;clear ih ht;have hw:IntKind.i64.wrap (b+1)=o9 b 1:=rfl;have hin:∀ S,InV S (V.agg (t.rb F b).cells):=fun S=>by simp [InV,at6]
 cases k1:(t.kind==1) with
 | true =>
  have hv:t.rb F b=F t.index b:=by rw [Tm.dF6,k1];rfl
  rw [hv] at hin ⊢;clear ih';have hc:=hof t.index b;clear hof hT;generalize F t.index b=v at *;refine g_ Tryz.func224 [.cell 6 52] fun g0 w0 gen g9 hfr e9 n8=>?_;have f3:=n9 hfr hO;have f4:=n9 hfr hR;have f5:=n9 hfr hA;have f6:=n9 hfr hB
  repeat' (first
   |(refine ⟨?_,?_⟩;focus ((repeat' (first|refine ⟨?_,?_⟩|refine .inr ?_));all_goals kernel_rfl))
   |exact hin _|exact agf l_
   | (first|refine wp rfl ?_|refine spt rfl ?_|refine spf rfl ?_|(refine spl (fun hc=>?_) fun hc=>?_)<;>(try rw [L1] at hc)<;>try simp only [hc]|(refine R3 (hc) ?_ ?_;(focus ((simp only [go_sem, *]<;>(repeat (first|assumption|rfl|refine And.intro ?_ ?_)));done)))|refine Y7 g9 ?_ ?_ ?_)<;>try simp only [go_sem, *])
 | false =>
  have hv0:V.agg (Tm.mk t.kind t.index t.type (t.args.map fun x=>x.rb F (if (t.kind==2)=true then o9 b 1 else b))).cells=.agg (t.rb F b).cells:=by rw [Tm.dF6 F t b,k1];rfl
  generalize hvv:V.agg (t.rb F b).cells=v at hv0 hin ⊢;clear hvv;generalize hb1:(if (t.kind==2)=true then o9 b 1 else b)=b1 at hv0;cases k2:(t.kind==2)
  all_goals
   rw [k2] at hb1;simp only [p7,B2,r6] at hb1
   first|(obtain rfl:b1=b:=hb1.symm)|skip
   refine g_ Tryz.func224 [.cell 6 52] fun g0 w0 gen g9 hfr e9 n8=>?_;have f3:=n9 hfr hO;have f4:=n9 hfr hR;have f5:=n9 hfr hA;have f6:=n9 hfr hB;clear hof;refine e_ ?_;refine k_ [1,3,6,7,32] [⟨gen,0,1⟩] (fun i σ=>∃ v,σ.h ⟨gen,3,8⟩=some (.box [.int .i64 t.kind,.int .i64 t.index,.int .i64 t.type.kind,.sl .any (t.type.args.map Ty.cells),v])/\Q4 h σ.h v 5 (((t.args.take i).map fun x=>x.rb F b1).map Tm.cells)) (t.args) ?_ ?_ ?_
   ·simp only [go_sem, *]
    exact ⟨f_,_,rfl,.inl rfl⟩
   ·clear hv0
    intro i x σ gr0 o5 hgf l6 l9 m6 hx hxm hm hlt jI jN jT jA ⟨v,jb,jO0⟩;have hc:=ih' x hxm b1;have hts:((t.args.take (i+1)).map fun x=>x.rb F b1).map Tm.cells=((t.args.take i).map fun x=>x.rb F b1).map Tm.cells++[(x.rb F b1).cells]:=by rw [p9 hx,U0];rfl
    have hO':=(jA O (by rw [hO];simp)).trans hO;have hR':=(jA R (by rw [hR];simp)).trans hR;have hA':=(jA A (by rw [hA];simp)).trans hA;have hB':=(jA B (by rw [hB];simp)).trans hB;have g3:=u5 hfr hO o5;have g4:=u5 hfr hR o5;have g5:=u5 hfr hA o5;have g6:=u5 hfr hB o5;clear ih' hO hR hA hB hT
    repeat' (first
     |(refine ⟨?_,?_⟩;focus ((repeat' (first|refine ⟨?_,?_⟩|refine .inr ?_));all_goals kernel_rfl))
     |(refine ab5 jO0 t_ rfl r_ s_ j_ (by intro hd e;simp only [af6,ak4,ag3];repeat (first|exact trivial|refine ⟨.inr h_,?_⟩|exact .inr h_)) ?_;intro v' h' id' jO jK jAg jAb jF;obtain ⟨cO,rfl⟩:=jO.val;simp only [go_sem, *])
     | (first|refine wp rfl ?_|refine spt rfl ?_|refine spf rfl ?_|(refine spl (fun hc=>?_) fun hc=>?_)<;>(try rw [L1] at hc)<;>try simp only [hc]|(refine R3 (hc) ?_ ?_;(focus ((simp only [go_sem, *]<;>(repeat (first|assumption|rfl|refine And.intro ?_ ?_)));done)))|refine D3 ?_)<;>try simp only [go_sem, *])
    refine ⟨?_,_,rfl,jO.aU5 (O3.box (O3.refl _) j_)⟩;exact m8.new (jAg f_) (e9 _ _)
   ·
    intro σ ga0 q9 hgf l6 l8 m5 jT jA ⟨v,jb,jO0⟩;rw [L2] at jO0;obtain ⟨c,rfl⟩:=jO0.val;clear ih' hT;rw [Tm.r7] at hv0;subst hv0;exact i_
theorem bG6 (F:Int->Int->Tm) (kd:Nat) (cap:List V) (aa3:B1 cap=cap) (A B:GoAbs.Id) (oA oB:GoAbs.Obj)
  (hof:∀ i b,aA8 Tryz.prog env kd (.int .i64 i::.int .i64 b::cap) [(A,oA),(B,oB)] (.agg (F i b).cells)) (t:Tm) (ht:TmW t) :
  aA8 Tryz.prog env 205 [.agg t.cells,.fn (.func kd) [] cap] [(A,oA),(B,oB)] (.agg (t.rb F 0).cells):=by
 intro h he;simp only [D9,K0,D1,bo7,an4] at he;obtain ⟨hA,hB⟩:=he;refine g_ Tryz.func205 [.cell 4 52] fun g0 w0 gen g9 hfr e9 n8=>?_;have f5:=n9 hfr hA;have f6:=n9 hfr hB;have hc:=cm7 F kd cap aa3 ⟨gen,0,1⟩ ⟨gen,1,0⟩ A B oA oB hof t ht 0;clear hof;generalize t.rb F 0=v at *
 repeat' (first
  |exact hin _|exact agf l_
  | (first|refine wp rfl ?_|(refine R3 (hc) ?_ ?_;(focus ((simp only [go_sem, *]<;>(repeat (first|assumption|rfl|refine And.intro ?_ ?_)));done)))|refine Y7 g9 ?_ ?_ ?_)<;>try simp only [go_sem, *])
theorem dp4 (fr by':Int) (A B:GoAbs.Id) (i b:Int):aA8 Tryz.prog env 225 (.int .i64 i::.int .i64 b::[.ptr A 0,.ptr B 0])
  [(A,.box [.int .i64 fr]),(B,.box [.int .i64 by'])] (.agg (bm2 fr by' i b).cells):=by
 intro h he;simp only [D9,K0,D1,bo7,an4] at he;obtain ⟨hA,hB⟩:=he;have hw:IntKind.i64.wrap (i - b)=K5 i b:=rfl;have hw1:IntKind.i64.wrap (i+by')=o9 i by':=rfl
 unfold bm2;generalize K5 i b=q at *;generalize o9 i by'=m at *
 cases hq:decide (q>=fr)
 all_goals
  simp only [p7,B2,r6];refine g_ Tryz.func225 [.cell 6 52] fun g0 w0 gen g9 hfr e9 n8=>?_;have f5:=n9 hfr hA;have f6:=n9 hfr hB
  repeat' (first
   |exact hin _|exact agf l_
   | (first|refine wp rfl ?_|refine spt rfl ?_|refine spf rfl ?_|(refine spl (fun hc=>?_) fun hc=>?_)<;>(try rw [L1] at hc)<;>try simp only [hc]|refine cp (bf5 _) ?_|refine Y7 g9 ?_ ?_ ?_)<;>try simp only [go_sem, *])
theorem ds1 (t:Tm) (ht:TmW t) (fr by':Int):c_ env 207 [.agg t.cells,.int .i64 fr,.int .i64 by'] (.agg (ch9 t fr by').cells):=by
 intro h;unfold ch9;refine g_ Tryz.func207 [.cell 6 52] fun g0 w0 gen g9 hfr e9 n8=>?_;have hc:=bG6 (bm2 fr by') 225 [.ptr ⟨gen,0,1⟩ 0,.ptr ⟨gen,0,2⟩ 0] rfl ⟨gen,0,1⟩ ⟨gen,0,2⟩ _ _ (fun i b=>dp4 fr by' _ _ i b) t ht;generalize t.rb (bm2 fr by') 0=v at *
 repeat' (first
  |exact hin _|exact agf l_
  | (first|refine wp rfl ?_|(refine R3 (hc) ?_ ?_;(focus ((simp only [go_sem, *]<;>(repeat (first|assumption|rfl|refine And.intro ?_ ?_)));done)))|refine Y7 g9 ?_ ?_ ?_)<;>try simp only [go_sem, *])
theorem dI6 (a:Int) (s:Tm) (hs:TmW s) (A B:GoAbs.Id) (i b:Int):aA8 Tryz.prog env 206 (.int .i64 i::.int .i64 b::[.ptr A 0,.ptr B 0])
  [(A,.box [.int .i64 a]),(B,.box s.cells)] (.agg (aU6 a s i b).cells):=by
 intro h he;simp only [D9,K0,D1,bo7,an4] at he;obtain ⟨hA,hB⟩:=he;have hw:IntKind.i64.wrap (i - b)=K5 i b:=rfl;have hw1:IntKind.i64.wrap (a+b)=o9 a b:=rfl;have hw2:IntKind.i64.wrap (i - 1)=K5 i 1:=rfl;have hL:=ds1 s hs 0 (o9 a b);unfold aU6;clear hs;generalize ch9 s 0 (o9 a b)=v at *;generalize K5 i b=q at *;generalize o9 a b=m at *;generalize K5 i 1=p at *;cases hq:(q==a) with
 | true =>
  simp only [p7];refine g_ Tryz.func206 [.cell 6 52] fun g0 w0 gen g9 hfr e9 n8=>?_;have f5:=n9 hfr hA;have f6:=n9 hfr hB;exact i_
 | false =>
  cases hq2:decide (q>a)
  all_goals
   simp only [p7,B2,r6];refine g_ Tryz.func206 [.cell 6 52] fun g0 w0 gen g9 hfr e9 n8=>?_;have f5:=n9 hfr hA;have f6:=n9 hfr hB
   repeat' (first
    |exact hin _|exact agf l_
    | (first|refine wp rfl ?_|refine spt rfl ?_|refine spf rfl ?_|(refine spl (fun hc=>?_) fun hc=>?_)<;>(try rw [L1] at hc)<;>try simp only [hc]|refine cp (bf5 _) ?_|refine Y7 g9 ?_ ?_ ?_)<;>try simp only [go_sem, *])
theorem cZ2 (t:Tm) (ht:TmW t) (a:Int) (s:Tm) (hs:TmW s):c_ env 175 [.agg t.cells,.int .i64 a,.agg s.cells] (.agg (ac0 t a s).cells):=by
 intro h;unfold ac0;refine g_ Tryz.func175 [.cell 6 52] fun g0 w0 gen g9 hfr e9 n8=>?_;have hc:=bG6 (aU6 a s) 206 [.ptr ⟨gen,0,1⟩ 0,.ptr ⟨gen,0,2⟩ 0] rfl ⟨gen,0,1⟩ ⟨gen,0,2⟩ _ _ (fun i b=>dI6 a s hs _ _ i b) t ht;generalize t.rb (aU6 a s) 0=v at *
 repeat' (first
  |exact hin _|exact agf l_
  | (first|refine wp rfl ?_|(refine R3 (hc) ?_ ?_;(focus ((simp only [go_sem, *]<;>(repeat (first|assumption|rfl|refine And.intro ?_ ?_)));done)))|refine Y7 g9 ?_ ?_ ?_)<;>try simp only [go_sem, *])
theorem bU3 (t:Ty):(szC t).length=3:=rfl
theorem eb6 (t:Ty):(szC t)[0]? = some (.int .i64 t.kind):=rfl
theorem eb7 (t:Ty):(szC t)[1]? = some (.sl .any (t.args.map Ty.cells)):=rfl
theorem eb8 (t:Ty):(szC t)[2]? = some (.int .i64 (tyN t)):=rfl
theorem dj9 (t:Ty):List.take 3 (szC t)=szC t:=rfl
theorem dP8 (t:Ty):List.take 2 (szC t)=t.cells:=by rw [R8];rfl
theorem cE7 (t:Ty):(szC t).all am9=true:=rfl
theorem cQ3 {cs:List V} {t:Ty} (h:cs.length=3):G8 cs 0 (szC t)=szC t:=P4 (by rw [h,bU3])
theorem ci8 (t:Ty):B1 (szC t)=szC t:=by simp [szC,B1,J5,F4]
theorem bj3 (l:List Ty):A7 (l.map szC)=l.map szC:=by
 rw [J0,aR3];exact aG2 fun x _=>ci8 x
theorem cS5 {S:GoAbs.Id->Prop} (t:Ty):InL S (szC t):=by simp [szC,InL,InV,ae0,ai5]
theorem dm6 {S:GoAbs.Id->Prop} (l:List Ty):S8 S (l.map szC):=by
 rw [R5];intro x hx;obtain ⟨y,_,rfl⟩:=G5.1 hx;exact cS5 y
theorem bt1 (l:List Ty):(l.map szC).all (fun e=>e.length==3)=true:=by simp [bU3]
theorem ck4 (l:List Ty):(l.map szC).flatten.all am9=true:=by
 rw [ad2];intro v hv;obtain ⟨c,hc,hv⟩:=bj4.1 hv;obtain ⟨x,_,rfl⟩:=G5.1 hc;exact ad2.1 (cE7 x) v hv
attribute [go_sem] bU3 eb6 eb7 eb8 dj9 dP8 cE7 cQ3 ci8 bj3 cS5 dm6 bt1 ck4
theorem bf0 (g:List Ty) (hg:∀ y∈g,TyW y) (hl:g.length<=1000):c_ env 91 [.sl .any (g.map Ty.cells)] (.sl .any (g.map szC)):=by
 intro h;have bE4:=bt1;refine g_ Tryz.func91 [.tmp 2] fun g0 w0 gen g9 hfr e9 n8=>?_;refine e_ ?_;refine k_ [2,6] [] (fun i σ=>Q4 h σ.h (σ.tm 3) 3 ((g.take i).map szC)) (g) ?_ ?_ ?_
 ·simp only [go_sem, *]
  exact ⟨f_,.inl rfl⟩
 ·
  intro i x σ gr0 o5 hgf l6 l9 m6 hx hxm hm hlt jI jN jT jA jO0;have hc:=bu9 x (hg x hxm);have hts:(g.take (i+1)).map szC=(g.take i).map szC++[szC x]:=by rw [p9 hx]
  have htl:(g.take i).length=i:=by rw [ae6];omega
  have b1:(i+1) * 40<=140737488355328:=by omega
  have b2:i+1<=140737488355328:=by omega
  repeat' (first
   |(refine X6 jO0 t_ rfl r_ s_ j_ (by intro hd;cases hd) ?_;intro v' h' log' jO jK jAg jAb jF;simp only [go_sem, *])
   | (first|refine wp rfl ?_|refine spt rfl ?_|refine spf rfl ?_|(refine spl (fun hc=>?_) fun hc=>?_)<;>(try rw [L1] at hc)<;>try simp only [hc]|refine cp hc ?_|refine D3 ?_)<;>try simp only [go_sem, *])
  exact jAg (by repeat (first|exact jA|refine m8.new ?_ (l6 _ _)))
 ·
  intro σ ga0 q9 hgf l6 l8 m5 jT jA jO0;rw [L2] at jO0;obtain ⟨c,jO0⟩:=jO0.val;exact i_
theorem cI5 (g:List Ty) (a:Ty) (ha:TyW a) (hl:g.length<=100000):c_ env 148 [.sl .any (g.map szC),.sl .any [a.cells]] (.sl .any ((g++[a]).map szC)):=by
 intro h;have hc:=bf0 [a] (by simpa using ha) b_;simp only [E0,B7] at hc;have hwk:A7 (g.map szC++[szC a])=(g++[a]).map szC:=by rw [<- bj3 (g++[a])];simp
 have b3:(g.length+1) * 40<=140737488355328:=by omega
 have b4:g.length+1<=140737488355328:=by omega
 have t1:(0:Int)<=(g.length:Int):=by omega
 have t2:((g.length:Int)).toNat=g.length:=aA4 _;have t3:List.take g.length (g.map szC)=g.map szC:=ak6 b_;have t4:0<=g.length:=by omega
 have t5:g.length<=g.length:=w7 _;have mn:∀ (f:Operand->V),Option.map f none=none:=fun _=>rfl;have ml:(g.map szC).length=g.length:=by simp
 exact d_ Tryz.func148 [.tmp 4]
def zF:List V:=[.int .i64 0,.sl .full [],.int .i64 0]
def cf3 (ts:List Ty):List V:=ts.flatMap szC++(List.replicate (3 - ts.length) zF).flatten
theorem dF1:cf3 []=[.int .i64 0,.sl .full [],.int .i64 0,.int .i64 0,.sl .full [],.int .i64 0,.int .i64 0,.sl .full [],.int .i64 0]:=rfl
theorem dh0:cf3 [a]=[.int .i64 a.kind,.sl .any (a.args.map Ty.cells),.int .i64 (tyN a),.int .i64 0,.sl .full [],.int .i64 0,.int .i64 0,.sl .full [],.int .i64 0]:=rfl
theorem dh1:cf3 [a,b]=[.int .i64 a.kind,.sl .any (a.args.map Ty.cells),.int .i64 (tyN a),.int .i64 b.kind,.sl .any (b.args.map Ty.cells),.int .i64 (tyN b),.int .i64 0,.sl .full [],.int .i64 0]:=rfl
theorem dF2 {c:Ty}:cf3 [a,b,c]=[.int .i64 a.kind,.sl .any (a.args.map Ty.cells),.int .i64 (tyN a),.int .i64 b.kind,.sl .any (b.args.map Ty.cells),.int .i64 (tyN b),.int .i64 c.kind,.sl .any (c.args.map Ty.cells),.int .i64 (tyN c)]:=rfl
theorem av8 (g:List Ty) (k:Int) (ty:Ty) (hty:TyW ty) (l:List Tm) (ts:List Ty) (s:Ty) (hN:P5 TyG k ty ts s) (hlen:l.length=ts.length) (hts:∀ y∈ts,TyW y) (hws:TyW s)
  (ih:∀ (j:Nat) (x:Tm) (a:Ty),l[j]? = some x->ts[j]? = some a->c_ env 215 [.sl .any (g.map szC),.agg x.cells] (.tup [.agg (szC a),.int .i64 0])) :
  c_ env 215 [.sl .any (g.map szC),.agg (tmT k ty l).cells] (.tup [.agg (szC s),.int .i64 0]):=by
 intro h;have hl3:l.length<=3:=by rw [hlen];cases hN<;>simp
 have dE2:c_ env 235 [.agg (tmT k ty l).cells,.agg (bc9 ts)] (.tup [.agg (szC s),.int .i64 0]):=by
  cases hN with
  | app=>exact cJ0 _ _ _ rfl (hts _ b_) hws
  | zero=>exact bP6 _ 1 rfl hws
  | succ=>exact dr6 _ 1 c8 rfl hws
  | V8=>exact bH1 (tmT 6 ty l) c8 J9 (.inl ⟨rfl,rfl⟩) hty (hts _ (by simp [tmT,Tm.kind,Tm.type,aX8]))
  | nil=>exact bP6 _ 2 rfl hws
  | cons=>exact dr7 _ 2 c8 r5 rfl hws
  | fold=>exact bH1 (tmT 9 ty l) r5 Y0 (.inr ⟨rfl,rfl⟩) hty (hts _ (by simp [tmT,Tm.kind,Tm.type,aX8]))
  | pair hp=>exact cm2 _ _ _ rfl hp
  | fst=>exact bu3 _ _ _ 0 (.inl ⟨rfl,rfl⟩) _ rfl hws
  | snd=>exact bu3 _ _ _ 1 (.inr ⟨rfl,rfl⟩) _ rfl hws
  | unit=>exact bP6 _ 5 rfl hws
 have hk1:(k==1)=false:=by cases hN<;>rfl
 have hk2:(k==2)=false:=by cases hN<;>rfl
 have e1:(tmT k ty l).kind=k:=rfl;have e3:(tmT k ty l).args=l:=rfl;generalize tmT k ty l=t at *;have n0:((0:Int) != 0)=false:=rfl;have ad5:∀ (i:Nat) (x:Tm),l[i]? = some x->∃ a,ts[i]? = some a:=fun i x hx=>⟨_,W4 (by have:=(F2.1 hx).1;omega)⟩;have aE2:ts.take l.length=ts:=by rw [hlen,L2]
 clear hlen hws hty hN hts;refine g_ Tryz.func215 [.cell 4 188,.tmp 5] fun g0 w0 gen g9 hfr e9 n8=>?_;refine e_ ?_;refine k_ [0,3,4,9,65] [⟨gen,0,0⟩,⟨gen,0,1⟩] (fun i σ=>σ.h ⟨gen,11,0⟩=some (.box (cf3 (ts.take i)))) (l) ?_ ?_ ?_
 ·simp only [go_sem, *]
  exact ⟨f_,rfl⟩
 ·clear aE2 dE2
  intro i x σ gr0 o5 hgf l6 l9 m6 hx hxm hm hlt jI jN jT jA jb;obtain ⟨a,ha⟩:=ad5 i x hx;have hc:=ih i x a hx ha;have htk:ts.take (i+1)=ts.take i++[a]:=by rw [bC8,ha];rfl
  have htl:(ts.take i).length=i:=by rw [ae6];have:=(F2.1 ha).1;omega
  generalize ts.take i=q at *;clear ih ad5;unfold szC at hc
  match q,htl with
  | [],e =>
   obtain rfl:i=0:=e.symm;replace jI:σ.tm 67=.int .i64 0:=jI;have z0:((0:Int)<((3:Nat):Int))=True:=by simp
   rw [dF1] at jb;simp only [htk,Q3,dh0]
   first|refine e_ ?_|exact i_
   all_goals first|rfl|exact f_
  | [b],e =>
   obtain rfl:i=1:=e.symm;replace jI:σ.tm 67=.int .i64 1:=jI;have z0:((1:Int)<((3:Nat):Int))=True:=by simp
   rw [dh0] at jb;simp only [htk,R9,Q3,dh1]
   first|refine e_ ?_|exact i_
   all_goals first|rfl|exact f_
  | [b,c],e =>
   obtain rfl:i=2:=e.symm;replace jI:σ.tm 67=.int .i64 2:=jI;have z0:((2:Int)<((3:Nat):Int))=True:=by simp
   rw [dh1] at jb;simp only [htk,R9,Q3,dF2]
   first|refine e_ ?_|exact i_
   all_goals first|rfl|exact f_
  | _::_::_::_,e=>simp at e;omega
 ·
  intro σ ga0 q9 hgf l6 l8 m5 jT jA jb;rw [aE2] at jb;have pl:(cf3 ts).length=9/\B1 (cf3 ts)=bc9 ts:=by
   have:ts.length<=3:=by rw [<- aE2,ae6];omega
   clear jb dE2 aE2
   match ts,this with
   | [],_=>exact ⟨rfl,by simp [dF1,dF3,B1,J5,A7]⟩
   | [a],_=>exact ⟨rfl,by simp [dh0,cD2,B1,J5,A7,F4]⟩
   | [a,b],_=>exact ⟨rfl,by simp [dh1,cD3,B1,J5,A7,F4]⟩
   | [a,b,c],_=>exact ⟨rfl,by simp [dF2,dh2,B1,J5,A7,F4]⟩
   | _::_::_::_::_,h=>simp at h
  clear ih ad5 aE2;generalize cf3 ts=pc at *;generalize bc9 ts=pd at *;obtain ⟨pl,pw⟩:=pl;have pt:List.take 9 pc=pc:=ak6 a_;exact i_
theorem TyG.cb9 (h:TyG (x9 a b)):TyG a/\TyG b:=by
 obtain ⟨h1,h2⟩:=h;cases h1 with
 | func ha hb=>rw [M5] at h2;exact ⟨⟨ha,a_⟩,⟨hb,a_⟩⟩
theorem bZ6 {g:List Ty} {t:Tm} {s:Ty} (h:l7 TyG g t s):(∀ y∈g,TyW y)->TmW t->g.length+a8 t<=1000000 ->
  c_ env 215 [.sl .any (g.map szC),.agg t.cells] (.tup [.agg (szC s),.int .i64 0]):=by
 induction h with
 | @var g i t hi hg =>
  intro hw _ hb h;rw [aK5] at hb;have e1:(a9 (i:Int)).kind=1:=rfl;have e2:(a9 (i:Int)).index=(i:Int):=rfl;have w1:IntKind.i64.wrap ((g.length:Int) - 1)=((g.length - 1:Nat):Int):=x7 a_ a_ a_;have w2:IntKind.i64.wrap (((g.length - 1:Nat):Int) - (i:Int))=((g.length - 1 - i:Nat):Int):=x7 a_ a_ a_;have hd:decide ((i:Int)>=(g.length:Int))=false:=by simp;omega
  generalize a9 (i:Int)=x at *;clear hw hi;exact d_ Tryz.func215 [.cell 4 188,.tmp 5]
 | @lam g a b t ht _ ih =>
  intro hw hW hb h;rw [H7] at hb;have hwa:TyW a:=hW.ty;have wt:TmW t:=hW.arg (by simp [tmT,Tm.args]);have hc:=ih (by intro y hy;rcases Q8.1 hy with hy|hy;exact hw y hy;simp at hy;subst hy;exact hwa) wt (by simp;omega);have r1:=bu9 a hwa;obtain ⟨ga,gb⟩:=TyG.cb9 ht;have hz:=ht.2;rw [M5] at hz;have r2:=cz6 4 a b ga gb a_ (by have:=cF1 ht;rw [M5] at this;unfold x9 at this;rw [this];omega);have e:Ty.mk 4 [a,b]=x9 a b:=rfl;rw [e] at r2;have e1:(tmT 2 a [t]).kind=2:=rfl;have e2:(tmT 2 a [t]).type=a:=rfl;have e3:(tmT 2 a [t]).args=[t]:=rfl;have n0:((0:Int) != 0)=false:=rfl;have hwk:A7 (g.map szC++[szC a])=(g++[a]).map szC:=by rw [<- bj3 (g++[a])];simp
  have b3:(g.length+1) * 40<=140737488355328:=by omega
  have b4:g.length+1<=140737488355328:=by omega
  have t1:(0:Int)<=(g.length:Int):=by omega
  have t2:((g.length:Int)).toNat=g.length:=aA4 _;have t3:List.take g.length (g.map szC)=g.map szC:=ak6 b_;have t4:0<=g.length:=by omega
  have t5:g.length<=g.length:=w7 _;have mn:∀ (f:Operand->V),Option.map f none=none:=fun _=>rfl;have ml:(g.map szC).length=g.length:=by simp
  generalize tmT 2 a [t]=x at *;clear hw hW ih wt hwa ht ga gb hz e;generalize x9 a b=q at *;exact d_ Tryz.func215 [.cell 4 188,.tmp 5]
 | @n0 g k ty s hN =>
  intro hw hW hb;exact av8 g k ty hW.ty [] [] s hN rfl b_ ((l7.n0 (g:=g) hN).W hw hW).1 (by intro j x a hx;simp at hx)
 | @n1 g k ty s a x hN h1 ih1 =>
  intro hw hW hb;have z:a8 (tmT k ty [x])=a8 x+1:=H7;have w1:TmW x:=hW.arg (by simp [tmT,Tm.args]);refine av8 g k ty hW.ty [x] [a] s hN rfl (by simp [(h1.W hw w1).1]) ((l7.n1 hN h1).W hw hW).1 ?_;intro j y b hy hb'
  match j with
  | 0=>simp at hy hb';subst hy;subst hb';exact ih1 hw w1 a_
  | j+1=>simp at hy
 | @n2 g k ty s a b x y hN h1 h2 ih1 ih2 =>
  intro hw hW hb;have z:a8 (tmT k ty [x,y])=a8 x+a8 y+1:=by simp [tmT,a8,F7]
  have w1:TmW x:=hW.arg (by simp [tmT,Tm.args]);have w2:TmW y:=hW.arg (by simp [tmT,Tm.args]);refine av8 g k ty hW.ty [x,y] [a,b] s hN rfl (by simp [(h1.W hw w1).1,(h2.W hw w2).1]) ((l7.n2 hN h1 h2).W hw hW).1 ?_;intro j u v hu hv
  match j with
  | 0=>simp at hu hv;subst hu;subst hv;exact ih1 hw w1 a_
  | 1=>simp at hu hv;subst hu;subst hv;exact ih2 hw w2 a_
  | j+2=>simp at hu
 | @n3 g k ty s a b c x y z hN h1 h2 h3 ih1 ih2 ih3 =>
  intro hw hW hb;have zz:a8 (tmT k ty [x,y,z])=a8 x+(a8 y+a8 z)+1:=P0;have w1:TmW x:=hW.arg (by simp [tmT,Tm.args]);have w2:TmW y:=hW.arg (by simp [tmT,Tm.args]);have w3:TmW z:=hW.arg (by simp [tmT,Tm.args]);refine av8 g k ty hW.ty [x,y,z] [a,b,c] s hN rfl (by simp [(h1.W hw w1).1,(h2.W hw w2).1,(h3.W hw w3).1]) ((l7.n3 hN h1 h2 h3).W hw hW).1 ?_;intro j u v hu hv
  match j with
  | 0=>simp at hu hv;subst hu;subst hv;exact ih1 hw w1 a_
  | 1=>simp at hu hv;subst hu;subst hv;exact ih2 hw w2 a_
  | 2=>simp at hu hv;subst hu;subst hv;exact ih3 hw w3 a_
  | j+3=>simp at hu
end Go.Proofs.YtmfhhhhnokhggaaGreatDoor
