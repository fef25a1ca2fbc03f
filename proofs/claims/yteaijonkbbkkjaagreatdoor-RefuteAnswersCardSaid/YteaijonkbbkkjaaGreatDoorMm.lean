/-
 Walks: several parts in one text.
-/
import Derived.Test.YteaijonkbbkkjaaGreatDoorMv
import Derived.Test.YteaijonkbbkkjaaGreatDoorMo
import Derived.Test.YteaijonkbbkkjaaGreatDoorAbsDe
import Derived.Test.YteaijonkbbkkjaaGreatDoorNy
set_option linter.unusedSimpArgs false
set_option linter.unusedVariables false
set_option maxRecDepth 20000
set_option maxHeartbeats 4000000
namespace Go.Proofs.YteaijonkbbkkjaaGreatDoor
open Go GoAbs Go.Proofs
def bG0 (p:Nat × Nat × Int):V:=.tup [.int .i64 p.1,.int .i64 p.2.1,.int .i64 p.2.2]
def t9V (p:Bool × Nat × Int):V:=.tup [.bool p.1,.int .i64 p.2.1,.int .i64 p.2.2]
theorem aN1 (t:Tm) (hT:w7 TyG [] t r5) (hG:TmG t) (hz:m7 t≤4096) (ht:TmW t) (w:Nat) (hw:w≤65536) :
  Pure Tryz.prog env 153 [.agg t.cells,.int .i64 w] (bG0 (evW t w)):=by
 obtain ⟨r,u,o,h0,_,hu⟩:=bj6 (m:=w) hT;have h1:=cD5 hw hT hG hz ht h0;cases o with
 | true =>
  have e:evW t w=(0,w,5):=by simp [evW,h0]
  have w0:IntKind.i64.wrap ((w:Int) - 0)=w:=w8 om_ om_ om_;rw [e];unfold aR7 at h1;simp only [if_true] at h1;unfold bG0;simp only;clear e hT hG hz ht h0 hu hw;intro h;refine en_ Tryz.func153 [.tmp 4,.tmp 5,.tmp 6] fun g0 w0 gen b7 hfr c6 m0=>?_
  first|refine wq_ ?_|exact wk_
  all_goals rfl
 | false =>
  have e:evW t w=(r.num,w - u,0):=by simp [evW,h0]
  have w0:IntKind.i64.wrap ((w:Int) - (u:Int))=((w - u:Nat):Int):=w8 om_ om_ om_;rw [e];unfold aR7 by8 at h1;simp only [Bool.false_eq_true,if_false] at h1;unfold bG0;simp only;clear e hT hG hz ht h0 hu hw;intro h;exact ek_ Tryz.func153 [.tmp 4,.tmp 5,.tmp 6]
theorem cQ1 (x y:Tm) (hx:∀ w:Nat,w≤65536→Pure Tryz.prog env 153 [.agg x.cells,.int .i64 w] (bG0 (evW x w)))
  (hy:∀ w:Nat,w≤65536→Pure Tryz.prog env 153 [.agg y.cells,.int .i64 w] (bG0 (evW y w))) (w:Nat) (hw:w≤65536) :
  Pure Tryz.prog env 99 [.agg (M3 x y).cells,.int .i64 w] (t9V (bY7 x y w)):=by
 have h1:=hx w hw;have hl:=aH7 (t:=x) (w:=w);have e:(M3 x y).cells=[.int .i64 1,.int .i64 0,.sl .any [],.sl .any [x.cells,y.cells],.sl .any []]:=by rw [M3,Fm.p9];rfl
 rw [e];unfold bY7;have h2:=hy (evW x w).2.1 om_;generalize evW x w=p at *;obtain ⟨a,l,e1⟩:=p;simp only at *;generalize evW y l=q at *;obtain ⟨b,l2,e2⟩:=q;unfold bG0 at *;simp only at *;have n0:((0:Int) != 0)=false:=rfl;clear e hl hw hx hy;cases q:(e1 != 0) with
 | true =>
  simp only [if_true,t9V];clear h2;intro h;refine en_ Tryz.func99 [.tmp 4,.tmp 5,.tmp 6] fun g0 w0 gen b7 hfr c6 m0=>?_
  first|refine wq_ ?_|exact wk_
  all_goals rfl
 | false =>
  simp only [Bool.false_eq_true,if_false,t9V];intro h;exact ek_ Tryz.func99 [.tmp 4,.tmp 5,.tmp 6]
theorem cE5 (k:Int) (hk:k=2∨k=3) (a b:Fm) (A B:Nat→Bool × Nat × Int) (w:Nat) (hl:(A w).2.1≤w) (hw:w≤65536)
  (h1:Pure Tryz.prog env 99 [.agg a.cells,.int .i64 w] (t9V (A w)))
  (hB:∀ w:Nat,w≤65536→Pure Tryz.prog env 99 [.agg b.cells,.int .i64 w] (t9V (B w))) :
  Pure Tryz.prog env 99 [.agg (E8 k a b).cells,.int .i64 w] (t9V (aV3 k A B w)):=by
 have e:(E8 k a b).cells=[.int .i64 k,.int .i64 0,.sl .any [],.sl .any [],.sl .any [a.cells,b.cells]]:=by rw [E8,Fm.p9];rfl
 rw [e];unfold aV3;have h2:=hB (A w).2.1 om_;generalize A w=p at *;obtain ⟨r,l,e1⟩:=p;simp only at *;generalize B l=q at *;obtain ⟨r2,l2,e2⟩:=q;unfold t9V at *;simp only at *;clear e hl hw hB;have k1:(k==1)=false:=by rcases hk with rfl|rfl<;>rfl
 have n0:((0:Int) != 0)=false:=rfl;cases q:(e1 != 0) with
 | true =>
  simp only [if_true];clear h2;intro h;rcases hk with rfl|rfl
  ·
   refine en_ Tryz.func99 [.tmp 4,.tmp 5,.tmp 6] fun g0 w0 gen b7 hfr c6 m0=>?_
   first|refine wq_ ?_|exact wk_
   all_goals rfl
  ·
   refine en_ Tryz.func99 [.tmp 4,.tmp 5,.tmp 6] fun g0 w0 gen b7 hfr c6 m0=>?_
   first|refine wq_ ?_|exact wk_
   all_goals rfl
 | false =>
  simp only [Bool.false_eq_true,if_false];cases r with
  | true =>
   simp only [if_true];intro h;rcases hk with rfl|rfl
   ·
    exact ek_ Tryz.func99 [.tmp 4,.tmp 5,.tmp 6]
   ·
    exact ek_ Tryz.func99 [.tmp 4,.tmp 5,.tmp 6]
  | false =>
   simp only [Bool.false_eq_true,if_false];clear h2;intro h;rcases hk with rfl|rfl
   ·rw [show ((2:Int)==3)=false from rfl]
    exact ek_ Tryz.func99 [.tmp 4,.tmp 5,.tmp 6]
   ·rw [show ((3:Int)==3)=true from rfl]
    exact ek_ Tryz.func99 [.tmp 4,.tmp 5,.tmp 6]
theorem aW3 {g:List Ty} {f:Fm} (hT:ak3 TyG g f) (gf:FmG true f) (zf:z6 f≤4096) (wf:FmW f) (hb:g.length≤10000) :
  Pure Tryz.prog env 98 [.agg f.cells] (.tup [.bool f.fl.d,.int .i64 0]):=by
 have h3:=V7 f wf;rw [gf.aj7 zf] at h3;have h4:=br3 (z6 f) (Nat.le_refl _) om_ gf (hT.least om_) (Fm.al2 (by rw [gf.aj7 zf];rfl)) wf;have n0:((0:Int) != 0)=false:=rfl;clear gf zf wf hT hb;generalize f.fl.d=p at *;intro h;exact ek_ Tryz.func98 [.tmp 2,.tmp 3]
theorem bE5 {all:Bool} {q:Tm} {a:Fm} (hD:Dc [] (J0 all q a)) (zf:z6 (J0 all q a)≤4096) (wf:FmW (J0 all q a)) :
  Pure Tryz.prog env 154 [.agg (J0 all q a).cells] (.tup [.bool all,.agg (Q5 q 0 C6).cells,.agg a.cells,.bool true]):=by
 obtain ⟨gq,tq,oq,ha⟩:=hD.cI3;have lq:q.least 536870912=true:=tq.least _ om_ (by rw [an2] at zf;simp;omega);have gf:FmG true (J0 all q a):=hD.G;have h3:=V7 _ wf;rw [gf.aj7 zf] at h3;have hg:(J0 all q a).G5=true:=Fm.al2 (by rw [gf.aj7 zf];rfl);have zq:m7 q≤4096:=by rw [an2] at zf;omega
 have h4:=ba9 _ wf hg (by cases all<;>simp [J0,fmQ,Fm.kind]) (gf.dg2 (hD.ty.least (by simp;omega)) om_);unfold au1 at h4;rw [aY5 (by rw [gq.am2 om_ (O8 om_ _ lq) om_ om_,oq];rfl)] at h4;have e1:M9 (J0 all q a)=q:=by cases all<;>rfl
 have e2:aa9 (J0 all q a)=a:=by cases all<;>rfl
 have e3:((J0 all q a).kind==4)=all:=by cases all<;>rfl
 rw [e1,e2,e3,cn0 (s:=C6) gq lq oq om_] at h4;simp only [if_true] at h4;have n0:((0:Int) != 0)=false:=rfl;clear gf zf wf hD hg zq lq gq tq oq ha e1 e2 e3;generalize Q5 q 0 C6=t at *;generalize J0 all q a=f at *;intro h;exact ek_ Tryz.func154 [.tmp 2,.cell 3 65,.cell 4 45,.tmp 5]
theorem aA8 (n:Nat) (hn:n<4096):Pure Tryz.prog env 57 [.int .i64 n] (.tup [.agg (C5 n).cells,.int .i64 0]):=by
 intro h;have h1:=aC2 n om_;have d1:decide ((n:Int)<0)=false:=by simp
 have d2:decide ((n:Int)≥4096)=false:=by simp;omega
 exact ek_ Tryz.func57 [.cell 2 65,.tmp 3]
theorem bn8 (n:Nat) (hn:4096≤n):Pure Tryz.prog env 57 [.int .i64 n] (.tup [.agg C6.cells,.int .i64 4]):=by
 intro h;have hzt:=Z8;have d1:decide ((n:Int)<0)=false:=by simp
 have d2:decide ((n:Int)≥4096)=true:=by simp;omega
 exact ek_ Tryz.func57 [.cell 2 65,.tmp 3]
theorem cH1 {s:Tm} (hs:TmW s) {a:Int}:∀ (t:Tm) (d:Int),TmW t→TmW (F0 s a t d):=by
 intro t
 induction t using Tm.ind with|h t ih=>?_
 intro d ht;rw [aY2]
 repeat' split
 ·exact bk6 _ _ hs
 ·exact D4 _
 ·exact ht
 ·refine .mk _ _ _ _ ht.ty (by rw [List.length_map];exact ht.len) ?_
  intro x hx;obtain ⟨y,hy,rfl⟩:=List.mem_map.1 hx;exact ih y hy _ (ht.arg hy)
theorem cT0 (s:Tm) (hs:TmW s) (at':Int):∀ t:Tm,TmW t→∀ d:Int,Pure Tryz.prog env 150 [.agg t.cells,.int .i64 at',.int .i64 d,.agg s.cells] (.agg (F0 s at' t d).cells):=by
 intro t
 induction t using Tm.ind with|h t ih=>?_
 intro ht d h;have hlen:=ht.len;have ih':∀ x∈t.args,Pure Tryz.prog env 150 [.agg x.cells,.int .i64 at',.int .i64 (x4 d (r6 t.kind)),.agg s.cells] (.agg (F0 s at' x (x4 d (r6 t.kind))).cells):=fun x hx=>ih x hx (ht.arg hx) _;clear ih;have hB:=aC6 t;have hw:IntKind.i64.wrap (d+r6 t.kind)=x4 d (r6 t.kind):=rfl;have hw0:IntKind.i64.wrap (at'+d)=x4 at' d:=rfl;cases hk1:(t.kind==1) with
 | true =>
  have hw1:IntKind.i64.wrap (t.index - 1)=ab8 t.index 1:=rfl;have hU:=bn2 (x4 at' d) s hs 0;rw [aY2,hk1];simp only [if_true];clear ih' hB hw;generalize x4 at' d=a0 at *;cases hk2:(t.index==a0) with
  | true =>
   simp only [if_true];exact ek_ Tryz.func150 [.cell 8 65]
  | false =>
   cases hk3:decide (t.index>a0) with
   | true =>
    simp only [if_true,Bool.false_eq_true,if_false];refine en_ Tryz.func150 [.cell 8 65] fun g0 w0 gen b7 hfr c6 m0=>?_
    repeat' (first
     |(refine ⟨?_,?_⟩;focus ((repeat' (first|refine ⟨?_,?_⟩|refine .inr ?_));all_goals kernel_rfl))
     |exact hin _|exact agf as_
     | (first|refine wp rfl ?_|refine spt rfl ?_|refine spf rfl ?_|(refine spl (fun hc=>?_) fun hc=>?_)<;>(try rw [beq_iff_eq] at hc)<;>try simp only [hc]|refine cp (aB8 _) ?_|refine A9 b7 ?_ ?_ ?_)<;>try simp only [go_sem, *])
   | false =>
    simp only [Bool.false_eq_true,if_false];exact ek_ Tryz.func150 [.cell 8 65]
 | false =>
  have hv0:V.agg (Tm.mk t.kind t.index t.type (t.args.map fun x=>F0 s at' x (x4 d (r6 t.kind)))).cells=.agg (F0 s at' t d).cells:=by
   rw [aY2 s at' t,hk1];rfl
  have hin:∀ S,InV S (V.agg (F0 s at' t d).cells):=fun S=>by simp [InV,aw0]
  generalize hvv:V.agg (F0 s at' t d).cells=v at hv0 hin ⊢;clear hvv hw0;generalize x4 d (r6 t.kind)=a2 at *;refine en_ Tryz.func150 [.cell 8 65] fun g0 w0 gen b7 hfr c6 m0=>?_;refine wq_ ?_;refine ar_ [1,2,4,7,8,9,45] [⟨gen,0,0⟩,⟨gen,0,1⟩,⟨gen,0,2⟩] (fun i σ=>g9 h σ.h∧∃ v,σ.h ⟨gen,7,7⟩=some (.box [.int .i64 t.kind,.int .i64 t.index,.int .i64 t.type.kind,.sl .any (t.type.args.map Ty.cells),v])∧T7 h σ.h v 5 (((t.args.take i).map fun x=>F0 s at' x a2).map Tm.cells)) (t.args).length ?_ ?_ ?_
  ·simp only [go_sem, *]
   exact ⟨ag_,_,rfl,.inl rfl⟩
  ·clear hv0
   intro i σ gr0 l6 hgn hlt jI jN jS ⟨jA,v,jb,jO0⟩;obtain ⟨jT,jB⟩:=jS;simp only [go_sem] at jT jB;obtain ⟨hgf,m6,n7,n8⟩:=rnd hgn l6 jA;obtain ⟨x,hx,hxm,hm⟩:=rnx hlt;clear hgn;have hc:=ih' x hxm;have hts:((t.args.take (i+1)).map fun x=>F0 s at' x a2).map Tm.cells=((t.args.take i).map fun x=>F0 s at' x a2).map Tm.cells++[(F0 s at' x a2).cells]:=by rw [B4 hx,List.map_append];rfl
   clear ih'
   repeat' (first
    |(refine ⟨?_,?_⟩;focus ((repeat' (first|refine ⟨?_,?_⟩|refine .inr ?_));all_goals kernel_rfl))
    |(refine G9 jO0 kp_ rfl so_ fr_ sg_ lo_ ?_;intro v' h' id' jO jK jAg jAb jF;obtain ⟨cO,rfl⟩:=jO.val;simp only [go_sem, *])
    | (first|refine wp rfl ?_|refine spt rfl ?_|refine spf rfl ?_|(refine spl (fun hc=>?_) fun hc=>?_)<;>(try rw [beq_iff_eq] at hc)<;>try simp only [hc]|refine cp hc ?_|refine cp hB ?_|refine u7 ?_)<;>try simp only [go_sem, *])
   refine ⟨?_,_,rfl,jO.ak5 (F4.box (F4.refl _) sg_)⟩;exact g9.new (jAg ag_) (c6 _ _)
  ·
   intro σ ga0 l9 hgn jS ⟨jA,v,jb,jO0⟩;obtain ⟨jT,jB⟩:=jS;simp only [go_sem] at jT jB;obtain ⟨hgf,m6,n9,o0⟩:=rnd hgn l9 jA;clear hgn;rw [List.take_length] at jO0;obtain ⟨c,rfl⟩:=jO0.val;clear ih';rw [Tm.p9] at hv0;subst hv0;exact wk_
theorem cc6 (m:Int):∀ t:Fm,FmW t→Pure Tryz.prog env 92 [.agg t.cells,.int .i64 m] (.bool (t.least m)):=by
 intro t
 induction t using Fm.ind with|h t ih=>?_
 intro ht h;have hlen:=ht.len;have aF5:=ht.aE3;have ih':∀ x∈t.args,Pure Tryz.prog env 92 [.agg x.cells,.int .i64 m] (.bool (x.least m)):=fun x hx=>ih x hx (ht.arg hx);clear ih;have hv0:=(t.R2 m).symm;generalize hvv:t.least m=v at hv0 ⊢;clear hvv;refine en_ Tryz.func92 [.tmp 4] fun g0 w0 gen b7 hfr c6 m0=>?_;refine wq_ ?_;refine ar_ [1,2,10] [⟨gen,0,0⟩] (fun i σ=>g9 h σ.h∧(Tm.J1 m (t.r8.drop i)&&Fm.J1 m t.args)=v) (t.r8).length ?_ ?_ ?_
 ·simp only [go_sem, *]
  first|exact ag_|exact ⟨ag_,hv0⟩
 ·clear hv0 ih'
  intro i σ gr0 l6 hgn hlt jI jN jS ⟨jA,jv⟩;obtain ⟨jT,jB⟩:=jS;simp only [go_sem] at jT jB;obtain ⟨hgf,m6,n7,n8⟩:=rnd hgn l6 jA;obtain ⟨x,hx,hxm,hm⟩:=rnx hlt;clear hgn;rw [A2 hx,Tm.L6] at jv;have hc:=aO8 m x (ht.term hxm);cases hn:x.least m with
  | false =>
   rw [hn] at hc;rw [hn,Bool.false_and,Bool.false_and] at jv;subst jv;exact wk_
  | true =>
   rw [hn] at hc;rw [hn,Bool.true_and] at jv;refine wq_ ?_
   first|exact ag_|exact ⟨ag_,jv⟩
 clear hv0;intro σ ga0 l9 hgn jS ⟨jA,jv⟩;obtain ⟨jT,jB⟩:=jS;simp only [go_sem] at jT jB;obtain ⟨hgf,m6,n9,o0⟩:=rnd hgn l9 jA;clear hgn;rw [List.drop_length,Tm.F7,Bool.true_and] at jv;refine wq_ ?_;refine ar_ [1,22] [] (fun i σ=>g9 h σ.h∧Fm.J1 m (t.args.drop i)=v) (t.args).length ?_ ?_ ?_
 ·simp only [go_sem, *]
  all_goals (first|exact jv|exact ⟨ag_,jv⟩)
 ·clear jv
  intro i σ gr1 M8 hgn hlt jI jN jS ⟨jA,jv⟩;obtain ⟨jT,jB⟩:=jS;simp only [go_sem] at jT jB;have hgf:=c8 hgn;have m6:=fun r i=>s7 jA (hgf r i);have G2:=s8 (show gen<gr1 by omega);have G8:=o9 (show gen<gr1 by omega);have K8:=s8 (show ga0<gr1 by omega);have K5:=o9 (show ga0<gr1 by omega);obtain ⟨x,hx,hxm,hm⟩:=rnx hlt;clear hgn;rw [A2 hx,Fm.L6] at jv;have hc:=ih' x hxm;clear ih';cases hn:x.least m with
  | false =>
   rw [hn] at hc;rw [hn,Bool.false_and] at jv;subst jv;exact wk_
  | true =>
   rw [hn] at hc;rw [hn,Bool.true_and] at jv;refine wq_ ?_
   first|exact ag_|exact ⟨ag_,jv⟩
 ·clear jv
  intro σ ga1 M7 hgn jS ⟨jA,jv⟩;obtain ⟨jT,jB⟩:=jS;simp only [go_sem] at jT jB;have hgf:=c8 hgn;have m6:=fun r i=>s7 jA (hgf r i);have G3:=s8 (show gen<ga1 by omega);have G4:=o9 (show gen<ga1 by omega);have K6:=s8 (show ga0<ga1 by omega);have K3:=o9 (show ga0<ga1 by omega);clear hgn;rw [List.drop_length,Fm.F7] at jv;subst jv;clear ih';exact wk_
theorem bX3:∀ t:Fm,FmW t→∀ at':Int,Pure Tryz.prog env 94 [.agg t.cells,.int .i64 at'] (.int .i64 (t.times at')):=by
 intro t
 induction t using Fm.ind with|h t ih=>?_
 intro ht at' h;have hlen:=ht.len;have aF5:=ht.aE3;have ih':∀ x∈t.args,Pure Tryz.prog env 94 [.agg x.cells,.int .i64 (x4 at' (D9 t.kind))] (.int .i64 (x.times (x4 at' (D9 t.kind)))):=fun x hx=>ih x hx (ht.arg hx) _;clear ih;have hB:=bg8 t;have hv0:=(t.bc5 at').symm;generalize hvv:t.times at'=v at hv0 ⊢;clear hvv;have hw:IntKind.i64.wrap (at'+D9 t.kind)=x4 at' (D9 t.kind):=rfl;generalize x4 at' (D9 t.kind)=a2 at *;refine en_ Tryz.func94 [.tmp 4] fun g0 w0 gen b7 hfr c6 m0=>?_;refine wq_ ?_;refine ar_ [1,2,4,11] [⟨gen,0,0⟩] (fun i σ=>g9 h σ.h∧∃ n,σ.tm 5=.int .i64 n∧Fm.Q9 a2 (Tm.Q9 at' n (t.r8.drop i)) t.args=v) (t.r8).length ?_ ?_ ?_
 ·simp only [go_sem, *]
  first|exact ⟨_,rfl,hv0⟩|exact ⟨ag_,_,rfl,hv0⟩
 ·clear hv0 ih'
  intro i σ gr0 l6 hgn hlt jI jN jS ⟨jA,n,jn,jv⟩;obtain ⟨jT,jB⟩:=jS;simp only [go_sem] at jT jB;obtain ⟨hgf,m6,n7,n8⟩:=rnd hgn l6 jA;obtain ⟨x,hx,hxm,hm⟩:=rnx hlt;clear hgn;rw [A2 hx,Tm.U4] at jv;have hc:=cb5 x (ht.term hxm) at';have hw2:IntKind.i64.wrap (n+x.times at')=x4 n (x.times at'):=rfl;refine wq_ ?_
  first|exact ⟨_,rfl,jv⟩|exact ⟨ag_,_,rfl,jv⟩
 clear hv0;intro σ ga0 l9 hgn jS ⟨jA,n,jn,jv⟩;obtain ⟨jT,jB⟩:=jS;simp only [go_sem] at jT jB;obtain ⟨hgf,m6,n9,o0⟩:=rnd hgn l9 jA;clear hgn;rw [List.drop_length,Tm.R1] at jv;refine wq_ ?_;refine ar_ [1,2,4,24] [⟨gen,0,0⟩] (fun i σ=>g9 h σ.h∧∃ n,σ.tm 5=.int .i64 n∧Fm.Q9 a2 n (t.args.drop i)=v) (t.args).length ?_ ?_ ?_
 ·simp only [go_sem, *]
  first|exact ⟨_,rfl,jv⟩|exact ⟨ag_,_,rfl,jv⟩
 ·clear jv
  intro i σ gr1 M8 hgn hlt jI jN jS ⟨jA,n',jn',jv⟩;obtain ⟨jT,jB⟩:=jS;simp only [go_sem] at jT jB;have hgf:=c8 hgn;have m6:=fun r i=>s7 jA (hgf r i);have G2:=s8 (show gen<gr1 by omega);have G8:=o9 (show gen<gr1 by omega);have K8:=s8 (show ga0<gr1 by omega);have K5:=o9 (show ga0<gr1 by omega);obtain ⟨x,hx,hxm,hm⟩:=rnx hlt;clear hgn;rw [A2 hx,Fm.U4] at jv;have hc:=ih' x hxm;have hw2:IntKind.i64.wrap (n'+x.times a2)=x4 n' (x.times a2):=rfl;clear ih';refine wq_ ?_
  first|exact ⟨_,rfl,jv⟩|exact ⟨ag_,_,rfl,jv⟩
 ·clear jv
  intro σ ga1 M7 hgn jS ⟨jA,n',jn',jv⟩;obtain ⟨jT,jB⟩:=jS;simp only [go_sem] at jT jB;have hgf:=c8 hgn;have m6:=fun r i=>s7 jA (hgf r i);have G3:=s8 (show gen<ga1 by omega);have G4:=o9 (show gen<ga1 by omega);have K6:=s8 (show ga0<ga1 by omega);have K3:=o9 (show ga0<ga1 by omega);clear hgn;rw [List.drop_length,Fm.R1] at jv;subst jv;clear ih';exact wk_
theorem cE3 {s:Tm} (hs:TmW s) {a:Int}:∀ (t:Fm) (d:Int),FmW t→FmW (O1 s a t d):=by
 intro t
 induction t using Fm.ind with|h t ih=>?_
 intro d ht;rw [aA1];refine .mk _ _ _ _ ht.ty (by rw [List.length_map];exact ht.aE3) ?_ (by rw [List.length_map];exact ht.len) ?_
 ·intro x hx
  obtain ⟨y,hy,rfl⟩:=List.mem_map.1 hx;exact cH1 hs y _ (ht.term hy)
 ·intro x hx
  obtain ⟨y,hy,rfl⟩:=List.mem_map.1 hx;exact ih y hy _ (ht.arg hy)
theorem cR2 (s:Tm) (hs:TmW s) (at':Int):∀ t:Fm,FmW t→∀ d:Int,Pure Tryz.prog env 96 [.agg t.cells,.int .i64 at',.int .i64 d,.agg s.cells] (.agg (O1 s at' t d).cells):=by
 intro t
 induction t using Fm.ind with|h t ih=>?_
 intro ht d h;have hlen:=ht.len;have aF5:=ht.aE3;have ih':∀ x∈t.args,Pure Tryz.prog env 96 [.agg x.cells,.int .i64 at',.int .i64 (x4 d (D9 t.kind)),.agg s.cells] (.agg (O1 s at' x (x4 d (D9 t.kind))).cells):=fun x hx=>ih x hx (ht.arg hx) _;clear ih;have hB:=bg8 t;have hw:IntKind.i64.wrap (d+D9 t.kind)=x4 d (D9 t.kind):=rfl;have hv0:V.agg (Fm.mk t.kind t.type (t.r8.map fun x=>F0 s at' x d) (t.args.map fun x=>O1 s at' x (x4 d (D9 t.kind)))).cells=.agg (O1 s at' t d).cells:=by
  rw [aA1 s at' t]
 have hin:∀ S,InV S (V.agg (O1 s at' t d).cells):=fun S=>by simp [InV,bk3]
 generalize hvv:V.agg (O1 s at' t d).cells=v at hv0 hin ⊢;clear hvv;generalize x4 d (D9 t.kind)=a2 at *;refine en_ Tryz.func96 [.cell 8 45] fun g0 w0 gen b7 hfr c6 m0=>?_;refine wq_ ?_;refine ar_ [1,2,4,7,8,9,20] [⟨gen,0,0⟩,⟨gen,0,1⟩,⟨gen,0,2⟩] (fun i σ=>g9 h σ.h∧∃ v,σ.h ⟨gen,1,5⟩=some (.box [.int .i64 t.kind,.int .i64 t.type.kind,.sl .any (t.type.args.map Ty.cells),v,.sl .full []])∧T7 h σ.h v 5 (((t.r8.take i).map fun x=>F0 s at' x d).map Tm.cells)) (t.r8).length ?_ ?_ ?_
 ·simp only [go_sem, *]
  exact ⟨ag_,_,rfl,.inl rfl⟩
 ·clear hv0 ih'
  intro i σ gr0 l6 hgn hlt jI jN jS ⟨jA,v,jb,jO0⟩;obtain ⟨jT,jB⟩:=jS;simp only [go_sem] at jT jB;obtain ⟨hgf,m6,n7,n8⟩:=rnd hgn l6 jA;obtain ⟨x,hx,hxm,hm⟩:=rnx hlt;clear hgn;have hc:=cT0 s hs at' x (ht.term hxm) d;have hts:((t.r8.take (i+1)).map fun x=>F0 s at' x d).map Tm.cells=((t.r8.take i).map fun x=>F0 s at' x d).map Tm.cells++[(F0 s at' x d).cells]:=by rw [B4 hx,List.map_append];rfl
  repeat' (first
   |(refine ⟨?_,?_⟩;focus ((repeat' (first|refine ⟨?_,?_⟩|refine .inr ?_));all_goals kernel_rfl))
   |(refine G9 jO0 kp_ rfl so_ fr_ sg_ lo_ ?_;intro v' h' id' jO jK jAg jAb jF;obtain ⟨cO,rfl⟩:=jO.val;simp only [go_sem, *])
   | (first|refine wp rfl ?_|refine spt rfl ?_|refine spf rfl ?_|(refine spl (fun hc=>?_) fun hc=>?_)<;>(try rw [beq_iff_eq] at hc)<;>try simp only [hc]|refine cp hc ?_|refine u7 ?_)<;>try simp only [go_sem, *])
  refine ⟨?_,_,rfl,jO.ak5 (F4.box (F4.refl _) sg_)⟩;exact g9.new (jAg ag_) (c6 _ _)
 intro σ ga0 l9 hgn jS ⟨jA,v1,jb,jO1⟩;obtain ⟨jT,jB⟩:=jS;simp only [go_sem] at jT jB;obtain ⟨hgf,m6,n9,o0⟩:=rnd hgn l9 jA;clear hgn;rw [List.take_length] at jO1;obtain ⟨c1,rfl⟩:=jO1.val;clear jO1;refine wq_ ?_;refine ar_ [1,2,4,7,8,9,38] [⟨gen,0,0⟩,⟨gen,0,1⟩,⟨gen,0,2⟩] (fun i σ=>g9 h σ.h∧∃ v,σ.h ⟨gen,1,5⟩=some (.box [.int .i64 t.kind,.int .i64 t.type.kind,.sl .any (t.type.args.map Ty.cells),.sl c1 ((t.r8.map fun x=>F0 s at' x d).map Tm.cells),v])∧T7 h σ.h v 5 (((t.args.take i).map fun x=>O1 s at' x a2).map Fm.cells)) (t.args).length ?_ ?_ ?_
 ·simp only [go_sem, *]
  first|exact ⟨_,rfl,.inl rfl⟩|exact ⟨ag_,_,rfl,.inl rfl⟩
 ·clear hv0
  intro i σ gr1 M8 hgn hlt jI jN jS ⟨jA,v,jb',jO0⟩;obtain ⟨jT,jB⟩:=jS;simp only [go_sem] at jT jB;have hgf:=c8 hgn;have m6:=fun r i=>s7 jA (hgf r i);have G2:=s8 (show gen<gr1 by omega);have G8:=o9 (show gen<gr1 by omega);have K8:=s8 (show ga0<gr1 by omega);have K5:=o9 (show ga0<gr1 by omega);obtain ⟨x,hx,hxm,hm⟩:=rnx hlt;clear hgn;have hc:=ih' x hxm;have hts:((t.args.take (i+1)).map fun x=>O1 s at' x a2).map Fm.cells=((t.args.take i).map fun x=>O1 s at' x a2).map Fm.cells++[(O1 s at' x a2).cells]:=by rw [B4 hx,List.map_append];rfl
  clear ih'
  repeat' (first
   |(refine ⟨?_,?_⟩;focus ((repeat' (first|refine ⟨?_,?_⟩|refine .inr ?_));all_goals kernel_rfl))
   |(refine G9 jO0 kp_ rfl so_ fr_ sg_ lo_ ?_;intro v' h' id' jO jK jAg jAb jF;obtain ⟨cO,rfl⟩:=jO.val;simp only [go_sem, *])
   | (first|refine wp rfl ?_|refine spt rfl ?_|refine spf rfl ?_|(refine spl (fun hc=>?_) fun hc=>?_)<;>(try rw [beq_iff_eq] at hc)<;>try simp only [hc]|refine cp hc ?_|refine cp hB ?_|refine u7 ?_)<;>try simp only [go_sem, *])
  refine ⟨?_,_,rfl,jO.ak5 (F4.box (F4.refl _) sg_)⟩;exact g9.new (jAg ag_) (c6 _ _)
 ·
  intro σ ga1 M7 hgn jS ⟨jA,v,jb',jO0⟩;obtain ⟨jT,jB⟩:=jS;simp only [go_sem] at jT jB;have hgf:=c8 hgn;have m6:=fun r i=>s7 jA (hgf r i);have G3:=s8 (show gen<ga1 by omega);have G4:=o9 (show gen<ga1 by omega);have K6:=s8 (show ga0<ga1 by omega);have K3:=o9 (show ga0<ga1 by omega);clear hgn;rw [List.take_length] at jO0;obtain ⟨c,rfl⟩:=jO0.val;clear ih';rw [Fm.p9] at hv0;subst hv0;exact wk_
theorem bN5 (f:Fm) (hf:FmW f) (a:Int) (s:Tm) (hs:TmW s):Pure Tryz.prog env 54 [.agg f.cells,.int .i64 a,.agg s.cells] (Y5 (bT7 f a s)):=by
 intro h;have h1:=V7 f hf;have h2:=am0 s hs;have h3:=cc6 536870912 f hf;have h4:=aO8 536870912 s hs;have h5:=aD1 f hf;have h6:=bX3 f hf a;have h7:=aC9 s hs;have h8:=cR2 s hs a f hf 0;have h9:=aj5 _ (cE3 hs (a:=a) f 0 hf);have hz:O3.cells=[.int .i64 0,.int .i64 0,.sl .any [],.sl .any [],.sl .any []]:=by simp [O3,Fm.p9,Ty.J5,Ty.J4]
 unfold bT7 Y5;cases k1:(P5 f != 0) with
 | true =>
  simp only [if_true,hz];clear h2 h3 h4 h5 h6 h7 h8 h9;exact ek_ Tryz.func54 [.cell 6 45,.tmp 7]
 | false =>
 simp only [Bool.false_eq_true,if_false];cases k2:decide (a<0) with
 | true =>
  simp only [Bool.true_or,if_true,hz];clear h2 h3 h4 h5 h6 h7 h8 h9;exact ek_ Tryz.func54 [.cell 6 45,.tmp 7]
 | false =>
 cases k3:decide (a>4096) with
 | true =>
  simp only [Bool.or_true,if_true,hz];clear h2 h3 h4 h5 h6 h7 h8 h9;exact ek_ Tryz.func54 [.cell 6 45,.tmp 7]
 | false =>
 simp only [Bool.or_false,Bool.false_eq_true,if_false];cases k4:(Z2 s != 0) with
 | true =>
  simp only [if_true,hz];clear h3 h4 h5 h6 h7 h8 h9;exact ek_ Tryz.func54 [.cell 6 45,.tmp 7]
 | false =>
 simp only [Bool.false_eq_true,if_false];cases k5:f.least 536870912 with
 | false =>
  rw [k5] at h3;simp only [Bool.not_false,Bool.true_or,if_true,hz];clear h4 h5 h6 h7 h8 h9;exact ek_ Tryz.func54 [.cell 6 45,.tmp 7]
 | true =>
 rw [k5] at h3;cases k6:s.least 536870912 with
 | false =>
  rw [k6] at h4;simp only [Bool.not_false,Bool.or_true,if_true,hz];clear h5 h6 h7 h8 h9;exact ek_ Tryz.func54 [.cell 6 45,.tmp 7]
 | true =>
 rw [k6] at h4;simp only [Bool.not_true,Bool.or_false,Bool.false_eq_true,if_false];have w1:IntKind.i64.wrap (s.szW - 1)=ab8 s.szW 1:=rfl;have w2:IntKind.i64.wrap (f.times a * ab8 s.szW 1)=bz2 (f.times a) (ab8 s.szW 1):=rfl;have w3:IntKind.i64.wrap (f.szW+bz2 (f.times a) (ab8 s.szW 1))=x4 f.szW (bz2 (f.times a) (ab8 s.szW 1)):=rfl;cases k7:decide (x4 f.szW (bz2 (f.times a) (ab8 s.szW 1))>4096) with
 | true =>
  simp only [if_true,hz];clear h8 h9;exact ek_ Tryz.func54 [.cell 6 45,.tmp 7]
 | false =>
  simp only [Bool.false_eq_true,if_false];exact ek_ Tryz.func54 [.cell 6 45,.tmp 7]
inductive S9 (all:Bool) (a:Fm):Nat→Nat→Nat→Ans→Prop
 | none {k l:Nat}:S9 all a 0 k l (all,l,0)
 | over {n k:Nat}:S9 all a (n+1) k 0 (false,0,5)
 | big {n k l:Nat} (hl:0<l) (hN:Pure Tryz.prog env 57 [.int .i64 k] (.tup [.agg C6.cells,.int .i64 4])):S9 all a (n+1) k l (false,0,4)
 | put {n k l:Nat} {t:Tm} {g:Fm} {e:Int} (hl:0<l) (hN:Pure Tryz.prog env 57 [.int .i64 k] (.tup [.agg t.cells,.int .i64 0]))
   (hP:Pure Tryz.prog env 54 [.agg a.cells,.int .i64 0,.agg t.cells] (.tup [.agg g.cells,.int .i64 e])) (he:(e != 0)=true):S9 all a (n+1) k l (false,0,e)
 | stop {n k l:Nat} {t:Tm} {g:Fm} {p:Ans} (hN:Pure Tryz.prog env 57 [.int .i64 k] (.tup [.agg t.cells,.int .i64 0]))
   (hP:Pure Tryz.prog env 54 [.agg a.cells,.int .i64 0,.agg t.cells] (.tup [.agg g.cells,.int .i64 0]))
   (hT:Pure Tryz.prog env 99 [.agg g.cells,.int .i64 l] (t9V p)) (hs:(p.2.2 != 0||p.1 != all)=true):S9 all a (n+1) k (l+1) p
 | step {n k l l':Nat} {t:Tm} {g:Fm} {v:Ans} (hN:Pure Tryz.prog env 57 [.int .i64 k] (.tup [.agg t.cells,.int .i64 0]))
   (hP:Pure Tryz.prog env 54 [.agg a.cells,.int .i64 0,.agg t.cells] (.tup [.agg g.cells,.int .i64 0]))
   (hT:Pure Tryz.prog env 99 [.agg g.cells,.int .i64 l] (t9V (all,l',0))) (hl:l'≤l) (hS:S9 all a n (k+1) l' v):S9 all a (n+1) k (l+1) v
theorem dd0 {R:Nat→Fm→Ans} {all:Bool} {a:Fm} (hP:∀ k:Nat,k<4096→Pure Tryz.prog env 54 [.agg a.cells,.int .i64 0,.agg (C5 k).cells] (Y5 (H3 a (C5 k))))
  (hR:∀ k l:Nat,k<4096→(H3 a (C5 k)).2=0→l≤65536→Pure Tryz.prog env 99 [.agg (H3 a (C5 k)).1.cells,.int .i64 l] (t9V (R l (H3 a (C5 k)).1))∧(R l (H3 a (C5 k)).1).2.1≤l) :
  ∀ n k l,l≤65536→S9 all a n k l (rB R all a n k l):=by
 intro n
 induction n with
 | zero=>intro k l _;exact .none
 | succ n ih =>
  intro k l hl;rw [rB];cases l with
  | zero=>rw [if_pos rfl];exact .over
  | succ l =>
   rw [if_neg om_];by_cases hk:4096≤k
   ·rw [if_pos hk]
    exact .big om_ (bn8 k hk)
   rw [if_neg hk];have h1:=hP k om_;unfold Y5 at h1;cases hz:((H3 a (C5 k)).2 != 0) with
   | true =>
    simp only [if_true];exact .put om_ (aA8 k om_) h1 hz
   | false =>
    have hz':(H3 a (C5 k)).2=0:=by simpa using hz
    simp only [Bool.false_eq_true,if_false];rw [hz'] at h1;obtain ⟨h2,h3⟩:=hR k l om_ hz' om_;rw [show l+1 - 1=l by omega];generalize R l (H3 a (C5 k)).1=p at *;cases hs:(p.2.2 != 0||p.1 != all) with
    | true=>simp only [if_true];exact .stop (aA8 k om_) h1 h2 hs
    | false =>
     simp only [Bool.false_eq_true,if_false];simp only [Bool.or_eq_false_iff,bne_eq_false_iff_eq] at hs;obtain ⟨b,l',e⟩:=p;simp only at hs h3;obtain ⟨rfl,rfl⟩:=hs;exact .step (aA8 k om_) h1 h2 h3 (ih (k+1) l' om_)
theorem S9.cons {all:Bool} {a:Fm} {n k l:Nat} {v:Ans} (h:S9 all a (n+1) k l v) :
  (l = 0∧v=(false,0,5))∨(0<l∧∃ (t:Tm) (e:Int),Pure Tryz.prog env 57 [.int .i64 k] (.tup [.agg t.cells,.int .i64 e])∧(((e != 0)=true∧v=(false,0,e))∨(e=0 ∧
   ∃ (g:Fm) (e:Int),Pure Tryz.prog env 54 [.agg a.cells,.int .i64 0,.agg t.cells] (.tup [.agg g.cells,.int .i64 e])∧(((e != 0)=true∧v=(false,0,e))∨(e=0 ∧
    ∃ p:Ans,Pure Tryz.prog env 99 [.agg g.cells,.int .i64 (l - 1:Nat)] (t9V p) ∧
     (((p.2.2 != 0)=true∧v=p)∨(p.2.2=0∧(p.1 != all)=true∧v=p)∨(p.2.2=0∧p.1=all∧p.2.1≤l∧S9 all a n (k+1) p.2.1 v))))))):=by
 cases h with
 | over=>exact .inl ⟨rfl,rfl⟩
 | big hl hN=>exact .inr ⟨hl,_,_,hN,.inl ⟨rfl,rfl⟩⟩
 | put hl hN hP he=>exact .inr ⟨hl,_,_,hN,.inr ⟨rfl,_,_,hP,.inl ⟨he,rfl⟩⟩⟩
 | @stop _ _ l t g p hN hP hT hs =>
  refine .inr ⟨om_,_,_,hN,.inr ⟨rfl,_,_,hP,.inr ⟨rfl,v,hT,?_⟩⟩⟩;cases he:(v.2.2 != 0) with
  | true=>exact .inl ⟨rfl,rfl⟩
  | false=>rw [he,Bool.false_or] at hs;exact .inr (.inl ⟨by simpa using he,hs,rfl⟩)
 | @step _ _ l l' t g _ hN hP hT hl hS=>exact .inr ⟨om_,_,_,hN,.inr ⟨rfl,_,_,hP,.inr ⟨rfl,(all,l',0),hT,.inr (.inr ⟨rfl,rfl,by simp only;omega,hS⟩)⟩⟩⟩
theorem S9.nil {all:Bool} {a:Fm} {k l:Nat} {v:Ans} (h:S9 all a 0 k l v):v=(all,l,0):=by
 cases h;rfl
theorem cj2 {all:Bool} {f a:Fm} {t:Tm} {l m l':Nat} {v:Ans} (hk:f.kind=4∨f.kind=5) (hm:m≤65536) (hl:l'≤65536)
  (hB:Pure Tryz.prog env 154 [.agg f.cells] (.tup [.bool all,.agg t.cells,.agg a.cells,.bool true]))
  (hE:Pure Tryz.prog env 153 [.agg t.cells,.int .i64 l] (.tup [.int .i64 m,.int .i64 l',.int .i64 0]))
  (hS:S9 all a m 0 l' v):Pure Tryz.prog env 99 [.agg f.cells,.int .i64 l] (t9V v):=by
 intro h;have n0:((0:Int) != 0)=false:=rfl;unfold t9V;rcases hk with hk|hk
 all_goals
  refine en_ Tryz.func99 [.tmp 4,.tmp 5,.tmp 6] fun g0 w0 gen b7 hfr c6 m0=>?_;refine wq_ ?_;clear hB hE;refine B1 (fun i σ=>σ.tm 20=.int .i64 i∧σ.tm 18=.int .i64 m∧σ.tm 14=.bool all∧σ.tm 16=.ptr ⟨gen,18,8⟩ 0∧σ.h ⟨gen,18,8⟩=some (.box a.cells)∧g9 h σ.h ∧
   ∃ L:Nat,σ.tm 1=.int .i64 L∧L≤65536∧i≤m∧S9 all a (m - i) i L v) m ?_ ?_
  ·simp only [go_sem, *]
   exact ⟨rfl,ag_,l',rfl,hl,hS⟩
  clear hS;intro i σ hi ⟨j1,j2,j3,j4,j5,jA,L,j6,j7,j8,jS⟩;refine F9 (fun gn hgl hgn=>?_);have hgf:=c8 hgn;have m6:=fun r i=>s7 jA (hgf r i);have eg1:=s8 hgl;have eg2:=o9 hgl;clear hgn;rcases Nat.lt_or_ge i m with hlt|hge
  ·have hd:=T5 hlt
   rw [show m - i=m - (i+1)+1 by omega] at jS;rcases jS.cons with ⟨rfl,rfl⟩|⟨hL,x,e,hN,hx⟩
   ·clear jS
    first|refine wq_ ?_|exact wk_
    all_goals rfl
   have hL0:((L:Int)==0)=false:=by simp;omega
   have hw1:IntKind.i64.wrap ((L:Int) - 1)=((L - 1:Nat):Int):=w8 om_ om_ om_;clear jS;rcases hx with ⟨he,rfl⟩|⟨rfl,g,e,hP,hx⟩
   ·
    first|refine wq_ ?_|exact wk_
    all_goals rfl
   rcases hx with ⟨he,rfl⟩|⟨rfl,p,hT,hx⟩
   ·
    first|refine wq_ ?_|exact wk_
    all_goals rfl
   unfold t9V at hT;obtain ⟨pb,pl,pe⟩:=p;simp only at hT hx;generalize L - 1=L1 at *;rcases hx with ⟨he,rfl⟩|⟨rfl,hb,rfl⟩|⟨rfl,rfl,hle,hS⟩
   ·
    exact wk_
   ·
    exact wk_
   ·have hw:=z7 (i:=i) om_
    have na:(pb != pb)=false:=by cases pb<;>rfl
    refine wq_ ?_
    first|exact ⟨by repeat (first|exact jA|refine g9.new ?_ (m6 _ _)|refine g9.new ?_ (c6 _ _)),pl,rfl,om_,om_,hS⟩|exact ⟨hlt,by repeat (first|exact jA|refine g9.new ?_ (m6 _ _)|refine g9.new ?_ (c6 _ _)),pl,rfl,om_,om_,hS⟩
  ·have hd:=O2 hge
   obtain rfl:i=m:=by omega
   rw [Nat.sub_self] at jS;obtain rfl:=jS.nil;clear jS;exact wk_
end Go.Proofs.YteaijonkbbkkjaaGreatDoor
