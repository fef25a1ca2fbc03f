/-
 Walks: several parts in one text.
-/
import Derived.Test.YteaijonkbbkkjaaGreatDoorNx
import Derived.Test.YteaijonkbbkkjaaGreatDoorAbsD
import Derived.Test.YteaijonkbbkkjaaGreatDoorMb
import Derived.Test.YteaijonkbbkkjaaGreatDoorMa
set_option linter.unusedSimpArgs false
set_option linter.unusedVariables false
set_option maxRecDepth 20000
set_option maxHeartbeats 4000000
namespace Go.Proofs.YteaijonkbbkkjaaGreatDoor
open Go GoAbs Go.Proofs
theorem cP8 (t:Tm) (ht:TmW t) (b:Int):Pure Tryz.prog env 142 [.agg t.cells,.int .i64 b] (.agg t.cells):=by
 intro h;refine en_ Tryz.func142 [.cell 4 65] fun g0 w0 gen b7 hfr c6 m0=>?_
 repeat' (first
  |exact hin _|exact agf as_
  | (first|refine wp rfl ?_|refine cp (dd6 _ ht) ?_|refine A9 b7 ?_ ?_ ?_)<;>try simp only [go_sem, *])
theorem bn4:∀ f:Fm,FmW f→∀ b:Int,Pure Tryz.prog env 141 [.agg f.cells,.int .i64 b,.fn (.func 142) [] []] (.agg f.cells):=by
 intro t
 induction t using Fm.ind with|h t ih=>?_
 intro ht b h;have hlen:=ht.len;have aF5:=ht.aE3;have ih':∀ x∈t.args,∀ b:Int,Pure Tryz.prog env 141 [.agg x.cells,.int .i64 b,.fn (.func 142) [] []] (.agg x.cells):=fun x hx=>ih x hx (ht.arg hx);have ht':∀ x∈t.r8,∀ b:Int,Pure Tryz.prog env 142 [.agg x.cells,.int .i64 b] (.agg x.cells):=fun x hx b=>cP8 x (ht.term hx) b;have hO:=ah8 t.type ht.ty;have hQ:=al1 t.kind;clear ih ht;refine en_ Tryz.func141 [.cell 6 45] fun g0 w0 gen b7 hfr c6 m0=>?_;refine wq_ ?_;refine ar_ [1,2,3,6,7,19] [⟨gen,0,0⟩,⟨gen,0,1⟩] (fun i σ=>g9 h σ.h∧∃ v,σ.h ⟨gen,1,6⟩=some (.box [.int .i64 t.kind,.int .i64 t.type.kind,.sl .any (t.type.args.map Ty.cells),v,.sl .full []])∧T7 h σ.h v 5 ((t.r8.take i).map Tm.cells)) (t.r8).length ?_ ?_ ?_
 ·simp only [go_sem, *]
  exact ⟨ag_,_,rfl,.inl rfl⟩
 ·clear ih'
  intro i σ gr0 l6 hgn hlt jI jN jS ⟨jA,v,jb,jO0⟩;obtain ⟨jT,jB⟩:=jS;simp only [go_sem] at jT jB;obtain ⟨hgf,m6,n7,n8⟩:=rnd hgn l6 jA;obtain ⟨x,hx,hxm,hm⟩:=rnx hlt;clear hgn;have hc:=ht' x hxm b;have hts:(t.r8.take (i+1)).map Tm.cells=(t.r8.take i).map Tm.cells++[x.cells]:=by rw [B4 hx]
  clear ht'
  repeat' (first
   |(refine ⟨?_,?_⟩;focus ((repeat' (first|refine ⟨?_,?_⟩|refine .inr ?_));all_goals kernel_rfl))
   |(refine G9 jO0 kp_ rfl so_ fr_ sg_ lo_ ?_;intro v' h' id' jO jK jAg jAb jF;obtain ⟨cO,rfl⟩:=jO.val;simp only [go_sem, *])
   | (first|refine wp rfl ?_|refine spt rfl ?_|refine spf rfl ?_|(refine spl (fun hc=>?_) fun hc=>?_)<;>(try rw [beq_iff_eq] at hc)<;>try simp only [hc]|refine cp hc ?_|refine u7 ?_)<;>try simp only [go_sem, *])
  refine ⟨?_,_,rfl,jO.ak5 (F4.box (F4.refl _) sg_)⟩;exact g9.new (jAg ag_) (c6 _ _)
 clear ht';intro σ ga0 l9 hgn jS ⟨jA,v1,jb,jO1⟩;obtain ⟨jT,jB⟩:=jS;simp only [go_sem] at jT jB;obtain ⟨hgf,m6,n9,o0⟩:=rnd hgn l9 jA;clear hgn;rw [List.take_length] at jO1;obtain ⟨c1,rfl⟩:=jO1.val;clear jO1;cases hq:(decide (t.kind≥4)&&decide (t.kind≤7))
 all_goals
  rw [hq] at hQ;clear hq;refine wq_ ?_;refine ar_ [1,2,6,7,41] [⟨gen,0,1⟩] (fun i σ=>g9 h σ.h∧∃ v,σ.h ⟨gen,1,6⟩=some (.box [.int .i64 t.kind,.int .i64 t.type.kind,.sl .any (t.type.args.map Ty.cells),.sl c1 (t.r8.map Tm.cells),v])∧T7 h σ.h v 5 ((t.args.take i).map Fm.cells)) (t.args).length ?_ ?_ ?_
  ·simp only [go_sem, *]
   first|exact ⟨_,rfl,.inl rfl⟩|exact ⟨ag_,_,rfl,.inl rfl⟩
  ·
   intro i σ gr1 M8 hgn hlt jI jN jS ⟨jA,v,jb',jO0⟩;obtain ⟨jT,jB⟩:=jS;simp only [go_sem] at jT jB;have hgf:=c8 hgn;have m6:=fun r i=>s7 jA (hgf r i);have G2:=s8 (show gen<gr1 by omega);have G8:=o9 (show gen<gr1 by omega);have K8:=s8 (show ga0<gr1 by omega);have K5:=o9 (show ga0<gr1 by omega);obtain ⟨x,hx,hxm,hm⟩:=rnx hlt;clear hgn;have hc:=fun b=>ih' x hxm b;have hts:(t.args.take (i+1)).map Fm.cells=(t.args.take i).map Fm.cells++[x.cells]:=by rw [B4 hx]
   clear ih'
   repeat' (first
    |(refine ⟨?_,?_⟩;focus ((repeat' (first|refine ⟨?_,?_⟩|refine .inr ?_));all_goals kernel_rfl))
    |(refine G9 jO0 kp_ rfl so_ fr_ sg_ lo_ ?_;intro v' h' id' jO jK jAg jAb jF;obtain ⟨cO,rfl⟩:=jO.val;simp only [go_sem, *])
    | (first|refine wp rfl ?_|refine spt rfl ?_|refine spf rfl ?_|(refine spl (fun hc=>?_) fun hc=>?_)<;>(try rw [beq_iff_eq] at hc)<;>try simp only [hc]|refine cp (hc _) ?_|refine u7 ?_)<;>try simp only [go_sem, *])
   refine ⟨?_,_,rfl,jO.ak5 (F4.box (F4.refl _) sg_)⟩;exact g9.new (jAg ag_) (c6 _ _)
  ·
   intro σ ga1 M7 hgn jS ⟨jA,v,jb',jO0⟩;obtain ⟨jT,jB⟩:=jS;simp only [go_sem] at jT jB;have hgf:=c8 hgn;have m6:=fun r i=>s7 jA (hgf r i);have G3:=s8 (show gen<ga1 by omega);have G4:=o9 (show gen<ga1 by omega);have K6:=s8 (show ga0<ga1 by omega);have K3:=o9 (show ga0<ga1 by omega);clear hgn;rw [List.take_length] at jO0;obtain ⟨c,rfl⟩:=jO0.val;clear ih';refine wq_ ?_;rw [Fm.m8]
theorem av3 (f:Fm) (hf:FmW f):Pure Tryz.prog env 87 [.agg f.cells] (.agg f.cells):=by
 intro h;have zq0:=bn4 f hf 0;exact ek_ Tryz.func87 [.cell 2 45]
theorem cG0 {α:Type} (enc:α→V) (F:Int→Int→α→α) (kd:Nat) (cap:List V) (V0:C7 cap=cap) (cH8:∀ s (S:GoAbs.Id→Prop),InV S (enc s))
  (D E A d:GoAbs.Id) (oA:GoAbs.Obj) (nD:D≠d) (nE:E≠d) (nA:A≠d)
  (hdo:∀ i b s,Y4 Tryz.prog env kd (.int .i64 i::.int .i64 b::cap) [(A,oA)] d (.box [enc s]) (.tup []) (.box [enc (F i b s)])) :
  ∀ t:Tm,TmW t→∀ (b:Int) (s:α),Y4 Tryz.prog env 199 [.agg t.cells,.int .i64 b,.ptr D 0,.ptr E 0]
   [(D,.box [.fn (.func kd) [] cap]),(E,.box [.fn (.func 199) [] [.ptr D 0,.ptr E 0]]),(A,oA)] d (.box [enc s]) (.tup []) (.box [enc (t.Y7 F b s)]):=by
 intro t
 induction t using Tm.ind with|h t ih=>?_
 intro ht b s h he hd;simp only [List.mem_cons,List.not_mem_nil,or_false,forall_eq_or_imp,forall_eq] at he;obtain ⟨hD,hE,hA⟩:=he;have hlen:=ht.len;have ih':∀ x∈t.args,∀ (b:Int) (s:α),Y4 Tryz.prog env 199 [.agg x.cells,.int .i64 b,.ptr D 0,.ptr E 0]
   [(D,.box [.fn (.func kd) [] cap]),(E,.box [.fn (.func 199) [] [.ptr D 0,.ptr E 0]]),(A,oA)] d (.box [enc s]) (.tup []) (.box [enc (x.Y7 F b s)]):=fun x hx=>ih x hx (ht.arg hx)
 clear ih ht;have n1:(D=d)=False:=by simpa using nD
 have n2:(E=d)=False:=by simpa using nE
 have n3:(A=d)=False:=by simpa using nA
 clear nD nE nA;have hw:IntKind.i64.wrap (b+1)=x4 b 1:=rfl;have hv0:=(Tm.bs0 F t b s).symm;generalize t.Y7 F b s=v at hv0 ⊢;cases k1:(t.kind==1)
 all_goals
  rw [k1] at hv0;generalize hb1:(if (t.kind==2)=true then x4 b 1 else b)=b1 at hv0;cases k2:(t.kind==2)
  all_goals
   rw [k2] at hb1;simp only [if_true,Bool.false_eq_true,if_false] at hb1 hv0
   first|(obtain rfl:b1=b:=hb1.symm)|skip
   refine en_ Tryz.func199 [] fun g0 w0 gen b7 hfr c6 m0=>?_;have f1:=c7 hfr hd;have f2:=l4 hfr hd;have f3:=c7 hfr hD;have f4:=c7 hfr hE;have f5:=c7 hfr hA
   repeat' (first
    | (first|refine wp rfl ?_|refine spt rfl ?_|refine spf rfl ?_|(refine spl (fun hc=>?_) fun hc=>?_)<;>(try rw [beq_iff_eq] at hc)<;>try simp only [hc]|(refine N6 (hdo _ _ s) ?_ ?_ ?_;(focus ((simp only [go_sem, *]<;>(repeat (first|assumption|rfl|refine And.intro ?_ ?_)));done));(focus ((simp only [go_sem, *]<;>first|rfl|assumption);done))))<;>try simp only [go_sem, *])
   refine ar_ [1,3,22] [] (fun i σ=>a9 d h σ.h∧∃ s',σ.h d=some (.box [enc s'])∧Tm.ag5 F (t.args.drop i) b1 s'=v) (t.args).length ?_ ?_ ?_
   ·simp only [go_sem, *]
    exact ⟨by repeat (first|exact a9.refl _ _|assumption|refine a9.new ?_ (c6 _ _)|refine a9.set ?_),_,rfl,hv0⟩
   ·clear hv0
    intro i σ gr0 l6 hgn hlt jI jN jS ⟨jA,s',js,jv⟩;obtain ⟨jT,jB⟩:=jS;simp only [go_sem] at jT jB;have hgf:=c8 hgn;have m6:=l7 hd jA hgf (fun r i e=>by have:=hfr d (by rw [hd];simp);rw [e] at this;simp at this;omega);have az5:=u6 hfr hd (show gen<gr0 by omega);have az2:=B3 hfr hd (show gen<gr0 by omega);have n7:=s8 (show gen<gr0 by omega);have n8:=o9 (show gen<gr0 by omega);obtain ⟨x,hx,hxm,hm⟩:=rnx hlt;clear hgn;rw [A2 hx,Tm.bb2] at jv;have hc:=fun b s=>ih' x hxm b s;have hD':=(jA D (by simpa using n1) (by rw [hD];simp)).trans hD;have hE':=(jA E (by simpa using n2) (by rw [hE];simp)).trans hE;have hA':=(jA A (by simpa using n3) (by rw [hA];simp)).trans hA;have g3:=u6 hfr hD l6;have g4:=u6 hfr hE l6;have g5:=u6 hfr hA l6;clear ih' hD hE hA
    repeat' (first
     | (first|refine wp rfl ?_|refine spt rfl ?_|refine spf rfl ?_|(refine spl (fun hc=>?_) fun hc=>?_)<;>(try rw [beq_iff_eq] at hc)<;>try simp only [hc]|(refine N6 (hc _ s') ?_ ?_ ?_;(focus ((simp only [go_sem, *]<;>(repeat (first|assumption|rfl|refine And.intro ?_ ?_)));done));(focus ((simp only [go_sem, *]<;>first|rfl|assumption);done)))|refine u7 ?_)<;>try simp only [go_sem, *])
    exact ⟨by repeat (first|assumption|refine a9.new ?_ (m6 _ _)|refine a9.set ?_),_,rfl,jv⟩
   ·clear hv0
    intro σ ga0 l9 hgn jS ⟨jA,s',js,jv⟩;obtain ⟨jT,jB⟩:=jS;simp only [go_sem] at jT jB;have hgf:=c8 hgn;have m6:=l7 hd jA hgf (fun r i e=>by have:=hfr d (by rw [hd];simp);rw [e] at this;simp at this;omega);have aA6:=u6 hfr hd (show gen<ga0 by omega);have ay9:=B3 hfr hd (show gen<ga0 by omega);have n9:=s8 (show gen<ga0 by omega);have o0:=o9 (show gen<ga0 by omega);clear hgn;rw [List.drop_length,Tm.aN4] at jv;subst jv;clear ih';refine wq_ ?_;refine L4 b7 hd (by simp only [go_sem,and_self]) (by simp only [InL,cH8,and_self]) jA js ?_;simp only [go_sem, *]
theorem cr5 {α:Type} (enc:α→V) (F:Int→Int→α→α) (kd:Nat) (cap:List V) (V0:C7 cap=cap) (cH8:∀ s (S:GoAbs.Id→Prop),InV S (enc s))
  (A d:GoAbs.Id) (oA:GoAbs.Obj) (nA:A≠d)
  (hdo:∀ i b s,Y4 Tryz.prog env kd (.int .i64 i::.int .i64 b::cap) [(A,oA)] d (.box [enc s]) (.tup []) (.box [enc (F i b s)]))
  (t:Tm) (ht:TmW t) (s:α):Y4 Tryz.prog env 172 [.agg t.cells,.fn (.func kd) [] cap] [(A,oA)] d (.box [enc s]) (.tup []) (.box [enc (t.Y7 F 0 s)]):=by
 intro h he hd;simp only [List.mem_cons,List.not_mem_nil,or_false,forall_eq] at he;refine en_ Tryz.func172 [] fun g0 w0 gen b7 hfr c6 m0=>?_;have f1:=c7 hfr hd;have f2:=l4 hfr hd;have f5:=c7 hfr he;have hc:=cG0 enc F kd cap V0 cH8 ⟨gen,0,1⟩ ⟨gen,1,0⟩ A d oA (by simpa using f2 0 1) (by simpa using f2 1 0) nA hdo t ht 0 s;have n3:(A=d)=False:=by simpa using nA
 clear hdo nA;generalize t.Y7 F 0 s=v at hc ⊢
 repeat' (first
  | (first|refine wp rfl ?_|(refine N6 (hc) ?_ ?_ ?_;(focus ((simp only [go_sem, *]<;>(repeat (first|assumption|rfl|refine And.intro ?_ ?_)));done));(focus ((simp only [go_sem, *]<;>first|rfl|assumption);done))))<;>try simp only [go_sem, *])
 refine L4 b7 hd (by simp only [go_sem,and_self]) (by simp only [InL,cH8,and_self]) ?_ sg_ ?_
 ·repeat (first|exact a9.refl _ _|assumption|refine a9.new ?_ (c6 _ _)|refine a9.set ?_)
 ·simp only [go_sem, *]
theorem cj8 (a:Int) (A d:GoAbs.Id) (nA:A≠d) (i b n:Int) :
  Y4 Tryz.prog env 200 (.int .i64 i::.int .i64 b::[.ptr A 0,.ptr d 0]) [(A,.box [.int .i64 a])] d (.box [.int .i64 n]) (.tup []) (.box [.int .i64 (V8 a i b n)]):=by
 intro h he hd;simp only [List.mem_cons,List.not_mem_nil,or_false,forall_eq] at he;have n3:(A=d)=False:=by simpa using nA
 have hw:IntKind.i64.wrap (i - b)=ab8 i b:=rfl;have hw1:IntKind.i64.wrap (n+1)=x4 n 1:=rfl;unfold V8;generalize ab8 i b=q at *;generalize x4 n 1=m at *;clear nA;cases hq:(q==a)
 all_goals
  simp only [if_true,Bool.false_eq_true,if_false];refine en_ Tryz.func200 [] fun g0 w0 gen b7 hfr c6 m0=>?_;have f1:=c7 hfr hd;have f2:=l4 hfr hd;exact I0
theorem aX6 (t:Tm) (ht:TmW t) (a:Int):Pure Tryz.prog env 175 [.agg t.cells,.int .i64 a] (.int .i64 (t.count a)):=by
 intro h;unfold Tm.count;refine en_ Tryz.func175 [.tmp 4] fun g0 w0 gen b7 hfr c6 m0=>?_;have nA:(⟨gen,0,1⟩:GoAbs.Id)≠⟨gen,1,0⟩:=by simp
 have hc:=cr5 (fun n:Int=>V.int .i64 n) (V8 a) 200 [.ptr ⟨gen,0,1⟩ 0,.ptr ⟨gen,1,0⟩ 0] rfl (fun _ _=>by simp [InV]) ⟨gen,0,1⟩ ⟨gen,1,0⟩ (.box [.int .i64 a]) nA
  (fun i b n=>cj8 a _ _ nA i b n) t ht 0
 clear nA;generalize t.Y7 (V8 a) 0 0=v at hc ⊢
 repeat' (first
  |exact hin _|exact agf as_
  | (first|refine wp rfl ?_|(refine N6 (hc) ?_ ?_ ?_;(focus ((simp only [go_sem, *]<;>(repeat (first|assumption|rfl|refine And.intro ?_ ?_)));done));(focus ((simp only [go_sem, *]<;>first|rfl|assumption);done)))|refine A9 b7 ?_ ?_ ?_)<;>try simp only [go_sem, *])
theorem Q6 {f:Fm} (h:R8 f=false):aG3 f=.tup [.bool false,.agg C6.cells,.agg O3.cells,.bool false]:=by unfold aG3;rw [h];rfl
theorem Z8:C6.cells=[.int .i64 0,.int .i64 0,.int .i64 0,.sl .any [],.sl .any []]:=by simp [C6,Tm.p9,Ty.J5,Ty.J4]
theorem aj2:O3.cells=[.int .i64 0,.int .i64 0,.sl .any [],.sl .any [],.sl .any []]:=by simp [O3,Fm.p9,Ty.J5,Ty.J4]
theorem bR1 (f:Fm) (hf:FmW f) (hg:f.G5=true) (hk0:f.kind=4∨f.kind=5∨f.kind=6∨f.kind=7):Pure Tryz.prog env 140 [.agg f.cells] (aG3 f):=by
 intro h;obtain ⟨a,ha,ga⟩:=Fm.aA4 hg hk0;have wa:FmW a:=hf.arg (by rw [ha];simp);have hb4:((4:Int) != 4)=false:=rfl;have hb5:((5:Int) != 5)=false:=rfl;have hb6:((6:Int) != 5)=true:=rfl;have hb7:((7:Int) != 5)=true:=rfl;have hzt:=Z8;have hzf:=aj2;obtain hk|hk|hk:f.kind=4∨f.kind=5∨(f.kind=6∨f.kind=7):=by omega
 rotate_left 2
 ·rw [Q6 (bS2 hk)]
  have hJ:=bm9 false;simp only [Bool.false_eq_true,if_false] at hJ;rcases hk with hk|hk
  all_goals
   clear hk0 ga wa hf hg;exact ek_ Tryz.func140 [.tmp 2,.cell 3 65,.cell 4 45,.tmp 5]
 ·have hJ:=bm9 true
  simp only [if_true] at hJ;cases k1:(f.type.kind != 1) with
  | true =>
   rw [Q6 (bk7 k1)];clear hk0 ga wa hf hg;exact ek_ Tryz.func140 [.tmp 2,.cell 3 65,.cell 4 45,.tmp 5]
  | false =>
  cases k2:(a.kind != 3) with
  | true =>
   rw [Q6 (ck8 hk ha k2)];clear hk0 ga wa hf hg;exact ek_ Tryz.func140 [.tmp 2,.cell 3 65,.cell 4 45,.tmp 5]
  | false =>
  have hka:a.kind=3:=by simpa using k2
  obtain ⟨x,y,hx,gx,gy⟩:=Fm.an5 ga (.inr hka);have wx:FmW x:=wa.arg (by rw [hx];simp);cases k3:(x.kind != 1) with
  | true =>
   rw [Q6 (bS9 ha hx k3)];clear hk0 ga wa hf hg gx gy wx hka;exact ek_ Tryz.func140 [.tmp 2,.cell 3 65,.cell 4 45,.tmp 5]
  | false =>
  have hkx:x.kind=1:=by simpa using k3
  obtain ⟨u,v,hu,gu,gv⟩:=Fm.aJ5 gx hkx;have wu:TmW u:=wx.term (by rw [hu];simp);cases k4:(u.kind != 3) with
  | true =>
   rw [Q6 (bM6 ha hx hu k4)];clear hk0 ga wa hf hg gx gy wx hka hkx wu gu gv;exact ek_ Tryz.func140 [.tmp 2,.cell 3 65,.cell 4 45,.tmp 5]
  | false =>
  have hku:u.kind=3:=by simpa using k4
  obtain ⟨p,q,hq,gp,gq⟩:=Tm.aI7 gu hku;have wq:TmW q:=wu.arg (by rw [hq];simp);have hC:=aX6 q wq 0;have hL:=cl4 (u5 0) q;have hV:=aL9 0;have hS:=aE7 x wx _ (av2 (D4 0) wq);cases k5:decide (q.count 0>0) with
  | true =>
   rw [Q6 (bT9 ha hx hu hq k5)];clear hk0 ga wa hf hg gx gy wx hka hkx wu gu gv gp gq hku wq;exact ek_ Tryz.func140 [.tmp 2,.cell 3 65,.cell 4 45,.tmp 5]
  | false =>
  cases k6:Fm.same x (J3 (u5 0) q) with
  | false =>
   rw [Q6 (bR6 ha hx hu hq k6)];rw [k6] at hS;clear hk0 ga wa hf hg gx gy wx hka hkx wu gu gv gp gq hku wq k6;generalize J3 (u5 0) q=z at *;exact ek_ Tryz.func140 [.tmp 2,.cell 3 65,.cell 4 45,.tmp 5]
  | true =>
   obtain ⟨e1,e2,e3⟩:=aV0 (.inl ⟨hk,k2⟩) k1 ha hx k3 hu k4 hq k5 k6;unfold aG3;rw [e1,e2,e3];rw [k6] at hS;clear hk0 ga wa hf hg gx gy wx hka hkx wu gu gv gp gq hku wq k6 e1 e2 e3;generalize J3 (u5 0) q=z at *;exact ek_ Tryz.func140 [.tmp 2,.cell 3 65,.cell 4 45,.tmp 5]
 ·have hJ:=bm9 false
  simp only [Bool.false_eq_true,if_false] at hJ;cases k1:(f.type.kind != 1) with
  | true =>
   rw [Q6 (bk7 k1)];clear hk0 ga wa hf hg;exact ek_ Tryz.func140 [.tmp 2,.cell 3 65,.cell 4 45,.tmp 5]
  | false =>
  cases k2:(a.kind != 2) with
  | true =>
   rw [Q6 (ct9 hk ha k2)];clear hk0 ga wa hf hg;exact ek_ Tryz.func140 [.tmp 2,.cell 3 65,.cell 4 45,.tmp 5]
  | false =>
  have hka:a.kind=2:=by simpa using k2
  obtain ⟨x,y,hx,gx,gy⟩:=Fm.an5 ga (.inl hka);have wx:FmW x:=wa.arg (by rw [hx];simp);cases k3:(x.kind != 1) with
  | true =>
   rw [Q6 (bS9 ha hx k3)];clear hk0 ga wa hf hg gx gy wx hka;exact ek_ Tryz.func140 [.tmp 2,.cell 3 65,.cell 4 45,.tmp 5]
  | false =>
  have hkx:x.kind=1:=by simpa using k3
  obtain ⟨u,v,hu,gu,gv⟩:=Fm.aJ5 gx hkx;have wu:TmW u:=wx.term (by rw [hu];simp);cases k4:(u.kind != 3) with
  | true =>
   rw [Q6 (bM6 ha hx hu k4)];clear hk0 ga wa hf hg gx gy wx hka hkx wu gu gv;exact ek_ Tryz.func140 [.tmp 2,.cell 3 65,.cell 4 45,.tmp 5]
  | false =>
  have hku:u.kind=3:=by simpa using k4
  obtain ⟨p,q,hq,gp,gq⟩:=Tm.aI7 gu hku;have wq:TmW q:=wu.arg (by rw [hq];simp);have hC:=aX6 q wq 0;have hL:=cl4 (u5 0) q;have hV:=aL9 0;have hS:=aE7 x wx _ (av2 (D4 0) wq);cases k5:decide (q.count 0>0) with
  | true =>
   rw [Q6 (bT9 ha hx hu hq k5)];clear hk0 ga wa hf hg gx gy wx hka hkx wu gu gv gp gq hku wq;exact ek_ Tryz.func140 [.tmp 2,.cell 3 65,.cell 4 45,.tmp 5]
  | false =>
  cases k6:Fm.same x (J3 (u5 0) q) with
  | false =>
   rw [Q6 (bR6 ha hx hu hq k6)];rw [k6] at hS;clear hk0 ga wa hf hg gx gy wx hka hkx wu gu gv gp gq hku wq k6;generalize J3 (u5 0) q=z at *;exact ek_ Tryz.func140 [.tmp 2,.cell 3 65,.cell 4 45,.tmp 5]
  | true =>
   obtain ⟨e1,e2,e3⟩:=aV0 (.inr ⟨hk,k2⟩) k1 ha hx k3 hu k4 hq k5 k6;unfold aG3;rw [e1,e2,e3];rw [k6] at hS;clear hk0 ga wa hf hg gx gy wx hka hkx wu gu gv gp gq hku wq k6 e1 e2 e3;generalize J3 (u5 0) q=z at *;exact ek_ Tryz.func140 [.tmp 2,.cell 3 65,.cell 4 45,.tmp 5]
theorem cY7:∀ (n:Nat) (f:Fm),z6 f≤n→FmW f→f.G5=true→Pure Tryz.prog env 85 [.agg f.cells] (.int .u8 f.fl.n):=by
 intro n
 induction n with
 | zero =>
  intro f hn;have:1≤z6 f:=by (cases f;rw [z6];omega)
  omega
 | succ n ih =>
 intro f hn hf hg h;have hk:=Fm.cd8 hg;have hw2:IntKind.i64.wrap (((2:Nat):Int) - 1)=1:=rfl;have dr4:IntKind.i64.wrap ((2:Int) - 1)=1:=rfl;have hw1:IntKind.i64.wrap (((1:Nat):Int) - 1)=0:=rfl;have ds3:IntKind.i64.wrap ((1:Int) - 1)=0:=rfl;obtain hk|hk|hk:f.kind=1∨(f.kind=2∨f.kind=3)∨(f.kind=4∨f.kind=5∨f.kind=6∨f.kind=7):=by omega
 ·rw [Fm.dj5 hk,ct4]
  clear ih hf hg hn;exact ek_ Tryz.func85 [.tmp 2]
 ·obtain ⟨a,b,ha,ga,gb⟩:=Fm.an5 hg hk
  have la:=ac3 (f:=f) (x:=a) (by rw [ha];simp);have lb:=ac3 (f:=f) (x:=b) (by rw [ha];simp);have h1:=ih a om_ (hf.arg (by rw [ha];simp)) ga;have h2:=ih b om_ (hf.arg (by rw [ha];simp)) gb;rw [Fm.db4 hk ha];clear ih hf hg hn la lb ga gb;generalize a.fl=fa at *;generalize b.fl=fb at *;rcases hk with hk|hk
  all_goals
   rw [hk];have hkk:((2:Int)==2)=true:=rfl;have dr6:((3:Int)==2)=false:=rfl;exact ek_ Tryz.func85 [.tmp 2]
 ·obtain ⟨a,ha,ga⟩:=Fm.aA4 hg hk
  have la:=ac3 (f:=f) (x:=a) (by rw [ha];simp);have wa:FmW a:=hf.arg (by rw [ha];simp);have h1:=ih a om_ wa ga;have hB:=bR1 f hf hg hk;have h4:4≤f.kind:=by omega
  cases hb:R8 f with
  | false =>
   rw [Q6 hb,Z8,aj2] at hB;rw [Fm.cM0 h4 ha hb];clear ih hf hg hn la ga wa hb h4;generalize a.fl=fa at *;rcases hk with hk|hk|hk|hk
   all_goals
    rw [hk];refine en_ Tryz.func85 [.tmp 2] fun g0 w0 gen b7 hfr c6 m0=>?_
    repeat' (first
     |exact hin _|exact agf as_
     | (first|refine wp rfl ?_|refine spt rfl ?_|refine spf rfl ?_|(refine spl (fun hc=>?_) fun hc=>?_)<;>(try rw [beq_iff_eq] at hc)<;>try simp only [hc]|refine cp h1 ?_|refine cp hB ?_|refine A9 b7 ?_ ?_ ?_)<;>try simp only [go_sem, *])
    all_goals simp
  | true =>
   obtain ⟨x,y,hxy,hbb,gy⟩:=bq8 ha ga hb;have ly:=ac3 (f:=a) (x:=y) (by rw [hxy];simp);have hy:=ih y om_ (wa.arg (by rw [hxy];simp)) gy;rw [Fm.cf7 h4 ha hb hxy];unfold aG3 at hB;rw [hb,if_pos rfl,hbb] at hB;have hk':f.kind=4∨f.kind=5:=by
    rcases hk with hk|hk|hk|hk
    ·exact .inl hk
    ·exact .inr hk
    ·rw [bS2 (.inl hk)] at hb;cases hb
    ·rw [bS2 (.inr hk)] at hb;cases hb
   clear ih hf hg hn la ga wa hb h4 gy ly hk hxy hbb;generalize a.fl=fa at *;generalize y.fl=fy at *;rcases hk' with hk|hk
   all_goals
    rw [hk] at hB ⊢;refine en_ Tryz.func85 [.tmp 2] fun g0 w0 gen b7 hfr c6 m0=>?_
    repeat' (first
     |exact hin _|exact agf as_
     | (first|refine wp rfl ?_|refine spt rfl ?_|refine spf rfl ?_|(refine spl (fun hc=>?_) fun hc=>?_)<;>(try rw [beq_iff_eq] at hc)<;>try simp only [hc]|refine cp h1 ?_|refine cp hB ?_|refine cp hy ?_|refine A9 b7 ?_ ?_ ?_)<;>try simp only [go_sem, *])
    all_goals simp
theorem dd8 (f:Fm) (hf:FmW f) (k:Int) (hk:k=1∨k=2∨k=4):Pure Tryz.prog env 116 [.agg f.cells,.int .u8 k] (az1 (f.has k)):=by
 intro h;have hC:=am5 f hf;unfold az1 Fm.has;cases he:(P5 f != 0) with
 | true =>
  simp only [if_true];clear hf hk;generalize P5 f=e at *;exact ek_ Tryz.func116 [.tmp 4,.tmp 5]
 | false =>
  have h0:P5 f=0:=by simpa using he
  have hO:=cY7 _ f (Nat.le_refl _) hf (Fm.al2 he);simp only [Bool.false_eq_true,if_false];rw [h0] at hC;have n0:((0:Int) != 0)=false:=rfl;clear he h0 hf;generalize f.fl=x at *;obtain ⟨x1,x2,x3⟩:=x;rcases hk with rfl|rfl|rfl
  ·cases x1
   all_goals
    refine en_ Tryz.func116 [.tmp 4,.tmp 5] fun g0 w0 gen b7 hfr c6 m0=>?_
    first|refine wq_ ?_|exact wk_
    all_goals simp [Fl.n]
  ·cases x2
   all_goals
    refine en_ Tryz.func116 [.tmp 4,.tmp 5] fun g0 w0 gen b7 hfr c6 m0=>?_
    first|refine wq_ ?_|exact wk_
    all_goals simp [Fl.n]
  ·cases x3
   all_goals
    refine en_ Tryz.func116 [.tmp 4,.tmp 5] fun g0 w0 gen b7 hfr c6 m0=>?_
    first|refine wq_ ?_|exact wk_
    all_goals simp [Fl.n]
theorem ax8 (f:Fm) (hf:FmW f):Pure Tryz.prog env 70 [.agg f.cells] (az1 (f.has 4)):=by
 intro h;have h1:=dd8 f hf 4 (.inr (.inr rfl));generalize f.has 4=p at *;exact ek_ Tryz.func70 [.tmp 2,.tmp 3]
theorem cE4 (d:GoAbs.Id) (i b:Int) (s:Bool) (A:GoAbs.Id) (oA:GoAbs.Obj) :
  Y4 Tryz.prog env 173 (.int .i64 i::.int .i64 b::[.ptr d 0]) [(A,oA)] d (.box [.bool s]) (.tup []) (.box [.bool (aR2 i b s)]):=by
 intro h he hd;unfold aR2;clear he;cases s
 all_goals
  cases hq:decide (i≤536870912)
  all_goals
   simp only [Bool.false_and,Bool.true_and];refine en_ Tryz.func173 [] fun g0 w0 gen b7 hfr c6 m0=>?_;have f1:=c7 hfr hd;have f2:=l4 hfr hd;exact I0
theorem cf9 (t:Tm) (ht:TmW t):Pure Tryz.prog env 126 [.agg t.cells] (.bool t.cU2):=by
 intro h;unfold Tm.cU2;refine en_ Tryz.func126 [.tmp 2] fun g0 w0 gen b7 hfr c6 m0=>?_;have nA:(⟨gen,0,0⟩:GoAbs.Id)≠⟨gen,1,0⟩:=by simp
 have hc:=cr5 (fun n:Bool=>V.bool n) aR2 173 [.ptr ⟨gen,1,0⟩ 0] rfl (fun _ _=>by simp [InV]) ⟨gen,0,0⟩ ⟨gen,1,0⟩ (.box t.cells) nA
  (fun i b n=>cE4 _ i b n _ _) t ht true
 clear nA;generalize t.Y7 aR2 0 true=v at hc ⊢
 repeat' (first
  |exact hin _|exact agf as_
  | (first|refine wp rfl ?_|(refine N6 (hc) ?_ ?_ ?_;(focus ((simp only [go_sem, *]<;>(repeat (first|assumption|rfl|refine And.intro ?_ ?_)));done));(focus ((simp only [go_sem, *]<;>first|rfl|assumption);done)))|refine A9 b7 ?_ ?_ ?_)<;>try simp only [go_sem, *])
theorem bJ8 (F:Int→Int→Tm) (kd:Nat) (cap:List V) (V0:C7 cap=cap)
  (O R A B:GoAbs.Id) (oA oB:GoAbs.Obj)
  (hof:∀ i b,as6 Tryz.prog env kd (.int .i64 i::.int .i64 b::cap) [(A,oA),(B,oB)] (.agg (F i b).cells)) :
  ∀ t:Tm,TmW t→∀ b:Int,as6 Tryz.prog env 217 [.agg t.cells,.int .i64 b,.ptr O 0,.ptr R 0]
   [(O,.box [.fn (.func kd) [] cap]),(R,.box [.fn (.func 217) [] [.ptr O 0,.ptr R 0]]),(A,oA),(B,oB)] (.agg (t.rb F b).cells):=by
 intro t
 induction t using Tm.ind with|h t ih=>?_
 intro ht b h he;simp only [List.mem_cons,List.not_mem_nil,or_false,forall_eq_or_imp,forall_eq] at he;obtain ⟨hO,hR,hA,hB⟩:=he;have hlen:=ht.len;have ih':∀ x∈t.args,∀ b:Int,as6 Tryz.prog env 217 [.agg x.cells,.int .i64 b,.ptr O 0,.ptr R 0]
   [(O,.box [.fn (.func kd) [] cap]),(R,.box [.fn (.func 217) [] [.ptr O 0,.ptr R 0]]),(A,oA),(B,oB)] (.agg (x.rb F b).cells):=fun x hx=>ih x hx (ht.arg hx)
 have hT:=ah8 t.type ht.ty;clear ih ht;have hw:IntKind.i64.wrap (b+1)=x4 b 1:=rfl;have hin:∀ S,InV S (V.agg (t.rb F b).cells):=fun S=>by simp [InV,aw0]
 cases k1:(t.kind==1) with
 | true =>
  have hv:t.rb F b=F t.index b:=by rw [Tm.cJ4,k1];rfl
  rw [hv] at hin ⊢;clear ih';have hc:=hof t.index b;clear hof hT;generalize F t.index b=v at *;refine en_ Tryz.func217 [.cell 6 65] fun g0 w0 gen b7 hfr c6 m0=>?_;have f3:=c7 hfr hO;have f4:=c7 hfr hR;have f5:=c7 hfr hA;have f6:=c7 hfr hB
  repeat' (first
   |(refine ⟨?_,?_⟩;focus ((repeat' (first|refine ⟨?_,?_⟩|refine .inr ?_));all_goals kernel_rfl))
   |exact hin _|exact agf as_
   | (first|refine wp rfl ?_|refine spt rfl ?_|refine spf rfl ?_|(refine spl (fun hc=>?_) fun hc=>?_)<;>(try rw [beq_iff_eq] at hc)<;>try simp only [hc]|(refine U5 (hc) ?_ ?_;(focus ((simp only [go_sem, *]<;>(repeat (first|assumption|rfl|refine And.intro ?_ ?_)));done)))|refine A9 b7 ?_ ?_ ?_)<;>try simp only [go_sem, *])
 | false =>
  have hv0:V.agg (Tm.mk t.kind t.index t.type (t.args.map fun x=>x.rb F (if (t.kind==2)=true then x4 b 1 else b))).cells=.agg (t.rb F b).cells:=by rw [Tm.cJ4 F t b,k1];rfl
  generalize hvv:V.agg (t.rb F b).cells=v at hv0 hin ⊢;clear hvv;generalize hb1:(if (t.kind==2)=true then x4 b 1 else b)=b1 at hv0;cases k2:(t.kind==2)
  all_goals
   rw [k2] at hb1;simp only [if_true,Bool.false_eq_true,if_false] at hb1
   first|(obtain rfl:b1=b:=hb1.symm)|skip
   refine en_ Tryz.func217 [.cell 6 65] fun g0 w0 gen b7 hfr c6 m0=>?_;have f3:=c7 hfr hO;have f4:=c7 hfr hR;have f5:=c7 hfr hA;have f6:=c7 hfr hB;clear hof;refine wq_ ?_;refine ar_ [1,3,6,7,32] [⟨gen,0,1⟩] (fun i σ=>g9 h σ.h∧∃ v,σ.h ⟨gen,3,8⟩=some (.box [.int .i64 t.kind,.int .i64 t.index,.int .i64 t.type.kind,.sl .any (t.type.args.map Ty.cells),v])∧T7 h σ.h v 5 (((t.args.take i).map fun x=>x.rb F b1).map Tm.cells)) (t.args).length ?_ ?_ ?_
   ·simp only [go_sem, *]
    exact ⟨ag_,_,rfl,.inl rfl⟩
   ·clear hv0
    intro i σ gr0 l6 hgn hlt jI jN jS ⟨jA,v,jb,jO0⟩;obtain ⟨jT,jB⟩:=jS;simp only [go_sem] at jT jB;obtain ⟨hgf,m6,n7,n8⟩:=rnd hgn l6 jA;obtain ⟨x,hx,hxm,hm⟩:=rnx hlt;clear hgn;have hc:=ih' x hxm b1;have hts:((t.args.take (i+1)).map fun x=>x.rb F b1).map Tm.cells=((t.args.take i).map fun x=>x.rb F b1).map Tm.cells++[(x.rb F b1).cells]:=by rw [B4 hx,List.map_append];rfl
    have hO':=(jA O (by rw [hO];simp)).trans hO;have hR':=(jA R (by rw [hR];simp)).trans hR;have hA':=(jA A (by rw [hA];simp)).trans hA;have hB':=(jA B (by rw [hB];simp)).trans hB;have g3:=u6 hfr hO l6;have g4:=u6 hfr hR l6;have g5:=u6 hfr hA l6;have g6:=u6 hfr hB l6;clear ih' hO hR hA hB hT
    repeat' (first
     |(refine ⟨?_,?_⟩;focus ((repeat' (first|refine ⟨?_,?_⟩|refine .inr ?_));all_goals kernel_rfl))
     |(refine G9 jO0 kp_ rfl so_ fr_ sg_ lo_ ?_;intro v' h' id' jO jK jAg jAb jF;obtain ⟨cO,rfl⟩:=jO.val;simp only [go_sem, *])
     | (first|refine wp rfl ?_|refine spt rfl ?_|refine spf rfl ?_|(refine spl (fun hc=>?_) fun hc=>?_)<;>(try rw [beq_iff_eq] at hc)<;>try simp only [hc]|(refine U5 (hc) ?_ ?_;(focus ((simp only [go_sem, *]<;>(repeat (first|assumption|rfl|refine And.intro ?_ ?_)));done)))|refine u7 ?_)<;>try simp only [go_sem, *])
    refine ⟨?_,_,rfl,jO.ak5 (F4.box (F4.refl _) sg_)⟩;exact g9.new (jAg ag_) (c6 _ _)
   ·
    intro σ ga0 l9 hgn jS ⟨jA,v,jb,jO0⟩;obtain ⟨jT,jB⟩:=jS;simp only [go_sem] at jT jB;obtain ⟨hgf,m6,n9,o0⟩:=rnd hgn l9 jA;clear hgn;rw [List.take_length] at jO0;obtain ⟨c,rfl⟩:=jO0.val;clear ih' hT;rw [Tm.p9] at hv0;subst hv0;exact wk_
theorem bi2 (F:Int→Int→Tm) (kd:Nat) (cap:List V) (V0:C7 cap=cap) (A B:GoAbs.Id) (oA oB:GoAbs.Obj)
  (hof:∀ i b,as6 Tryz.prog env kd (.int .i64 i::.int .i64 b::cap) [(A,oA),(B,oB)] (.agg (F i b).cells)) (t:Tm) (ht:TmW t) :
  as6 Tryz.prog env 201 [.agg t.cells,.fn (.func kd) [] cap] [(A,oA),(B,oB)] (.agg (t.rb F 0).cells):=by
 intro h he;simp only [List.mem_cons,List.not_mem_nil,or_false,forall_eq_or_imp,forall_eq] at he;obtain ⟨hA,hB⟩:=he;refine en_ Tryz.func201 [.cell 4 65] fun g0 w0 gen b7 hfr c6 m0=>?_;have f5:=c7 hfr hA;have f6:=c7 hfr hB;have hc:=bJ8 F kd cap V0 ⟨gen,0,1⟩ ⟨gen,1,0⟩ A B oA oB hof t ht 0;clear hof;generalize t.rb F 0=v at *
 repeat' (first
  |exact hin _|exact agf as_
  | (first|refine wp rfl ?_|(refine U5 (hc) ?_ ?_;(focus ((simp only [go_sem, *]<;>(repeat (first|assumption|rfl|refine And.intro ?_ ?_)));done)))|refine A9 b7 ?_ ?_ ?_)<;>try simp only [go_sem, *])
theorem cF3 (fr by':Int) (A B:GoAbs.Id) (i b:Int):as6 Tryz.prog env 218 (.int .i64 i::.int .i64 b::[.ptr A 0,.ptr B 0])
  [(A,.box [.int .i64 fr]),(B,.box [.int .i64 by'])] (.agg (aP7 fr by' i b).cells):=by
 intro h he;simp only [List.mem_cons,List.not_mem_nil,or_false,forall_eq_or_imp,forall_eq] at he;obtain ⟨hA,hB⟩:=he;have hw:IntKind.i64.wrap (i - b)=ab8 i b:=rfl;have hw1:IntKind.i64.wrap (i+by')=x4 i by':=rfl
 unfold aP7;generalize ab8 i b=q at *;generalize x4 i by'=m at *
 cases hq:decide (q≥fr)
 all_goals
  simp only [if_true,Bool.false_eq_true,if_false];refine en_ Tryz.func218 [.cell 6 65] fun g0 w0 gen b7 hfr c6 m0=>?_;have f5:=c7 hfr hA;have f6:=c7 hfr hB
  repeat' (first
   |exact hin _|exact agf as_
   | (first|refine wp rfl ?_|refine spt rfl ?_|refine spf rfl ?_|(refine spl (fun hc=>?_) fun hc=>?_)<;>(try rw [beq_iff_eq] at hc)<;>try simp only [hc]|refine cp (aL9 _) ?_|refine A9 b7 ?_ ?_ ?_)<;>try simp only [go_sem, *])
theorem cz2 (t:Tm) (ht:TmW t) (fr by':Int):Pure Tryz.prog env 203 [.agg t.cells,.int .i64 fr,.int .i64 by'] (.agg (bs1 t fr by').cells):=by
 intro h;unfold bs1;refine en_ Tryz.func203 [.cell 6 65] fun g0 w0 gen b7 hfr c6 m0=>?_;have hc:=bi2 (aP7 fr by') 218 [.ptr ⟨gen,0,1⟩ 0,.ptr ⟨gen,0,2⟩ 0] rfl ⟨gen,0,1⟩ ⟨gen,0,2⟩ _ _ (fun i b=>cF3 fr by' _ _ i b) t ht;generalize t.rb (aP7 fr by') 0=v at *
 repeat' (first
  |exact hin _|exact agf as_
  | (first|refine wp rfl ?_|(refine U5 (hc) ?_ ?_;(focus ((simp only [go_sem, *]<;>(repeat (first|assumption|rfl|refine And.intro ?_ ?_)));done)))|refine A9 b7 ?_ ?_ ?_)<;>try simp only [go_sem, *])
theorem cN6 (a:Int) (s:Tm) (hs:TmW s) (A B:GoAbs.Id) (i b:Int):as6 Tryz.prog env 202 (.int .i64 i::.int .i64 b::[.ptr A 0,.ptr B 0])
  [(A,.box [.int .i64 a]),(B,.box s.cells)] (.agg (aE6 a s i b).cells):=by
 intro h he;simp only [List.mem_cons,List.not_mem_nil,or_false,forall_eq_or_imp,forall_eq] at he;obtain ⟨hA,hB⟩:=he;have hw:IntKind.i64.wrap (i - b)=ab8 i b:=rfl;have hw1:IntKind.i64.wrap (a+b)=x4 a b:=rfl;have hw2:IntKind.i64.wrap (i - 1)=ab8 i 1:=rfl;have hL:=cz2 s hs 0 (x4 a b);unfold aE6;clear hs;generalize bs1 s 0 (x4 a b)=v at *;generalize ab8 i b=q at *;generalize x4 a b=m at *;generalize ab8 i 1=p at *;cases hq:(q==a) with
 | true =>
  simp only [if_true];refine en_ Tryz.func202 [.cell 6 65] fun g0 w0 gen b7 hfr c6 m0=>?_;have f5:=c7 hfr hA;have f6:=c7 hfr hB;exact wk_
 | false =>
  cases hq2:decide (q>a)
  all_goals
   simp only [if_true,Bool.false_eq_true,if_false];refine en_ Tryz.func202 [.cell 6 65] fun g0 w0 gen b7 hfr c6 m0=>?_;have f5:=c7 hfr hA;have f6:=c7 hfr hB
   repeat' (first
    |exact hin _|exact agf as_
    | (first|refine wp rfl ?_|refine spt rfl ?_|refine spf rfl ?_|(refine spl (fun hc=>?_) fun hc=>?_)<;>(try rw [beq_iff_eq] at hc)<;>try simp only [hc]|refine cp (aL9 _) ?_|refine A9 b7 ?_ ?_ ?_)<;>try simp only [go_sem, *])
theorem cs5 (t:Tm) (ht:TmW t) (a:Int) (s:Tm) (hs:TmW s):Pure Tryz.prog env 177 [.agg t.cells,.int .i64 a,.agg s.cells] (.agg (Q5 t a s).cells):=by
 intro h;unfold Q5;refine en_ Tryz.func177 [.cell 6 65] fun g0 w0 gen b7 hfr c6 m0=>?_;have hc:=bi2 (aE6 a s) 202 [.ptr ⟨gen,0,1⟩ 0,.ptr ⟨gen,0,2⟩ 0] rfl ⟨gen,0,1⟩ ⟨gen,0,2⟩ _ _ (fun i b=>cN6 a s hs _ _ i b) t ht;generalize t.rb (aE6 a s) 0=v at *
 repeat' (first
  |exact hin _|exact agf as_
  | (first|refine wp rfl ?_|(refine U5 (hc) ?_ ?_;(focus ((simp only [go_sem, *]<;>(repeat (first|assumption|rfl|refine And.intro ?_ ?_)));done)))|refine A9 b7 ?_ ?_ ?_)<;>try simp only [go_sem, *])
theorem aQ0 (f:Fm) (hf:FmW f) (hg:f.G5=true) (hs:z6 f≤1000000) :
  Pure Tryz.prog env 84 [.agg f.cells] (.tup [.sl .any (f.univ.1.map Ty.cells),.agg f.univ.2.cells]):=by
 intro h;have hb:=by2 f;generalize hu0:f.univ=p at *;obtain ⟨ul,uf⟩:=p;simp only at hb ⊢;refine en_ Tryz.func84 [.tmp 2,.cell 3 45] fun g0 w0 gen b7 hfr c6 m0=>?_;refine wq_ ?_;refine B1 (fun i σ=>σ.tm 1=.ptr ⟨gen,0,0⟩ 0∧σ.tm 3=.ptr ⟨gen,0,2⟩ 0∧σ.h ⟨gen,0,2⟩=some (.box [.int .i64 0,.int .i64 0,.sl .full [],.sl .full [],.sl .full []])∧g9 h σ.h ∧
  ∃ (f':Fm) (l':List Ty),σ.h ⟨gen,0,0⟩=some (.box f'.cells)∧T7 h σ.h (σ.tm 4) 2 (l'.map Ty.cells)∧FmW f'∧f'.G5=true∧l'++f'.univ.1=ul∧f'.univ.2=uf∧l'.length=i) ul.length ?_ ?_
 ·simp only [go_sem, *]
  exact ⟨ag_,f,[],rfl,.inl rfl,hf,hg,by rw [hu0];rfl,by rw [hu0],rfl⟩
 clear hf hg hu0;intro i σ hi ⟨j1,j2,j3,j4,f',l',j5,j6,j7,j8,j9,j10,j11⟩;refine ak0 (fun gn hgn=>?_);have hgf:=c8 hgn;have m6:∀ r i,h ⟨gn,r,i⟩=none:=fun r i=>s7 j4 (hgf r i);have e1:=K9 hgn j5;have e2:=G7 hgn j5;clear hgn;cases k:(f'.kind==4) with
 | true =>
  obtain ⟨a,ha,ga⟩:=Fm.aA4 j8 (.inl (by simpa using k));have wa:FmW a:=j7.arg (by rw [ha];simp);have hO:=ah8 f'.type j7.ty;rw [Fm.aW7 k ha] at j9 j10;have hlt:i<ul.length:=by
   have:=congrArg List.length j9;simp at this;omega
  clear j7 j8;have hts:((l'++[f'.type]).map Ty.cells)=l'.map Ty.cells++[f'.type.cells]:=by simp
  repeat' (first
   |(refine ⟨?_,?_⟩;focus ((repeat' (first|refine ⟨?_,?_⟩|refine .inr ?_));all_goals kernel_rfl))
   |(refine aI2 j6 kp_ rfl so_ fr_ sg_ lo_ ?_;intro v' h' id' jO jK jAg jAb jF jI;obtain ⟨cO,rfl⟩:=jO.val;simp only [go_sem, *])
   | (first|refine wp rfl ?_|refine spt rfl ?_|refine spf rfl ?_|(refine spl (fun hc=>?_) fun hc=>?_)<;>(try rw [beq_iff_eq] at hc)<;>try simp only [hc]|refine cp hO ?_|refine u7 ?_)<;>try simp only [go_sem, *])
  exact ⟨g9.new (jAg ag_) (c6 _ _),a,l'++[f'.type],rfl,by rw [hts];exact jO.ak5 (F4.box (F4.refl _) (by rw [jK _ (by rw [j5];rfl),j5];rfl)),wa,ga,by simpa using j9,j10,by simp;omega⟩
 | false =>
  rw [Fm.aX5 k] at j9 j10;simp only [List.append_nil] at j9 j10;subst j9;subst j10;obtain ⟨c,j6⟩:=j6.val;clear j7 j8;exact wk_
theorem cO7 (f:Fm) (hf:FmW f) (hs:z6 f≤1000000):Pure Tryz.prog env 51 [.agg f.cells] (cM4 f.task):=by
 intro h;have hC:=am5 f hf;have hzf:=aj2;have hzt:I6.cells=[.int .i64 0,.sl .any []]:=by simp [I6,Ty.p9]
 unfold cM4 Fm.task;cases he:(P5 f != 0) with
 | true =>
  simp only [if_true,List.map_nil];clear hf hs;generalize P5 f=e at *;exact ek_ Tryz.func51 [.tmp 2,.cell 3 27,.cell 4 45,.tmp 5]
 | false =>
  have h0:P5 f=0:=by simpa using he
  have hg:=Fm.al2 he;have hU:=aQ0 f hf hg hs;obtain ⟨wu,gu,wt⟩:=aM4 f hf hg;rw [h0] at hC;have n0:((0:Int) != 0)=false:=rfl;simp only [Bool.false_eq_true,if_false];clear he h0 hs hg hf;generalize f.univ=p at *;obtain ⟨ul,uf⟩:=p;simp only at hU wu gu wt ⊢;cases k:(uf.kind != 5) with
  | true =>
   simp only [Bool.true_or,if_true,List.map_nil];clear wu gu wt;exact ek_ Tryz.func51 [.tmp 2,.cell 3 27,.cell 4 45,.tmp 5]
  | false =>
   obtain ⟨a,ha,ga⟩:=Fm.aA4 gu (.inr (.inl (by simpa using k)));have e0:fa uf 0=a:=bu0 (by rw [ha];rfl);have wa:FmW a:=wu.arg (by rw [ha];simp);have hO:=cY7 _ a (Nat.le_refl _) wa ga;have h1:=ah8 uf.type wu.ty;have h2:=av3 a wa;rw [e0];have hn1:((Fl.mk false false true).n==0)=false:=rfl;have hn0:((Fl.mk false false false).n==0)=true:=rfl;clear wu gu wt wa ga e0;generalize a.fl=x at *;obtain ⟨x1,x2,x3⟩:=x;cases x3
   all_goals
    simp only [Bool.false_or,Bool.not_true,Bool.not_false,Bool.false_eq_true,if_true,if_false,List.map_nil];exact ek_ Tryz.func51 [.tmp 2,.cell 3 27,.cell 4 45,.tmp 5]
end Go.Proofs.YteaijonkbbkkjaaGreatDoor
