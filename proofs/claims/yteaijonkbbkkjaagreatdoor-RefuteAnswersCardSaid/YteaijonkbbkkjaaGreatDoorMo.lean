/-
 Walks: several parts in one text.
-/
import Derived.Test.YteaijonkbbkkjaaGreatDoorMa
import Derived.Test.YteaijonkbbkkjaaGreatDoorAbsDe
import Derived.Test.YteaijonkbbkkjaaGreatDoorAbsC
import Derived.Test.YteaijonkbbkkjaaGreatDoorGq
import Derived.Test.YteaijonkbbkkjaaGreatDoorNy
set_option linter.unusedSimpArgs false
set_option linter.unusedVariables false
set_option maxRecDepth 20000
set_option maxHeartbeats 4000000
namespace Go.Proofs.YteaijonkbbkkjaaGreatDoor
open Go GoAbs Go.Proofs
attribute [go_sem] bb7 bm6 bw1 Option.map_none List.drop_zero Nat.zero_le Nat.le_refl bk9 decide_true decide_false
def EvT (d:GoAbs.Id) (most u u':Nat) (o:Bool) (t:Tm) (e:List Res) (r:Res):Prop :=
 D1 Tryz.prog env 227 [.ptr d 0,.agg t.cells,.sl .any (e.map Res.cells)] d (.box (mc u most false)) (.agg r.cells) (.box (mc u' most o))
def EvC (d:GoAbs.Id) (most:Nat) (E:Evl):Prop:=∀ (c u:Nat) (t:Tm) (e:List Res) (r:Res) (u':Nat) (o:Bool),E u t e=some (r,u',o)→c≤u→u≤most→TmW t→e.length≤u - c→(∀ x∈e,F5 (u - c) x) →
 EvT d most u u' o t e r
theorem cy4 {d:GoAbs.Id} {most u u':Nat} {o:Bool} {f a r:Res} (hl:f.env.length≤100000) (hE:EvT d most u u' o f.body (f.env++[a]) r) :
  D1 Tryz.prog env 228 [.ptr d 0,.agg f.cells,.agg a.cells] d (.box (mc u most false)) (.agg r.cells) (.box (mc u' most o)):=by
 intro h hd;unfold EvT at hE;rw [List.map_append] at hE;simp only [List.map_cons,List.map_nil] at hE;have b1:(f.env.length+1) * 152≤140737488355328:=by omega
 have b2:f.env.length+1≤140737488355328:=by omega
 clear hl;refine en_ Tryz.func228 [.cell 6 227] fun g0 w0 gen b7 hfr c6 m0=>?_;have f1:=c7 hfr hd;have f2:=l4 hfr hd;exact I0
theorem as3 {d:GoAbs.Id} {most:Nat} {E:Evl} (hC:EvC d most E) (hm:most≤65536) {c u u':Nat} {o:Bool} {f a r:Res} (h:I7 E u f a=some (r,u',o)) (hc:c+1≤u) (hu:u≤most)
  (hf:F5 (u - c - 1) f) (ha:F5 (u - c - 1) a) :
  D1 Tryz.prog env 228 [.ptr d 0,.agg f.cells,.agg a.cells] d (.box (mc u most false)) (.agg r.cells) (.box (mc u' most o)):=by
 refine cy4 (by have:=hf.el;omega) (hC c u _ _ _ _ _ h om_ hu hf.bd (by have:=hf.el;simp;omega) fun x hx=>?_);rcases List.mem_append.1 hx with hx|hx
 ·exact (hf.es x hx).up om_
 ·simp at hx;subst hx;exact ha.up om_
theorem cV0 {d:GoAbs.Id} {most:Nat} {t:Tm} {e:List Res}:EvT d most most most true t e an1:=by
 intro h hd;rw [aP8];have k0:((most:Int)==(most:Int))=true:=by simp
 refine en_ Tryz.func227 [.cell 6 227] fun g0 w0 gen b7 hfr c6 m0=>?_;have f1:=c7 hfr hd;have f2:=l4 hfr hd;exact I0
theorem cV1 {d:GoAbs.Id} {most u:Nat} {t:Tm} {e:List Res} {x:Res} (hne:u≠most) (hu:u≤65536) (hel:e.length≤65536) (hk:t.kind=1) (h0:0≤(e.length:Int) - 1 - t.index)
  (hx:e[((e.length:Int) - 1 - t.index).toNat]? = some x):EvT d most u (u+1) false t e x:=by
 intro h hd;have k0:((u:Int)==(most:Int))=false:=by simp;omega
 have w0:=z7 (i:=u) om_;have hlt:=(List.getElem?_eq_some_iff.1 hx).1;have w1:IntKind.i64.wrap ((e.length:Int) - 1)=(e.length:Int) - 1:=w8 rfl om_ om_;have w2:IntKind.i64.wrap ((e.length:Int) - 1 - t.index)=(e.length:Int) - 1 - t.index:=w8 rfl om_ om_;clear hlt hel hu hne;refine en_ Tryz.func227 [.cell 6 227] fun g0 w0 gen b7 hfr c6 m0=>?_;have f1:=c7 hfr hd;have f2:=l4 hfr hd;exact I0
theorem cQ2 {d:GoAbs.Id} {most u:Nat} {t b:Tm} {e:List Res} (hne:u≠most) (hu:u≤65536) (hk:t.kind=2) (hb:t.args=[b]):EvT d most u (u+1) false t e (aT8 b e):=by
 intro h hd;have k0:((u:Int)==(most:Int))=false:=by simp;omega
 have w0:=z7 (i:=u) om_;have hc:=bK7 b e;have hbc:=Tm.m8 b;clear hu hne;refine en_ Tryz.func227 [.cell 6 227] fun g0 w0 gen b7 hfr c6 m0=>?_;have f1:=c7 hfr hd;have f2:=l4 hfr hd;exact I0
theorem cD7 {d:GoAbs.Id} {most:Nat} {E:Evl} (hC:EvC d most E) (hW:EvW most E) (hm:most≤65536) {c u u':Nat} {t:Tm} {e:List Res} {r:Res} {o:Bool}
  (h0:aK6 E e t.kind (u+1) [] t.args=some (r,u',o)) (hne:u≠most) (hc:c≤u) (hu:u≤most) (ht:TmW t) (hel:e.length≤u - c) (he:∀ x∈e,F5 (u - c) x)
  (k1:(t.kind==1)=false) (k2:(t.kind==2)=false):EvT d most u u' o t e r:=by
 intro h hd;have k0:((u:Int)==(most:Int))=false:=by simp;omega
 have w0:=z7 (i:=u) om_;have hlen:=ht.len;have hz:=aP8;refine en_ Tryz.func227 [.cell 6 227] fun g0 w0 gen b7 hfr c6 m0=>?_;have f1:=c7 hfr hd;have f2:=l4 hfr hd;refine wq_ ?_;refine ar_ [0,2,4,6,64] [⟨gen,0,0⟩,⟨gen,0,1⟩] (fun i σ=>a9 d h σ.h∧∃ (ui:Nat) (li:List Res),σ.h d=some (.box (mc ui most false))∧T7 h σ.h (σ.tm 7) 9 (li.map Res.cells)∧u+1≤ui∧ui≤most∧(li≠[]→u+2≤ui)∧li.length=i∧(∀ x∈li,F5 (ui - c - 2) x)∧aK6 E e t.kind ui li (t.args.drop i)=some (r,u',o)) (t.args).length ?_ ?_ ?_
 ·simp only [go_sem, *]
  exact ⟨by repeat (first|exact a9.refl _ _|assumption|refine a9.new ?_ (c6 _ _)|refine a9.set ?_),u+1,[],rfl,.inl rfl,om_,om_,sp_,rfl,sp_,h0⟩
 ·clear h0
  intro i σ gr0 l6 hgn hlt jI jN jS ⟨jA,ui,li,js,jo,ju1,ju2,ju3,jl,jw,jk⟩;obtain ⟨jT,jB⟩:=jS;simp only [go_sem] at jT jB;have hgf:=c8 hgn;have m6:=l7 hd jA hgf (fun r i e=>by have:=hfr d (by rw [hd];simp);rw [e] at this;simp at this;omega);have az5:=u6 hfr hd (show gen<gr0 by omega);have az2:=B3 hfr hd (show gen<gr0 by omega);have n7:=s8 (show gen<gr0 by omega);have n8:=o9 (show gen<gr0 by omega);obtain ⟨x,hx,hxm,hm⟩:=rnx hlt;clear hgn;rw [A2 hx,bM0] at jk;cases hr:E ui x e with
  | none=>rw [hr] at jk;cases jk
  | some p =>
  obtain ⟨y,u1,o1⟩:=p;have hw1:=hW (c+1) ui x e y u1 o1 hr om_ ju2 (ht.arg hxm) om_ (fun z hz=>(he z hz).up om_);have hT:=hC (c+1) ui x e y u1 o1 hr om_ ju2 (ht.arg hxm) om_ (fun z hz=>(he z hz).up om_);unfold EvT at hT;rw [hr] at jk;clear hC hW ht hr he;have hmm:List.map Res.cells (li++[y])=List.map Res.cells li++[y.cells]:=by simp
  cases o1 with
  | true =>
   simp only [Option.some.injEq,Prod.mk.injEq] at jk;obtain ⟨rfl,rfl,rfl⟩:=jk;clear jw ju1 ju3 hw1
   repeat' (first
    |(refine ⟨?_,?_⟩;focus ((repeat' (first|refine ⟨?_,?_⟩|refine .inr ?_));all_goals kernel_rfl))
    |exact agb as_
    |(refine U6 jo kp_ rfl so_ fr_ sg_ (by intro hd;cases hd) ?_;intro v' h' log' jO jK jAg jAb jF;simp only [go_sem, *])
    | (first|refine wp rfl ?_|refine spt rfl ?_|refine spf rfl ?_|(refine spl (fun hc=>?_) fun hc=>?_)<;>(try rw [beq_iff_eq] at hc)<;>try simp only [hc]|(refine gs (fun hb=>?_) fun hb=>?_)<;>try simp only [Bool.not_true,Bool.not_false] at hb|(refine ct (hT) ?_ ?_;focus ((simp only [go_sem, *]<;>rfl);done))|refine Z4 b7 hd ?_ ?_ ?_ ?_ ?_)<;>try simp only [go_sem, *])
   all_goals exact agb (jAb d (a9.set (a9.new jA (m6 _ _))))
  | false =>
   obtain ⟨a1,a2,a3⟩:=hw1;obtain ⟨a3,a4⟩:=a3 rfl;simp only at jk
   repeat' (first
    |(refine ⟨?_,?_⟩;focus ((repeat' (first|refine ⟨?_,?_⟩|refine .inr ?_));all_goals kernel_rfl))
    |(refine U6 jo kp_ rfl so_ fr_ sg_ (by intro hd;cases hd) ?_;intro v' h' log' jO jK jAg jAb jF;simp only [go_sem, *])
    | (first|refine wp rfl ?_|refine spt rfl ?_|refine spf rfl ?_|(refine spl (fun hc=>?_) fun hc=>?_)<;>(try rw [beq_iff_eq] at hc)<;>try simp only [hc]|(refine gs (fun hb=>?_) fun hb=>?_)<;>try simp only [Bool.not_true,Bool.not_false] at hb|(refine ct (hT) ?_ ?_;focus ((simp only [go_sem, *]<;>rfl);done))|refine u7 ?_)<;>try simp only [go_sem, *])
   exact ⟨jAb d (a9.set (a9.new jA (m6 _ _))),u1,li++[y],rfl,by rw [hmm];exact jO,om_,om_,fun _=>by omega,by simp [jl],fun z hz=>by
    rcases List.mem_append.1 hz with hz|hz
    ·exact (jw z hz).up om_
    ·simp at hz;subst hz;exact a4.up om_,jk⟩
 ·clear h0
  intro σ ga0 l9 hgn jS ⟨jA,ui,li,js,jo,ju1,ju2,ju3,jl,jw,jk⟩;obtain ⟨jT,jB⟩:=jS;simp only [go_sem] at jT jB;have hgf:=c8 hgn;have m6:=l7 hd jA hgf (fun r i e=>by have:=hfr d (by rw [hd];simp);rw [e] at this;simp at this;omega);have aA6:=u6 hfr hd (show gen<ga0 by omega);have ay9:=B3 hfr hd (show gen<ga0 by omega);have n9:=s8 (show gen<ga0 by omega);have o0:=o9 (show gen<ga0 by omega);clear hgn;rw [List.drop_length,ca8] at jk;obtain ⟨cc,jo⟩:=jo.val;have two:∀ {x y:Res},li=[x,y]→c+1≤ui - 1:=fun e=>by have:=ju3 (by rw [e];simp);omega
  by_cases q3:t.kind=3
  ·
   rw [q3] at jk;obtain ⟨f,a,rfl,hk⟩:=cO9 jk;have:=ju3 sp_;have hT:=as3 hC hm (c:=c) hk om_ ju2 ((jw f sp_).up om_) ((jw a sp_).up om_);simp only [List.map_cons,List.map_nil] at jo;clear jk jw hC hW hk he ju3 two;exact I0
  by_cases q5:t.kind=5
  ·
   rw [q5] at jk;obtain ⟨a,rfl,hk⟩:=cQ0 jk;have hb:=(jw a sp_).n1;simp only [Prod.mk.injEq] at hk;obtain ⟨rfl,rfl,rfl⟩:=hk;have hc:=aw4 (a.num+1);have w1:=z7 (i:=a.num) om_;simp only [List.map_cons,List.map_nil] at jo;clear jk jw hC hW he ju3 two hb;exact I0
  by_cases q6:t.kind=6
  ·
   rw [q6] at jk;obtain ⟨z,s,n,rfl,hk⟩:=cN4 jk;have hu3:=ju3 sp_;have zw:=jw z sp_;have sw:=jw s sp_;have nw:=(jw n sp_).n1;simp only [List.map_cons,List.map_nil] at jo;clear jk jw he ju3 two hz;have hga:=m6;refine wq_ ?_;refine B1 (fun i σ2=>σ2.tm 11=.int .i64 i∧σ2.tm 0=.ptr d 0∧σ2.tm 6=.ptr ⟨gen,0,1⟩ 0∧σ2.tm 7=.sl cc [z.cells,s.cells,n.cells]∧σ2.tm 10=.ptr ⟨ga0,23,3⟩ 0 ∧
    σ2.h ⟨gen,0,1⟩=some (.box [.int .i64 0,.sl .full [],.sl .full [],.int .i64 0,.int .i64 0,.int .i64 0,.sl .full [],.sl .full [],.sl .full []])∧a9 d h σ2.h∧i≤n.num ∧
    ∃ (uj:Nat) (rj:Res) (oj:Bool),σ2.h d=some (.box (mc uj most oj))∧σ2.h ⟨ga0,23,3⟩=some (.box rj.cells)∧(oj=true→r=rj∧u'=uj∧o=true) ∧
     (oj=false→ui≤uj∧uj≤most∧F5 (uj - c - 1) rj∧ad7 E s (n.num - i) i uj rj=some (r,u',o))) n.num ?_ ?_
   ·simp only [go_sem, *]
    exact ⟨by rfl,a9.new jA (hga _ _),ui,z,false,rfl,rfl,(fun e=>by cases e),fun _=>⟨om_,ju2,zw.up om_,hk⟩⟩
   clear hk zw jA js jo jT jB hgf m6;intro i σ2 hi ⟨j1,j2,j3,j4,j5,j6,jA,j7,uj,rj,oj,j8,j9,j10,j11⟩;refine F9 (fun gn hgl hgn=>?_);have hgf:=c8 hgn;have m6:=l7 hd jA hgf (fun r i e=>by have:=hfr d (by rw [hd];simp);rw [e] at this;simp at this;omega);have eg1:=s8 hgl;have eg2:=o9 hgl;have eg3:=s8 (show gen<gn by omega);have eg4:=o9 (show gen<gn by omega);have fd:=u6 hfr hd (show gen<gn by omega);have fe:=B3 hfr hd (show gen<gn by omega);clear hgn;cases oj with
   | true =>
    obtain ⟨rfl,rfl,rfl⟩:=j10 rfl;clear j10 j11 hC hW;cases hlt:decide ((i:Int)<(n.num:Int)) with
    | true =>
     exact I0
    | false =>
     exact I0
   | false =>
   obtain ⟨c1,c2,c3,jr⟩:=j11 rfl;clear j10 j11;rcases Nat.lt_or_ge i n.num with hlt|hge
   ·have aO0:=T5 hlt
    have hsu:=z7 (i:=i) om_;have hf:n.num - i=(n.num - (i+1))+1:=by omega
    rw [hf,ad7] at jr;have hnc:=aw4 i;cases h1:I7 E uj s (am7 i) with
    | none=>rw [h1] at jr;cases jr
    | some p =>
    obtain ⟨f,u1,o1⟩:=p;obtain ⟨a1,a2,a3⟩:=X9 (c:=c) hW h1 om_ c2 (sw.up om_) (F5.num om_);have hT1:=as3 hC hm (c:=c) h1 om_ c2 (sw.up om_) (F5.num om_);rw [hnc] at hT1;rw [h1] at jr;clear h1 hnc;cases o1 with
    | true =>
     simp only [Option.some.injEq,Prod.mk.injEq] at jr;obtain ⟨rfl,rfl,rfl⟩:=jr;clear hC hW;refine wq_ ?_;exact ⟨by repeat (first|exact jA|refine a9.new ?_ (m6 _ _)|refine a9.set ?_),om_,_,_,true,rfl,rfl,(fun _=>by simp),fun e=>by cases e⟩
    | false =>
     obtain ⟨a3,a4⟩:=a3 rfl;simp only at jr;cases h2:I7 E u1 f rj with
     | none=>rw [h2] at jr;cases jr
     | some q =>
     obtain ⟨r1,u2,o2⟩:=q;obtain ⟨b1,b2,b3⟩:=X9 (c:=c) hW h2 om_ a2 a4 (c3.up om_);have hT2:=as3 hC hm (c:=c) h2 om_ a2 a4 (c3.up om_);rw [h2] at jr;clear h2;cases o2 with
     | true =>
      simp only [Option.some.injEq,Prod.mk.injEq] at jr;obtain ⟨rfl,rfl,rfl⟩:=jr;clear hC hW;refine wq_ ?_;exact ⟨by repeat (first|exact jA|refine a9.new ?_ (m6 _ _)|refine a9.new ?_ (hga _ _)|refine a9.set ?_),om_,_,_,true,rfl,rfl,(fun _=>by simp),fun e=>by cases e⟩
     | false =>
      obtain ⟨b3,b4⟩:=b3 rfl;simp only at jr;clear hC hW;refine wq_ ?_;exact ⟨by repeat (first|exact jA|refine a9.new ?_ (m6 _ _)|refine a9.new ?_ (hga _ _)|refine a9.set ?_),om_,_,_,false,rfl,rfl,(fun e=>by cases e),fun _=>⟨om_,b2,b4,jr⟩⟩
   ·have aO0:=O2 hge
    rw [show n.num - i=0 by omega,ad7] at jr;simp only [Option.some.injEq,Prod.mk.injEq] at jr;obtain ⟨rfl,rfl,rfl⟩:=jr;clear hC hW;exact I0
  by_cases q8:t.kind=8
  ·
   rw [q8] at jk;obtain ⟨a,b,rfl,hk⟩:=cO3 jk;have hb:=(jw b sp_).ll;simp only [Prod.mk.injEq] at hk;obtain ⟨rfl,rfl,rfl⟩:=hk;have hc:=aP0 (a.num::b.list);rw [bU8] at hc;have b1:(1+b.list.length) * 8≤140737488355328:=by omega
   have b2:1+b.list.length≤140737488355328:=by omega
   simp only [List.map_cons,List.map_nil] at jo;clear jk jw hC hW he ju3 two hb;exact I0
  by_cases q9:t.kind=9
  ·
   rw [q9] at jk;obtain ⟨z,s,n,rfl,hk⟩:=cP7 jk;have hu3:=ju3 sp_;have zw:=jw z sp_;have sw:=jw s sp_;have nw:=(jw n sp_).ll;have nl:=(jw n sp_).ls;simp only [List.map_cons,List.map_nil] at jo;clear jk jw he ju3 two hz;have hga:=m6;have hw0:IntKind.i64.wrap ((n.list.length:Int) - 1)=(n.list.length:Int) - 1:=w8 rfl om_ om_;refine wq_ ?_;refine B1 (fun i σ2=>σ2.tm 14=.int .i64 ((n.list.length:Int) - 1 - (i:Int))∧σ2.tm 0=.ptr d 0∧σ2.tm 6=.ptr ⟨gen,0,1⟩ 0∧σ2.tm 7=.sl cc [z.cells,s.cells,n.cells]∧σ2.tm 13=.ptr ⟨ga0,34,3⟩ 0 ∧
    σ2.h ⟨gen,0,1⟩=some (.box [.int .i64 0,.sl .full [],.sl .full [],.int .i64 0,.int .i64 0,.int .i64 0,.sl .full [],.sl .full [],.sl .full []])∧a9 d h σ2.h∧i≤n.list.length ∧
    ∃ (uj:Nat) (rj:Res) (oj:Bool),σ2.h d=some (.box (mc uj most oj))∧σ2.h ⟨ga0,34,3⟩=some (.box rj.cells)∧(oj=true→r=rj∧u'=uj∧o=true) ∧
     (oj=false→ui≤uj∧uj≤most∧F5 (uj - c - 1) rj∧V4 E s n.list (n.list.length - i) uj rj=some (r,u',o))) n.list.length ?_ ?_
   ·simp only [go_sem, *]
    exact ⟨sp_,a9.new jA (hga _ _),ui,z,false,rfl,rfl,(fun e=>by cases e),fun _=>⟨om_,ju2,zw.up om_,hk⟩⟩
   clear hk zw jA js jo jT jB hgf m6 hw0;intro i σ2 hi ⟨j1,j2,j3,j4,j5,j6,jA,j7,uj,rj,oj,j8,j9,j10,j11⟩;refine F9 (fun gn hgl hgn=>?_);have hgf:=c8 hgn;have m6:=l7 hd jA hgf (fun r i e=>by have:=hfr d (by rw [hd];simp);rw [e] at this;simp at this;omega);have eg1:=s8 hgl;have eg2:=o9 hgl;have eg3:=s8 (show gen<gn by omega);have eg4:=o9 (show gen<gn by omega);have fd:=u6 hfr hd (show gen<gn by omega);have fe:=B3 hfr hd (show gen<gn by omega);clear hgn;cases oj with
   | true =>
    obtain ⟨rfl,rfl,rfl⟩:=j10 rfl;clear j10 j11 hC hW;cases hlt:decide (((n.list.length:Int) - 1 - (i:Int))≥0) with
    | true =>
     exact I0
    | false =>
     exact I0
   | false =>
   obtain ⟨c1,c2,c3,jr⟩:=j11 rfl;clear j10 j11;rcases Nat.lt_or_ge i n.list.length with hlt|hge
   ·obtain ⟨j,hj⟩:∃ j,n.list.length - 1 - i=j:=⟨_,rfl⟩
    have e0:(n.list.length:Int) - 1 - (i:Int)=(j:Int):=by omega
    rw [e0] at j1;have hd1:decide ((j:Int)≥0)=true:=by simp
    have hsu:=z7 (i:=j) om_;have hsd:IntKind.i64.wrap ((j:Int) - 1)=(n.list.length:Int) - 1 - ((i+1:Nat):Int):=w8 om_ om_ om_;have hf:n.list.length - i=j+1:=by omega
    have hf2:n.list.length - (i+1)=j:=by omega
    have hjl:j<n.list.length:=by omega
    have hj1:j+1≤n.list.length:=by omega
    have I8:=cp0 hjl;have hx0:n.list.getD j 0≤ui - c - 2:=nl _ (by rw [List.getD_eq_getElem?_getD,List.getElem?_eq_getElem hjl];exact List.getElem_mem _);have hne:(j+1=0)=False:=by simp
    rw [hf,V4] at jr;have hnc:=aw4 (n.list.getD j 0);have hlc:=aP0 (n.list.drop (j+1));have lw:F5 (ui - c - 1) (ag4 (n.list.drop (j+1))):=F5.list (fun x hx=>by have:=nl x (List.mem_of_mem_drop hx);omega) (by simp;omega);clear e0 hj hjl;cases h1:I7 E uj s (am7 (n.list.getD j 0)) with
    | none=>rw [h1] at jr;cases jr
    | some p =>
    obtain ⟨f,u1,o1⟩:=p;obtain ⟨a1,a2,a3⟩:=X9 (c:=c) hW h1 om_ c2 (sw.up om_) (F5.num om_);have hT1:=as3 hC hm (c:=c) h1 om_ c2 (sw.up om_) (F5.num om_);rw [hnc] at hT1;rw [h1] at jr;clear h1 hnc;cases o1 with
    | true =>
     simp only [Option.some.injEq,Prod.mk.injEq] at jr;obtain ⟨rfl,rfl,rfl⟩:=jr;clear hC hW hlc;refine wq_ ?_;exact ⟨by repeat (first|exact jA|refine a9.new ?_ (m6 _ _)|refine a9.new ?_ (hga _ _)|refine a9.set ?_),om_,_,_,true,rfl,rfl,(fun _=>by simp),fun e=>by cases e⟩
    | false =>
     obtain ⟨a3,a4⟩:=a3 rfl;simp only at jr;cases h2:I7 E u1 f (ag4 (n.list.drop (j+1))) with
     | none=>rw [h2] at jr;cases jr
     | some q =>
     obtain ⟨f1,u2,o2⟩:=q;obtain ⟨b1,b2,b3⟩:=X9 (c:=c) hW h2 om_ a2 a4 (lw.up om_);have hT2:=as3 hC hm (c:=c) h2 om_ a2 a4 (lw.up om_);rw [hlc] at hT2;rw [h2] at jr;clear h2 hlc;cases o2 with
     | true =>
      simp only [Option.some.injEq,Prod.mk.injEq] at jr;obtain ⟨rfl,rfl,rfl⟩:=jr;clear hC hW;refine wq_ ?_;exact ⟨by repeat (first|exact jA|refine a9.new ?_ (m6 _ _)|refine a9.new ?_ (hga _ _)|refine a9.set ?_),om_,_,_,true,rfl,rfl,(fun _=>by simp),fun e=>by cases e⟩
     | false =>
      obtain ⟨b3,b4⟩:=b3 rfl;simp only at jr;cases h3:I7 E u2 f1 rj with
      | none=>rw [h3] at jr;cases jr
      | some q =>
      obtain ⟨r1,u3,o3⟩:=q;obtain ⟨d1,d2,d3⟩:=X9 (c:=c) hW h3 om_ b2 b4 (c3.up om_);have hT3:=as3 hC hm (c:=c) h3 om_ b2 b4 (c3.up om_);rw [h3] at jr;clear h3;cases o3 with
      | true =>
       simp only [Option.some.injEq,Prod.mk.injEq] at jr;obtain ⟨rfl,rfl,rfl⟩:=jr;clear hC hW;refine wq_ ?_;exact ⟨by repeat (first|exact jA|refine a9.new ?_ (m6 _ _)|refine a9.new ?_ (hga _ _)|refine a9.set ?_),om_,_,_,true,rfl,rfl,(fun _=>by simp),fun e=>by cases e⟩
      | false =>
       obtain ⟨d3,d4⟩:=d3 rfl;simp only at jr;clear hC hW;refine wq_ ?_;exact ⟨by repeat (first|exact jA|refine a9.new ?_ (m6 _ _)|refine a9.new ?_ (hga _ _)|refine a9.set ?_),om_,_,_,false,rfl,rfl,(fun e=>by cases e),fun _=>⟨om_,d2,d4,jr⟩⟩
   ·have aO0:decide (((n.list.length:Int) - 1 - (i:Int))≥0)=false:=by simp;omega
    rw [show n.list.length - i=0 by omega,V4] at jr;simp only [Option.some.injEq,Prod.mk.injEq] at jr;obtain ⟨rfl,rfl,rfl⟩:=jr;clear hC hW;exact I0
  by_cases q10:t.kind=10
  ·
   rw [q10] at jk;have hk:=cz6 jk;simp only [Prod.mk.injEq] at hk;obtain ⟨rfl,rfl,rfl⟩:=hk;have hc:=bu9 li;clear jk jw hC hW he ju3 two;exact I0
  by_cases q11:t.kind=11
  ·
   rw [q11] at jk;obtain ⟨a,x,y,rfl,hp,hk⟩:=cI6 jk;simp only [Prod.mk.injEq] at hk;obtain ⟨rfl,rfl,rfl⟩:=hk;simp only [List.map_cons,List.map_nil] at jo;clear jk jw hC hW he ju3 two;exact I0
  by_cases q12:t.kind=12
  ·
   rw [q12] at jk;obtain ⟨a,x,y,rfl,hp,hk⟩:=cA8 jk;simp only [Prod.mk.injEq] at hk;obtain ⟨rfl,rfl,rfl⟩:=hk;simp only [List.map_cons,List.map_nil] at jo;clear jk jw hC hW he ju3 two;exact I0
  have e3:(t.kind==3)=false:=by simpa using q3
  have e5:(t.kind==5)=false:=by simpa using q5
  have e6:(t.kind==6)=false:=by simpa using q6
  have e8:(t.kind==8)=false:=by simpa using q8
  have e9:(t.kind==9)=false:=by simpa using q9
  have e10:(t.kind==10)=false:=by simpa using q10
  have e11:(t.kind==11)=false:=by simpa using q11
  have e12:(t.kind==12)=false:=by simpa using q12
  have hk:=cS6 jk e3 e5 e6 e8 e9 e10 e11 e12;simp only [Prod.mk.injEq] at hk;obtain ⟨rfl,rfl,rfl⟩:=hk;clear jk jw hC hW he ju3 two q3 q5 q6 q8 q9 q10 q11 q12;exact I0
theorem bZ0 (t:Tm) (s:Ty) (hT:w7 TyG [] t s) (hG:TmG t) (hz:m7 t≤4096) (hw:TmW t) :
  Pure Tryz.prog env 225 [.sl .any [],.agg t.cells] (.tup [.agg s.cells,.int .i64 0]):=by
 have h2:Pure Tryz.prog env 211 [.sl .any [],.agg t.cells] (.tup [.agg s.cells,.int .i64 0]):=by
  intro h;have h1:=am0 t hw;rw [hG.aj7 hz] at h1;have h2:=bP5 hT sp_ hw (by simp;omega);have n0:((0:Int) != 0)=false:=rfl;simp only [List.map_nil] at h2;clear hT hG hz hw;exact ek_ Tryz.func211 [.cell 4 27,.tmp 5]
 intro h;have h1:Pure Tryz.prog env 151 [.sl .any []] (.int .i64 0):=by
  intro h;have d1:decide (((0:Nat):Int)>16)=false:=rfl;refine en_ Tryz.func151 [.tmp 2] fun g0 w0 gen b7 hfr c6 m0=>?_;refine wq_ ?_;refine ar_ [9] [] (fun i σ=>g9 h σ.h∧True) (([]:List Ty)).length ?_ ?_ ?_
  ·simp only [go_sem, *]
   first|exact ag_|exact ⟨ag_,trivial⟩
  ·
   intro i σ gr0 l6 hgn hlt jI jN jS ⟨jA,_⟩;obtain ⟨jT,jB⟩:=jS;simp only [go_sem] at jT jB;obtain ⟨hgf,m6,n7,n8⟩:=rnd hgn l6 jA;obtain ⟨x,hx,hxm,hm⟩:=rnx hlt;clear hgn;simp at hlt
  ·
   intro σ ga0 l9 hgn jS ⟨jA,_⟩;obtain ⟨jT,jB⟩:=jS;simp only [go_sem] at jT jB;obtain ⟨hgf,m6,n9,o0⟩:=rnd hgn l9 jA;clear hgn;exact wk_
 have n0:((0:Int) != 0)=false:=rfl;clear hT hG hz hw;exact ek_ Tryz.func225 [.cell 4 27,.tmp 5]
theorem dd2 {d:GoAbs.Id} {most:Nat} (hm:most≤65536):∀ f,EvC d most (ev most f)
 | 0=>fun c u t e r u' o h=>by simp [ev] at h
 | f + 1=>by
  intro c u t e r u' o h hc hu ht hel he;rw [aC4] at h;by_cases hne:u=most
  ·unfold ab7 at h
   rw [if_pos hne] at h;simp only [Option.some.injEq,Prod.mk.injEq] at h;obtain ⟨rfl,rfl,rfl⟩:=h;subst hne;exact cV0
  cases k1:(t.kind==1) with
  | true =>
   unfold ab7 at h;rw [if_neg hne,if_pos k1] at h;by_cases h0:0≤(e.length:Int) - 1 - t.index
   ·rw [if_pos h0] at h
    cases hx:e[((e.length:Int) - 1 - t.index).toNat]? with
    | none=>rw [hx] at h;cases h
    | some x =>
     rw [hx] at h;simp only [Option.map_some,Option.some.injEq,Prod.mk.injEq] at h;obtain ⟨rfl,rfl,rfl⟩:=h;exact cV1 hne om_ om_ (by simpa using k1) h0 hx
   ·rw [if_neg h0] at h;cases h
  | false =>
  cases k2:(t.kind==2) with
  | true =>
   unfold ab7 at h;rw [if_neg hne,k1,if_neg sp_,if_pos k2] at h;split at h
   ·rename_i b hb
    simp only [Option.some.injEq,Prod.mk.injEq] at h;obtain ⟨rfl,rfl,rfl⟩:=h;exact cQ2 hne om_ (by simpa using k2) hb
   ·cases h
  | false =>
  rw [br4 hne k1 k2] at h;exact cD7 (dd2 hm f) (cI8 om_ f) hm h hne hc hu ht hel he k1 k2
theorem cb4:Pure Tryz.prog env 226 [.agg r5.cells] (.tup [.bool true,.int .i64 0]):=by
 have h1:=ag2 r5 K4;rw [TyG.nat.err] at h1;have hc:r5.cells=[.int .i64 1,.sl .any []]:=by simp [r5,Ty.p9]
 have h2:Pure Tryz.prog env 238 [.agg r5.cells] (.int .i64 0):=by
  rw [hc];intro h;exact ek_ Tryz.func238 [.tmp 2]
 rw [hc] at h1 h2 ⊢;have n0:((0:Int) != 0)=false:=rfl;intro h;exact ek_ Tryz.func226 [.tmp 2,.tmp 3]
def by8 (n:Nat):List V:=[.int .i64 1,.int .i64 n,.sl .any [],.sl .any []]
@[go_sem] theorem dg7 {S:GoAbs.Id→Prop} (n:Nat):InL S (by8 n)=True:=by simp [by8,InL,InV,aq0,Z6]
theorem bB4 (r:Res):Pure Tryz.prog env 230 [.agg r.cells,.agg r5.cells] (.agg (by8 r.num)):=by
 have hc:r5.cells=[.int .i64 1,.sl .any []]:=by simp [r5,Ty.p9]
 rw [hc];unfold by8;intro h;exact ek_ Tryz.func230 [.cell 4 36]
def aR7 (r:Res) (u:Nat) (o:Bool):V :=
 if o then .tup [.agg [.int .i64 0,.int .i64 0,.sl .any [],.sl .any []],.int .i64 0,.int .i64 5] else .tup [.agg (by8 r.num),.int .i64 u,.int .i64 0]
theorem cA6 {w:Nat} (hw:w≤65536) {t:Tm} {r:Res} {u:Nat} {o:Bool} (hT:w7 TyG [] t r5) (hG:TmG t) (hz:m7 t≤4096) (ht:TmW t) (h0:ev w (w+1) 0 t []=some (r,u,o)) :
  Pure Tryz.prog env 212 [.agg t.cells,.sl .any [],.int .i64 w] (aR7 r u o):=by
 have h1:=bZ0 t r5 hT hG hz ht;have h2:=cb4;have h3:=bB4 r;have hE:∀ d,D1 Tryz.prog env 227 [.ptr d 0,.agg t.cells,.sl .any []] d (.box (mc 0 w false)) (.agg r.cells) (.box (mc u w o)) :=
  fun d=>dd2 (d:=d) hw _ 0 0 t [] r u o h0 om_ om_ ht sp_ sp_
 have hc:r5.cells=[.int .i64 1,.sl .any []]:=by simp [r5,Ty.p9]
 have n0:((0:Int) != 0)=false:=rfl;have d1:decide ((w:Int)<0)=false:=by simp
 have d2:decide ((w:Int)>65536)=false:=by simp;omega
 clear hT hG hz ht h0 hw;rw [hc] at h1 h2 h3;clear hc;intro h;cases o with
 | true =>
  unfold aR7;simp only [if_true];clear h3;refine en_ Tryz.func212 [.cell 6 36,.tmp 7,.tmp 8] fun g0 w0 gen b7 hfr c6 m0=>?_;refine wq_ ?_;refine ar_ [1,2,3,6,9,30] [⟨gen,0,0⟩,⟨gen,0,1⟩] (fun i σ=>g9 h σ.h∧σ.h ⟨gen,1,5⟩=some (.box [.int .i64 1,.sl .any []])) (([]:List Ty)).length ?_ ?_ ?_
  ·simp only [go_sem, *]
   first|exact ag_|exact ⟨ag_,trivial⟩
  ·
   intro i σ gr0 l6 hgn hlt jI jN jS ⟨jA,_⟩;obtain ⟨jT,jB⟩:=jS;simp only [go_sem] at jT jB;obtain ⟨hgf,m6,n7,n8⟩:=rnd hgn l6 jA;obtain ⟨x,hx,hxm,hm⟩:=rnx hlt;clear hgn;simp at hlt
  ·
   intro σ ga0 l9 hgn jS ⟨jA,jt⟩;obtain ⟨jT,jB⟩:=jS;simp only [go_sem] at jT jB;obtain ⟨hgf,m6,n9,o0⟩:=rnd hgn l9 jA;clear hgn
   repeat' (first
    |(refine ⟨?_,?_⟩;focus ((repeat' (first|refine ⟨?_,?_⟩|refine .inr ?_));all_goals kernel_rfl))
    |exact hin _|exact agf as_
    | (first|refine wp rfl ?_|refine spt rfl ?_|refine spf rfl ?_|(refine spl (fun hc=>?_) fun hc=>?_)<;>(try rw [beq_iff_eq] at hc)<;>try simp only [hc]|(refine gs (fun hb=>?_) fun hb=>?_)<;>try simp only [Bool.not_true,Bool.not_false] at hb|refine cp h2 ?_|(refine ct (hE _) ?_ ?_;focus ((simp only [go_sem, *]<;>rfl);done))|refine A9 b7 ?_ ?_ ?_)<;>try simp only [go_sem, *])
   refine ar_ [6,7,8,9,17,18,84] [⟨gen,0,1⟩,⟨gen,1,5⟩] (fun i σ=>g9 h σ.h∧σ.h ⟨ga0,19,2⟩=some (.box (mc u w true))∧σ.h ⟨ga0,20,3⟩=some (.box r.cells)) (([]:List Ty)).length ?_ ?_ ?_
   ·simp only [go_sem, *]
    first|exact ag_|exact ⟨ag_,trivial⟩
   ·
    intro i σ gr1 M8 hgn hlt jI jN jS ⟨jA,_⟩;obtain ⟨jT,jB⟩:=jS;simp only [go_sem] at jT jB;have hgf:=c8 hgn;have m6:=fun r i=>s7 jA (hgf r i);have G2:=s8 (show gen<gr1 by omega);have G8:=o9 (show gen<gr1 by omega);have K8:=s8 (show ga0<gr1 by omega);have K5:=o9 (show ga0<gr1 by omega);obtain ⟨x,hx,hxm,hm⟩:=rnx hlt;clear hgn;simp at hlt
   ·
    intro σ ga1 M7 hgn jS ⟨jA,js,jr⟩;obtain ⟨jT,jB⟩:=jS;simp only [go_sem] at jT jB;have hgf:=c8 hgn;have m6:=fun r i=>s7 jA (hgf r i);have G3:=s8 (show gen<ga1 by omega);have G4:=o9 (show gen<ga1 by omega);have K6:=s8 (show ga0<ga1 by omega);have K3:=o9 (show ga0<ga1 by omega);clear hgn;exact wk_
 | false =>
  unfold aR7 by8 at *;simp only [Bool.false_eq_true,if_false];refine en_ Tryz.func212 [.cell 6 36,.tmp 7,.tmp 8] fun g0 w0 gen b7 hfr c6 m0=>?_;refine wq_ ?_;refine ar_ [1,2,3,6,9,30] [⟨gen,0,0⟩,⟨gen,0,1⟩] (fun i σ=>g9 h σ.h∧σ.h ⟨gen,1,5⟩=some (.box [.int .i64 1,.sl .any []])) (([]:List Ty)).length ?_ ?_ ?_
  ·simp only [go_sem, *]
   first|exact ag_|exact ⟨ag_,trivial⟩
  ·
   intro i σ gr0 l6 hgn hlt jI jN jS ⟨jA,_⟩;obtain ⟨jT,jB⟩:=jS;simp only [go_sem] at jT jB;obtain ⟨hgf,m6,n7,n8⟩:=rnd hgn l6 jA;obtain ⟨x,hx,hxm,hm⟩:=rnx hlt;clear hgn;simp at hlt
  ·
   intro σ ga0 l9 hgn jS ⟨jA,jt⟩;obtain ⟨jT,jB⟩:=jS;simp only [go_sem] at jT jB;obtain ⟨hgf,m6,n9,o0⟩:=rnd hgn l9 jA;clear hgn
   repeat' (first
    |(refine ⟨?_,?_⟩;focus ((repeat' (first|refine ⟨?_,?_⟩|refine .inr ?_));all_goals kernel_rfl))
    |exact hin _|exact agf as_
    | (first|refine wp rfl ?_|refine spt rfl ?_|refine spf rfl ?_|(refine spl (fun hc=>?_) fun hc=>?_)<;>(try rw [beq_iff_eq] at hc)<;>try simp only [hc]|(refine gs (fun hb=>?_) fun hb=>?_)<;>try simp only [Bool.not_true,Bool.not_false] at hb|refine cp h2 ?_|(refine ct (hE _) ?_ ?_;focus ((simp only [go_sem, *]<;>rfl);done))|refine A9 b7 ?_ ?_ ?_)<;>try simp only [go_sem, *])
   refine ar_ [6,7,8,9,17,18,84] [⟨gen,0,1⟩,⟨gen,1,5⟩] (fun i σ=>g9 h σ.h∧σ.h ⟨ga0,19,2⟩=some (.box (mc u w false))∧σ.h ⟨ga0,20,3⟩=some (.box r.cells)) (([]:List Ty)).length ?_ ?_ ?_
   ·simp only [go_sem, *]
    first|exact ag_|exact ⟨ag_,trivial⟩
   ·
    intro i σ gr1 M8 hgn hlt jI jN jS ⟨jA,_⟩;obtain ⟨jT,jB⟩:=jS;simp only [go_sem] at jT jB;have hgf:=c8 hgn;have m6:=fun r i=>s7 jA (hgf r i);have G2:=s8 (show gen<gr1 by omega);have G8:=o9 (show gen<gr1 by omega);have K8:=s8 (show ga0<gr1 by omega);have K5:=o9 (show ga0<gr1 by omega);obtain ⟨x,hx,hxm,hm⟩:=rnx hlt;clear hgn;simp at hlt
   ·
    intro σ ga1 M7 hgn jS ⟨jA,js,jr⟩;obtain ⟨jT,jB⟩:=jS;simp only [go_sem] at jT jB;have hgf:=c8 hgn;have m6:=fun r i=>s7 jA (hgf r i);have G3:=s8 (show gen<ga1 by omega);have G4:=o9 (show gen<ga1 by omega);have K6:=s8 (show ga0<ga1 by omega);have K3:=o9 (show ga0<ga1 by omega);clear hgn;exact wk_
theorem cD5 {w:Nat} (hw:w≤65536) {t:Tm} {r:Res} {u:Nat} {o:Bool} (hT:w7 TyG [] t r5) (hG:TmG t) (hz:m7 t≤4096) (ht:TmW t) (h0:ev w (w+1) 0 t []=some (r,u,o)) :
  Pure Tryz.prog env 193 [.agg t.cells,.int .i64 w] (aR7 r u o):=by
 have h1:=cA6 hw hT hG hz ht h0;clear hT hG hz ht h0 hw;intro h;cases o with
 | true =>
  unfold aR7 at *;simp only [if_true] at *;exact ek_ Tryz.func193 [.cell 4 36,.tmp 5,.tmp 6]
 | false =>
  unfold aR7 by8 at *;simp only [Bool.false_eq_true,if_false] at *;exact ek_ Tryz.func193 [.cell 4 36,.tmp 5,.tmp 6]
end Go.Proofs.YteaijonkbbkkjaaGreatDoor
