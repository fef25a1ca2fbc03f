/-
 Walks: several parts in one text.
-/
import Derived.Test.YteaijonkbbkkjaaGreatDoorMj
import Derived.Test.YteaijonkbbkkjaaGreatDoorAbsDd
import Derived.Test.YteaijonkbbkkjaaGreatDoorMy
import Derived.Test.YteaijonkbbkkjaaGreatDoorNx
import Derived.Test.YteaijonkbbkkjaaGreatDoorMh
import Derived.Test.YteaijonkbbkkjaaGreatDoorMa
import Derived.Test.YteaijonkbbkkjaaGreatDoorNz
set_option linter.unusedSimpArgs false
set_option linter.unusedVariables false
set_option maxRecDepth 20000
set_option maxHeartbeats 4000000
namespace Go.Proofs.YteaijonkbbkkjaaGreatDoor
open Go GoAbs Go.Proofs
theorem cF1 (l:List Int) (hl:l.length≤5000):Pure Tryz.prog env 62 [.sl .any (ints l)] (.sl .any (ints l)):=by
 intro h;have hlen:(ints l).length≤5000:=by rw [ao0];exact hl
 have h1:(ints l).all (fun e=>e.length==1)=true:=by simp [ints]
 have hwL:B2 (ints l)=ints l:=N5 l;have hz:0+(ints l).length=(ints l).length:=Nat.zero_add _;have h2:(ints l).flatten.all ab6=true:=by
  unfold ints;rw [List.all_eq_true];intro v hv;obtain ⟨r,hr,hv⟩:=List.mem_flatten.1 hv;obtain ⟨n,_,rfl⟩:=List.mem_map.1 hr;simp at hv;subst hv;rfl
 have h3:(ints l).length * 8≤140737488355328:=by omega
 have h4:(ints l).length≤140737488355328:=by omega
 have h5:∀ S,Z6 S (ints l):=fun S=>by simp only [go_sem, *]
 generalize ints l=L at *;refine en_ Tryz.func62 [.tmp 2] fun g0 w0 gen b7 hfr c6 m0=>?_;refine D6 ?_;refine B6 ?_;simp only [go_sem, *];refine D6 ?_;refine D6 ?_;refine bc9 1 rfl rfl rfl rfl Tryz.underlying22 ?_;simp only [go_sem, *];refine ⟨_,_,rfl,fun b hb=>?_⟩;cases b with
 | true =>
  obtain rfl:=hb rfl;exact wk_
 | false =>
  clear hb;exact wk_
theorem cu1:∀ v:PVl,VlW v→Pure Tryz.prog env 35 [.agg v.cells] (.agg v.cells):=by
 intro v
 induction v using PVl.ind with|h t ih=>?_
 intro ht h;have hlen:=ht.len;have hll:t.list.length≤5000:=by cases ht;assumption
 have ih':∀ x∈t.args,Pure Tryz.prog env 35 [.agg x.cells] (.agg x.cells):=fun x hx=>ih x hx (ht.arg x hx);clear ih ht;have hC:=cF1 t.list hll;clear hll;rw [PVl.m8 t];have hwL:B2 (ints t.list)=ints t.list:=N5 _;have h5:∀ S,Z6 S (ints t.list):=fun S=>by simp only [go_sem, *]
 generalize ints t.list=Li at *;refine en_ Tryz.func35 [.cell 2 36] fun g0 w0 gen b7 hfr c6 m0=>?_;refine wq_ ?_;refine ar_ [1,2,13] [⟨gen,0,1⟩] (fun i σ=>g9 h σ.h∧∃ v,σ.h ⟨gen,0,0⟩=some (.box [.int .i64 t.kind,.int .i64 t.num,.sl .any Li,v])∧T7 h σ.h v 4 ((t.args.take i).map PVl.cells)) (t.args).length ?_ ?_ ?_
 ·simp only [go_sem, *]
  exact ⟨ag_,_,rfl,.inl rfl⟩
 ·
  intro i σ gr0 l6 hgn hlt jI jN jS ⟨jA,v,jb,jO0⟩;obtain ⟨jT,jB⟩:=jS;simp only [go_sem] at jT jB;obtain ⟨hgf,m6,n7,n8⟩:=rnd hgn l6 jA;obtain ⟨x,hx,hxm,hm⟩:=rnx hlt;clear hgn;have hc:=ih' x hxm;have hts:(t.args.take (i+1)).map PVl.cells=(t.args.take i).map PVl.cells++[x.cells]:=by rw [List.take_add_one,hx];simp
  clear ih' hC
  repeat' (first
   |(refine ⟨?_,?_⟩;focus ((repeat' (first|refine ⟨?_,?_⟩|refine .inr ?_));all_goals kernel_rfl))
   |(refine G9 jO0 kp_ rfl so_ fr_ sg_ lo_ ?_;intro v' h' id' jO jK jAg jAb jF;obtain ⟨cO,rfl⟩:=jO.val;simp only [go_sem, *])
   | (first|refine wp rfl ?_|refine spt rfl ?_|refine spf rfl ?_|(refine spl (fun hc=>?_) fun hc=>?_)<;>(try rw [beq_iff_eq] at hc)<;>try simp only [hc]|refine cp hc ?_|refine u7 ?_)<;>try simp only [go_sem, *])
  refine ⟨?_,_,rfl,jO.ak5 (F4.box (F4.refl _) sg_)⟩;exact g9.new (jAg ag_) (c6 _ _)
 ·
  intro σ ga0 l9 hgn jS ⟨jA,v,jb,jO0⟩;obtain ⟨jT,jB⟩:=jS;simp only [go_sem] at jT jB;obtain ⟨hgf,m6,n9,o0⟩:=rnd hgn l9 jA;clear hgn;rw [List.take_length] at jO0;obtain ⟨c,rfl⟩:=jO0.val;clear ih' hC;exact wk_
theorem bK1 {t:Ty} {bd m:Nat} {L:List PVl} {fV:V} (iV:∀ S,InV S fV) (hK:Pure Tryz.prog env 33 [.agg t.cells,.int .i64 bd,.int .i64 m] (.int .i64 0)) (hF:Pure Tryz.prog env 34 [.agg t.cells,.int .i64 bd,.int .i64 m] fV)
  (hI:Iter Tryz.prog env fV (rows L)) (hO:∀ v∈L,Pure Tryz.prog env 35 [.agg v.cells] (.agg v.cells)) (hl:L.length≤65536) :
  Pure Tryz.prog env 11 [.agg t.cells,.int .i64 bd,.int .i64 m] (.tup [.sl .any (L.map PVl.cells),.int .i64 0]):=by
 intro h;have n0:((0:Int) != 0)=false:=rfl;refine M4 Tryz.func11 rfl kr_ fun g0 w0 gen b7 hfr=>?_;have c6:∀ r i,h ⟨gen,r,i⟩=none:=c8 hfr;have m0:Tryz.f11.results.toList=[.tmp 6,.tmp 7]:=rfl;have hl0:∀ b,w0.heap.size≤b→g0.lim b=0:=b7.C4;refine ad1 ?_;simp only [ad8,X2,aa4,ai1,ah9,List.append_assoc,List.cons_append,List.nil_append,List.map_cons,List.map_nil,List.append_nil];refine ah1 (J:=fun σ=>σ.tm 9=.ptr ⟨gen,4,0⟩ 0∧σ.tm 21=fV∧g9 h σ.h∧σ.h ⟨gen,4,0⟩=some (.box [.sl .full []])∧σ.h ⟨gen,9,9⟩=none) [_,_,_,_,_,_] kr_ follows ?_ ?_
 ·simp only [List.map_cons,List.map_nil,List.cons_append,List.nil_append]
  clear hI hO
  first|refine wq_ ?_|exact wk_
  all_goals first|exact ag_|exact ⟨ag_,sg_⟩|skip
 ·rintro σ ⟨j9,j21,jA,jb,jn⟩
  clear hK hF;refine bQ5 ?_;refine cy7 ((bw9 _).x (ax2 (bd:=0))) ⟨gen,4,0⟩ ⟨gen,9,9⟩ 4 jb jn ?_;have na:∀ id,h id≠none→id≠⟨gen,4,0⟩∧id≠⟨gen,9,9⟩:=fun id hid=>⟨fun e=>hid (by rw [e];exact c6 _ _),fun e=>hid (by rw [e];exact c6 _ _)⟩;have jA':g9 h (u9 (u9 σ.h ⟨gen,9,9⟩ (.tok 0 4)) ⟨gen,4,0⟩ (.box [.sl (.own ⟨gen,9,9⟩) []])):=g9.new (g9.new jA (c6 _ _)) (c6 _ _);have hne:(⟨gen,9,9⟩:GoAbs.Id)≠⟨gen,4,0⟩:=by simp
  have jb1:(u9 (u9 σ.h ⟨gen,9,9⟩ (.tok 0 4)) ⟨gen,4,0⟩ (.box [.sl (.own ⟨gen,9,9⟩) []])) ⟨gen,4,0⟩=some (.box [.sl (.own ⟨gen,9,9⟩) []]):=B0;have jb2:(u9 (u9 σ.h ⟨gen,9,9⟩ (.tok 0 4)) ⟨gen,4,0⟩ (.box [.sl (.own ⟨gen,9,9⟩) []])) ⟨gen,9,9⟩=some (.tok 0 4):=by rw [l8 hne,B0]
  generalize u9 (u9 σ.h ⟨gen,9,9⟩ (.tok 0 4)) ⟨gen,4,0⟩ (.box [.sl (.own ⟨gen,9,9⟩) []])=H0 at *;clear jb jn jA;refine u0 ?_;refine am6 (bw9 _) (ps:=[22]) (vs:=rows L) (by intro p hp;simp at hp;subst hp;exact of_decide_eq_true kr_) (fun v hh=>by unfold rows at hh;obtain ⟨l,_,rfl⟩:=List.mem_map.1 hh;rfl)
   (fun id=>id=⟨gen,4,0⟩∨id=⟨gen,9,9⟩) (by rintro id (rfl|rfl)<;>simp [jb1,jb2])
   (fun i X hh=>X=xT∧g9 h hh∧hh ⟨gen,4,0⟩=some (.box [.sl (.own ⟨gen,9,9⟩) ((L.take i).map PVl.cells)])∧hh ⟨gen,9,9⟩=some (.tok i 4))
   (fun _ _ _=>False)
   (by rintro i X hh ⟨rfl,_⟩;exact ax2) (fun _ _ _ h=>h.elim)
   (by
    rintro i X h1 h2 e ⟨q0,q1,q2,q3⟩;exact ⟨q0,fun id hid=>(e id (by simp only;rw [jA' id hid];exact hid)).trans (q1 id hid),(e _ (by simp only;rw [jb1];simp)).trans q2,(e _ (by simp only;rw [jb2];simp)).trans q3⟩)
   (fun _ _ _ _ _ h=>h.elim) hl0 ?_ (by simp only;rw [j21];exact hI) ⟨rfl,jA',jb1,jb2⟩ rfl rfl ?_ (fun _ _ _ _ _ _ h=>h.elim)
  ·
   rintro ya yb gn i vv hi X oa ob ⟨lp,f1,f2,f3⟩ d1 d2 lo1 lo2 hXS bp9 bj8 hgn hvv ⟨rfl,jA,kb1,kb2⟩ hnn toB fin finx;obtain ⟨v,hv,rfl⟩:∃ v,L[i]? = some v∧vv=[V.agg v.cells]:=by
    unfold rows at hvv;rw [List.getElem?_map] at hvv;cases hv:L[i]? with
    | none=>rw [hv] at hvv;simp at hvv
    | some l=>rw [hv] at hvv;simp at hvv;exact ⟨l,rfl,hvv.symm⟩
   have ho:=hO v (List.mem_of_getElem? hv);have hil:i<L.length:=(List.getElem?_eq_some_iff.1 hv).1;have hlen:((L.take i).map PVl.cells).length=i:=by simp;omega
   have htk:(L.take (i+1)).map PVl.cells=(L.take i).map PVl.cells++[v.cells]:=B4 hv;refine ac8 (fun gm hgm=>?_);have hgf:∀ r i,hi ⟨gm,r,i⟩=none:=c8 hgm;have m6:=fun r i=>s7 jA (hgf r i);have hg1:gen<gm:=hgm ⟨gen,4,0⟩ (by simp [kb1]);have e1:=s8 hg1;have e2:=o9 hg1;have xa:XOk Tryz.prog (ya.at xT):=oa.x hXS;have xb:XOk Tryz.prog (yb.at xT):=ob.x hXS;have v4:v.cells.length=4:=by rw [PVl.m8];rfl
   have v1:v.cells.all ab6=true:=by rw [PVl.m8];rfl
   have he4:∀ x∈(L.take i).map PVl.cells,x.length=4:=by
    intro x hx;obtain ⟨y,_,rfl⟩:=List.mem_map.1 hx;rw [PVl.m8];rfl
   clear hgm hnn hvv finx hI hO;generalize (L.take i).map PVl.cells=es at *;simp only [ax5];refine m9 xa follows kr_ ?_;simp only [go_sem, *];refine toB _ _ gm hXS ?_;clear toB;refine u0 ?_;refine aT4 (ts:=23) (ty:=27) (tn:=26) (tv:=25) (tb:=9) (d5:=28) (d6:=29) xb follows kr_ kr_ rfl ⟨by kernel_rfl,by kernel_rfl,by kernel_rfl,by kernel_rfl,by kernel_rfl,by kernel_rfl,by kernel_rfl,by kernel_rfl,by kernel_rfl,by kernel_rfl⟩
    ⟨⟨_,rfl,rfl,rfl,rfl⟩,⟨_,rfl,rfl,rfl,rfl⟩,⟨_,rfl,rfl,rfl,rfl⟩,⟨_,rfl,rfl,rfl,rfl⟩,dk3,dj1,rfl,rfl,by decide,rfl,rfl,of_decide_eq_true kr_,of_decide_eq_true kr_,by decide,by decide⟩ ?_
   simp only [go_sem, *]
   repeat' (first
    |(refine ⟨?_,?_⟩;focus ((repeat' (first|refine ⟨?_,?_⟩|refine .inr ?_));all_goals kernel_rfl))
    | (first|refine cp ho ?_)<;>try simp only [go_sem, *])
   refine ⟨.own ⟨gen,9,9⟩,.full,es,[.int .i64 0,.int .i64 0,.sl .full [],.sl .full []],v.cells,.sl (.own ⟨gen,9,9⟩) es,⟨gen,4,0⟩,⟨gm,99,99⟩,⟨?_,?_,?_,?_,?_,?_,he4,rfl,rfl,v4,v1,?_,?_,?_,.inr ⟨_,rfl,?_⟩⟩,fun id' hid=>?_⟩
   ·simp only [go_sem, *]
   ·simp only [go_sem, *]
   ·simp only [go_sem, *]
   ·simp only [go_sem, *]
   ·simp only [go_sem, *]
   ·simp only [go_sem, *]
   ·rw [hlen];show (i+1) * 64≤_;omega
   ·omega
   ·simp only [go_sem, *]
   ·simp only [go_sem, *]
   ·have bp8:id'=⟨gen,9,9⟩:=by
     rcases hid with ⟨h1,_⟩|h1
     ·cases h1
     ·cases h1;rfl
    subst bp8;unfold bP3;refine r7 ?_;refine fin _ gm _ ⟨rfl,?_,?_,?_⟩ fun id hs q=>?_
    ·exact g9.new (g9.new (g9.new jA (m6 _ _)) (c6 _ _)) (c6 _ _)
    ·simp only [go_sem, *]
    ·simp only [go_sem, *]
    ·have m1:(id=⟨gen,4,0⟩)=False:=eq_false fun e=>hs (.inl e)
     have m2:(id=⟨gen,9,9⟩)=False:=eq_false fun e=>hs (.inr e);have m3:(id=⟨gm,6,0⟩)=False:=eq_false fun e=>q (by rw [e];exact hgf _ _);simp only [u9,m1,m2,m3,if_false]
  ·rintro D X' h' hD ok ⟨rfl,jA,kb1,kb2⟩ ab4
   rw [aa2,List.take_length] at kb1;have okD:=ok.x (ax2 (bd:=0));have hwl:=N0 L;clear hI hO
   repeat' (first
    |(refine ⟨?_,?_⟩;focus ((repeat' (first|refine ⟨?_,?_⟩|refine .inr ?_));all_goals kernel_rfl))
    |exact agf as_
    | (first|refine x9 ?_|refine m9 okD follows kr_ ?_|refine s9 ?_|refine u0 ?_|refine F3 ?_|refine z8 ?_|refine D5 ?_|refine r7 ?_|refine spt rfl ?_|refine spf rfl ?_|refine ah4 follows hl0 hD ?_|refine A9 b7 ?_ ?_ ?_)<;>try simp only [go_sem, *])
theorem bY6 (a b:List Int) (ha:a.length≤5000):Pure Tryz.prog env 38 [.sl .any (ints a),.sl .any (ints b)] (.bool (a==b)):=by
 intro h;have la:=ao0 a;have lb:=ao0 b;have hga:∀ (i:Nat) (x:Int),a[i]? = some x→(ints a)[i]? = some [.int .i64 x]:=fun i x hx=>by simp [ints,hx]
 have hgb:∀ (i:Nat) (x:Int),b[i]? = some x→(ints b)[i]? = some [.int .i64 x]:=fun i x hx=>by simp [ints,hx]
 generalize ints a=A at *;generalize ints b=B at *;cases k2:((a.length:Int)==(b.length:Int)) with
 | false =>
  have k2':((a.length:Int) != (b.length:Int))=true:=by simp only [bne,k2,Bool.not_false]
  have hv:(a==b)=false:=by
   cases e:(a==b) with
   | false=>rfl
   | true =>
    have:=eq_of_beq e;subst this;simp at k2
  clear k2 hga hgb ha;exact ek_ Tryz.func38 [.tmp 4]
 | true =>
  have k2':((a.length:Int) != (b.length:Int))=false:=by simp only [bne,k2,Bool.not_true]
  have I8:=ab9 k2;have hln:a.length≤b.length∧b.length≤a.length:=by simp at k2;omega
  clear k2;have hse:(a==b)=(a==b):=rfl;generalize hv:(a==b)=v at hse ⊢;clear hse;refine en_ Tryz.func38 [.tmp 4] fun g0 w0 gen b7 hfr c6 m0=>?_;refine wq_ ?_;refine ar_ [0,1] [] (fun i σ=>g9 h σ.h∧(a.drop i==b.drop i)=v) (a).length ?_ ?_ ?_
  ·simp only [go_sem, *]
   first|done|exact ag_|exact ⟨ag_,hv⟩|exact hv
  ·clear hv
   intro i σ gr0 l6 hgn hlt jI jN jS ⟨jA,jv⟩;obtain ⟨jT,jB⟩:=jS;simp only [go_sem] at jT jB;obtain ⟨hgf,m6,n7,n8⟩:=rnd hgn l6 jA;obtain ⟨x,hx,hxm,hm⟩:=rnx hlt;clear hgn;obtain ⟨y,hy⟩:=I8 i x hx;rw [A2 hx,A2 hy,show ((x::a.drop (i+1))==(y::b.drop (i+1)))=(x==y&&(a.drop (i+1)==b.drop (i+1))) from rfl] at jv;have hx1:=hga i x hx;have hy1:=hgb i y hy;clear I8 hga hgb;cases hxy:(x==y) with
   | false =>
    rw [hxy] at jv;simp only [Bool.false_and] at jv;have hn:(x != y)=true:=by simp only [bne,hxy,Bool.not_false]
    subst jv;clear hxy;exact wk_
   | true =>
    rw [hxy] at jv;simp only [Bool.true_and] at jv;have hn:(x != y)=false:=by simp only [bne,hxy,Bool.not_true]
    clear hxy
    repeat' (first
     |(refine ⟨?_,?_⟩;focus ((repeat' (first|refine ⟨?_,?_⟩|refine .inr ?_));all_goals kernel_rfl))
     |exact hin _|exact agf as_
     | (first|refine wp rfl ?_|refine spt rfl ?_|refine spf rfl ?_|(refine spl (fun hc=>?_) fun hc=>?_)<;>(try rw [beq_iff_eq] at hc)<;>try simp only [hc]|refine u7 ?_|refine A9 b7 ?_ ?_ ?_)<;>try simp only [go_sem, *])
    first|done|exact ag_|exact ⟨ag_,jv⟩|exact jv
  ·clear hv hga hgb I8
   intro σ ga0 l9 hgn jS ⟨jA,jv⟩;obtain ⟨jT,jB⟩:=jS;simp only [go_sem] at jT jB;obtain ⟨hgf,m6,n9,o0⟩:=rnd hgn l9 jA;clear hgn;have e:(a.drop a.length==b.drop a.length)=true:=by
    rw [List.drop_length,List.drop_of_length_le om_];rfl
   rw [e] at jv;subst jv;clear e;exact wk_
theorem cd5:∀ a:PVl,VlW a→∀ b:PVl,VlW b→Pure Tryz.prog env 14 [.agg a.cells,.agg b.cells] (.bool (PVl.same a b)):=by
 intro a
 induction a using PVl.ind with|h a ih=>?_
 intro ha b hb h;have hlen:=ha.len;have ih':∀ x∈a.args,∀ y∈b.args,Pure Tryz.prog env 14 [.agg x.cells,.agg y.cells] (.bool (PVl.same x y)):=fun x hx y hy=>ih x hx (ha.arg x hx) y (hb.arg y hy);have hll:a.list.length≤5000:=by cases ha;assumption
 have hI:=bY6 a.list b.list hll;clear ih ha hb hll;have hse:=PVl.ac5 a b;rw [hse];clear hse;rw [PVl.m8 a,PVl.m8 b];have wIa:=N5 a.list;have wIb:=N5 b.list;generalize ints a.list=Ia at *;generalize ints b.list=Ib at *;generalize (a.list==b.list)=bl at *;cases k1:(a.kind==b.kind) with
 | false =>
  have k1':=B7 k1;simp only [Bool.false_and];clear k1 ih' hI;exact ek_ Tryz.func14 [.tmp 4]
 | true =>
 have k1':=B7 k1;simp only [Bool.true_and];cases k2:(a.num==b.num) with
 | false =>
  have k2':=B7 k2;simp only [Bool.false_and];clear k1 k2 ih' hI;exact ek_ Tryz.func14 [.tmp 4]
 | true =>
 have k2':=B7 k2;simp only [Bool.true_and];cases bl with
 | false =>
  simp only [Bool.false_and];clear k1 k2 ih';exact ek_ Tryz.func14 [.tmp 4]
 | true =>
 simp only [Bool.true_and];clear k1 k2;cases k3:((a.args.length:Int)==(b.args.length:Int)) with
 | false =>
  have k3':=B7 k3;have hv:PVl.w6 a.args b.args=false:=by
   cases e:PVl.w6 a.args b.args with
   | false=>rfl
   | true=>have:=PVl.as5 e;simp [this] at k3
  clear k3 ih';exact ek_ Tryz.func14 [.tmp 4]
 | true =>
  have k3':=B7 k3;have I8:=ab9 k3;have hln:a.args.length≤b.args.length∧b.args.length≤a.args.length:=by simp at k3;omega
  simp only [Bool.not_true] at k1' k2' k3';clear k3;have hse:PVl.w6 a.args b.args=PVl.w6 a.args b.args:=rfl;generalize hv:PVl.w6 a.args b.args=v at hse ⊢;clear hse;refine en_ Tryz.func14 [.tmp 4] fun g0 w0 gen b7 hfr c6 m0=>?_;refine wq_ ?_;clear hI;refine ar_ [2,3] [⟨gen,0,0⟩,⟨gen,0,1⟩] (fun i σ=>g9 h σ.h∧PVl.w6 (a.args.drop i) (b.args.drop i)=v) (a.args).length ?_ ?_ ?_
  ·simp only [go_sem, *]
   first|done|exact ag_|exact ⟨ag_,hv⟩|exact hv
  ·clear hv
   intro i σ gr0 l6 hgn hlt jI jN jS ⟨jA,jv⟩;obtain ⟨jT,jB⟩:=jS;simp only [go_sem] at jT jB;obtain ⟨hgf,m6,n7,n8⟩:=rnd hgn l6 jA;obtain ⟨x,hx,hxm,hm⟩:=rnx hlt;clear hgn;obtain ⟨y,hy⟩:=I8 i x hx;rw [A2 hx,A2 hy,PVl.w6] at jv;have hc:=ih' x hxm y (List.mem_of_getElem? hy);clear ih' I8;cases hxy:PVl.same x y with
   | false =>
    rw [hxy] at hc jv;simp only [Bool.false_and] at jv;subst jv;exact wk_
   | true =>
    rw [hxy] at hc jv;simp only [Bool.true_and] at jv
    repeat' (first
     |(refine ⟨?_,?_⟩;focus ((repeat' (first|refine ⟨?_,?_⟩|refine .inr ?_));all_goals kernel_rfl))
     | (first|refine wp rfl ?_|refine spt rfl ?_|refine spf rfl ?_|(refine spl (fun hc=>?_) fun hc=>?_)<;>(try rw [beq_iff_eq] at hc)<;>try simp only [hc]|(refine gs (fun hb=>?_) fun hb=>?_)<;>try simp only [Bool.not_true,Bool.not_false] at hb|refine cp hc ?_|refine u7 ?_)<;>try simp only [go_sem, *])
    first|done|exact ag_|exact ⟨ag_,jv⟩|exact jv
  ·clear hv ih' I8
   intro σ ga0 l9 hgn jS ⟨jA,jv⟩;obtain ⟨jT,jB⟩:=jS;simp only [go_sem] at jT jB;obtain ⟨hgf,m6,n9,o0⟩:=rnd hgn l9 jA;clear hgn;have hq:a.args.length=b.args.length:=by omega
   rw [List.drop_length,hq,List.drop_length,PVl.w6] at jv;subst jv;clear hq hln;exact wk_
theorem aZ8 (f:Fm) (hf:FmW f) (he:P5 f=0) (hs:z6 f≤1000000) :
  Pure Tryz.prog env 19 [.agg f.cells] (.tup [.sl .any (f.univ.1.map Ty.cells),.agg f.univ.2.cells,.int .i64 0]):=by
 intro h;have hC:=V7 f hf;rw [he] at hC;have hg:f.G5=true:=Fm.al2 (by rw [he];rfl);have n0:((0:Int) != 0)=false:=rfl;have hO2:=aj5 f.univ.2 (aM4 f hf hg).1;have hb:=by2 f;clear he;generalize hu0:f.univ=p at *;obtain ⟨ul,uf⟩:=p;simp only at hb hO2 ⊢;refine en_ Tryz.func19 [.tmp 2,.cell 3 45,.tmp 4] fun g0 w0 gen b7 hfr c6 m0=>?_;refine wq_ ?_;clear hC;refine B1 (fun i σ=>σ.tm 1=.ptr ⟨gen,0,0⟩ 0∧σ.tm 3=.ptr ⟨gen,0,2⟩ 0∧σ.h ⟨gen,0,2⟩=some (.box [.int .i64 0,.int .i64 0,.sl .full [],.sl .full [],.sl .full []])∧g9 h σ.h ∧
  ∃ (f':Fm) (l':List Ty),σ.h ⟨gen,0,0⟩=some (.box f'.cells)∧T7 h σ.h (σ.tm 6) 2 (l'.map Ty.cells)∧FmW f'∧f'.G5=true∧l'++f'.univ.1=ul∧f'.univ.2=uf∧l'.length=i) ul.length ?_ ?_
 ·simp only [go_sem, *]
  exact ⟨ag_,f,[],rfl,.inl rfl,hf,hg,by rw [hu0];rfl,by rw [hu0],rfl⟩
 clear hf hg hu0;intro i σ hi ⟨j1,j2,j3,j4,f',l',j5,j6,j7,j8,j9,j10,j11⟩;refine ak0 (fun gn hgn=>?_);have hgf:=c8 hgn;have m6:∀ r i,h ⟨gn,r,i⟩=none:=fun r i=>s7 j4 (hgf r i);have e1:=K9 hgn j5;have e2:=G7 hgn j5;clear hgn;cases k:(f'.kind==4) with
 | true =>
  obtain ⟨a,ha,ga⟩:=Fm.aA4 j8 (.inl (by simpa using k));have wa:FmW a:=j7.arg (by rw [ha];simp);have hO:=R9 f'.type j7.ty;rw [Fm.aW7 k ha] at j9 j10;have hlt:i<ul.length:=by
   have:=congrArg List.length j9;simp at this;omega
  clear j7 j8 hO2;have hts:((l'++[f'.type]).map Ty.cells)=l'.map Ty.cells++[f'.type.cells]:=by simp
  repeat' (first
   |(refine aI2 j6 kp_ rfl so_ fr_ sg_ lo_ ?_;intro v' h' id' jO jK jAg jAb jF jI;obtain ⟨cO,rfl⟩:=jO.val;simp only [go_sem, *])
   | (first|refine wp rfl ?_|refine spt rfl ?_|refine spf rfl ?_|(refine spl (fun hc=>?_) fun hc=>?_)<;>(try rw [beq_iff_eq] at hc)<;>try simp only [hc]|refine cp hO ?_|refine u7 ?_)<;>try simp only [go_sem, *])
  exact ⟨g9.new (jAg ag_) (c6 _ _),a,l'++[f'.type],rfl,by rw [hts];exact jO.ak5 (F4.box (F4.refl _) (by rw [jK _ (by rw [j5];rfl),j5];rfl)),wa,ga,by simpa using j9,j10,by simp;omega⟩
 | false =>
  rw [Fm.aX5 k] at j9 j10;simp only [List.append_nil] at j9 j10;subst j9;subst j10;obtain ⟨c,j6⟩:=j6.val;clear j7 j8;exact wk_
end Go.Proofs.YteaijonkbbkkjaaGreatDoor
