/-
 Walks: several parts in one text.
-/
import Derived.Test.YteaijonkbbkkjaaGreatDoorMh
import Derived.Test.YteaijonkbbkkjaaGreatDoorMn
import Derived.Test.YteaijonkbbkkjaaGreatDoorNz
import Derived.Test.YteaijonkbbkkjaaGreatDoorMr
import Derived.Test.YteaijonkbbkkjaaGreatDoorPy
import Derived.Test.YteaijonkbbkkjaaGreatDoorOs
import Derived.Test.YteaijonkbbkkjaaGreatDoorAbsDd
import Derived.Test.YteaijonkbbkkjaaGreatDoorPx
set_option linter.unusedSimpArgs false
set_option linter.unusedVariables false
set_option maxRecDepth 20000
set_option maxHeartbeats 4000000
namespace Go.Proofs.YteaijonkbbkkjaaGreatDoor
open Go GoAbs Go.Proofs
theorem bq5 (f:Fm) (hf:FmW f) (he:P5 f=0) (hs:z6 f≤1000000) :
  Pure Tryz.prog env 69 [.agg f.cells] (.tup [.sl .any (f.univ.1.map Ty.cells),.agg f.univ.2.cells,.int .i64 0]):=by
 intro h;have hC:=am5 f hf;rw [he] at hC;have he':(P5 f != 0)=false:=by rw [he];rfl
 have hU:=aQ0 f hf (Fm.al2 he') hs;have hO:=av3 f.univ.2 (aM4 f hf (Fm.al2 he')).1;have n0:((0:Int) != 0)=false:=rfl;clear hf he he' hs;generalize f.univ=p at *;exact ek_ Tryz.func69 [.tmp 2,.cell 3 45,.tmp 4]
def bN7 (r:Option (List PVl) × Int):V :=
 .tup [.sl .any ((r.1.getD []).map PVl.cells),.bool r.1.isSome,.int .i64 r.2]
structure cL1 (b:Fm) (H:List PVl→Nat→Ans) (l:List PVl):Prop where
 len:l.length≤100
 holds:∀ w:Nat,w≤65536→Pure Tryz.prog env 44 [.agg b.cells,.sl .any (l.map PVl.cells),.int .i64 w] (ag3 (H l w))
 used:∀ w:Nat,(H l w).2.2=0→(H l w).2.1≤w
 own:∀ v∈l,Pure Tryz.prog env 35 [.agg v.cells] (.agg v.cells)
theorem cV8 {f b:Fm} {ts:List Ty} {bd m w:Nat} {H:List PVl→Nat→Ans} {L:List (List PVl)} (hC:Pure Tryz.prog env 41 [.agg f.cells] (.tup [.agg (ba6 ts b),.int .i64 0]))
  (hL:∀ t∈ts,Pure Tryz.prog env 33 [.agg t.cells,.int .i64 bd,.int .i64 m] (.int .i64 0)) (hts:ts.length≤100) (hw:w≤65536)
  (hlc:Pure Tryz.prog env 43 [.sl .any [],.sl .any (ts.map Ty.cells),.int .i64 bd,.int .i64 m] (aM6 [] (ts.map Ty.cells) bd m))
  (hI:Iter Tryz.prog env (aM6 [] (ts.map Ty.cells) bd m) (aq6 [] L)) (hT:∀ l∈L,cL1 b H l) :
  Pure Tryz.prog env 16 [.agg f.cells,.int .i64 bd,.int .i64 m,.int .i64 w] (bN7 (aS2 H L w)):=by
 intro h;have n0:((0:Int) != 0)=false:=rfl;have hM:=bO5 (w:=(w:Int)) om_ om_;obtain ⟨lV,hlV⟩:∃ lV,lV=aM6 [] (ts.map Ty.cells) bd m:=⟨_,rfl⟩;have iV:∀ S,InV S lV:=fun S=>by
  rw [hlV];unfold aM6;simp only [go_sem, *]
 unfold ba6 at hC;rw [← hlV] at hlc hI;rw [Fm.m8 b] at hC;obtain ⟨v,hv⟩:∃ v,bN7 (aS2 H L w)=v:=⟨_,rfl⟩;rw [hv];refine M4 Tryz.func16 rfl kr_ fun g0 w0 gen b7 hfr=>?_;have c6:∀ r i,h ⟨gen,r,i⟩=none:=c8 hfr;have m0:Tryz.f16.results.toList=[.cell 8 31,.cell 9 4,.cell 10 32]:=rfl;have hl0:∀ b,w0.heap.size≤b→g0.lim b=0:=b7.C4;refine ad1 ?_;simp only [ad8,X2,aa4,ai1,ah9,List.append_assoc,List.cons_append,List.nil_append,List.map_cons,List.map_nil,List.append_nil];refine ah1 (J:=fun σ=>σ.tm 7=.ptr ⟨gen,0,1⟩ 0∧σ.tm 8=.ptr ⟨gen,0,2⟩ 0∧σ.tm 9=.ptr ⟨gen,0,3⟩ 0∧σ.tm 10=.ptr ⟨gen,0,4⟩ 0∧σ.tm 11=.ptr ⟨gen,1,5⟩ 0∧σ.tm 53=lV∧g9 h σ.h ∧
  σ.h ⟨gen,0,1⟩=some (.box [.int .i64 w])∧σ.h ⟨gen,0,2⟩=some (.box [.sl .full []])∧σ.h ⟨gen,0,3⟩=some (.box [.bool false])∧σ.h ⟨gen,0,4⟩=some (.box [.int .i64 0]) ∧
  σ.h ⟨gen,1,5⟩=some (.box (.sl .any (ts.map Ty.cells)::b.cells))) [_,_,_,_,_,_,_,_,_] kr_ follows ?_ ?_
 ·simp only [List.map_cons,List.map_nil,List.cons_append,List.nil_append]
  rw [Fm.m8 b];clear hI hT hlV;have hwT:B2 (ts.map Ty.cells)=ts.map Ty.cells:=H8 ts;refine wq_ ?_;refine ar_ [1,2,7,8,9,10,11,32] [⟨gen,0,1⟩,⟨gen,0,2⟩,⟨gen,0,3⟩,⟨gen,0,4⟩,⟨gen,1,5⟩] (fun i σ=>g9 h σ.h∧True) (ts).length ?_ ?_ ?_
  ·simp only [go_sem, *]
   first|exact ag_|exact ⟨ag_,trivial⟩
  ·
   intro i σ gr0 l6 hgn hlt jI jN jS ⟨jA,_⟩;obtain ⟨jT,jB⟩:=jS;simp only [go_sem] at jT jB;obtain ⟨hgf,m6,n7,n8⟩:=rnd hgn l6 jA;obtain ⟨x,hx,hxm,hm⟩:=rnx hlt;clear hgn;have hl:=hL x hxm;clear hL
   first|refine wq_ ?_|exact wk_
   all_goals first|exact ag_|exact ⟨ag_,trivial⟩|skip
  ·
   intro σ ga0 l9 hgn jS ⟨jA,_⟩;obtain ⟨jT,jB⟩:=jS;simp only [go_sem] at jT jB;obtain ⟨hgf,m6,n9,o0⟩:=rnd hgn l9 jA;clear hgn;clear hL
   repeat' (first
    |(refine ⟨?_,?_⟩;focus ((repeat' (first|refine ⟨?_,?_⟩|refine .inr ?_));all_goals kernel_rfl))
    | (first|refine wp rfl ?_|refine spt rfl ?_|refine spf rfl ?_|(refine spl (fun hc=>?_) fun hc=>?_)<;>(try rw [beq_iff_eq] at hc)<;>try simp only [hc]|(refine gs (fun hb=>?_) fun hb=>?_)<;>try simp only [Bool.not_true,Bool.not_false] at hb|refine cp hM ?_|refine cp hlc ?_|refine u7 ?_)<;>try simp only [go_sem, *])
   all_goals first|exact ag_|skip
 ·rintro σ ⟨j7,j8,j9,j10,j11,j53,jA,jb1,jb2,jb3,jb4,jb5⟩
  clear hC hL hM hlc hts;refine bQ5 ?_;refine u0 ?_;refine am6 (bw9 _) (ps:=[54]) (vs:=aq6 [] L) (by intro p hp;simp at hp;subst hp;exact of_decide_eq_true kr_) (fun v hh=>by obtain ⟨l,_,rfl⟩:=List.mem_map.1 hh;rfl)
   (fun id=>id=⟨gen,0,1⟩∨id=⟨gen,0,2⟩∨id=⟨gen,0,3⟩∨id=⟨gen,0,4⟩) (by rintro id (rfl|rfl|rfl|rfl)<;>simp [jb1,jb2,jb3,jb4])
   (fun i X hh=>X=xT∧g9 h hh∧hh ⟨gen,0,2⟩=some (.box [.sl .full []])∧hh ⟨gen,0,3⟩=some (.box [.bool false])∧hh ⟨gen,0,4⟩=some (.box [.int .i64 0]) ∧
    hh ⟨gen,1,5⟩=some (.box (.sl .any (ts.map Ty.cells)::b.cells))∧∃ w':Nat,w'≤65536∧hh ⟨gen,0,1⟩=some (.box [.int .i64 w'])∧aS2 H (L.drop i) w'=aS2 H L w)
   (fun id X hh=>id=none∧X=xT∧g9 h hh∧∃ cc rs bo e,hh ⟨gen,0,2⟩=some (.box [.sl cc rs])∧hh ⟨gen,0,3⟩=some (.box [.bool bo])∧hh ⟨gen,0,4⟩=some (.box [.int .i64 e]) ∧
    B2 rs=rs∧(∀ S,Z6 S rs)∧v=.tup [.sl .any rs,.bool bo,.int .i64 e])
   (by rintro i X hh ⟨rfl,_⟩;exact ax2) (by rintro i X hh ⟨_,rfl,_⟩;exact ax2)
   (by
    rintro i X h1 h2 e ⟨q0,q1,q2,q3,q4,q5,w',q6,q7,q8⟩;exact ⟨q0,fun id hid=>(e id (by rw [jA id hid];exact hid)).trans (q1 id hid),(e _ (by rw [jb2];simp)).trans q2,(e _ (by rw [jb3];simp)).trans q3,(e _ (by rw [jb4];simp)).trans q4,
     (e _ (by rw [jb5];simp)).trans q5,w',q6,(e _ (by rw [jb1];simp)).trans q7,q8⟩)
   (by
    rintro i X h1 h2 e ⟨q0,q00,q1,cc,rs,bo,er,q2,q3,q4,q5⟩;exact ⟨q0,q00,fun id hid=>(e id (by rw [jA id hid];exact hid)).trans (q1 id hid),cc,rs,bo,er,(e _ (by rw [jb2];simp)).trans q2,(e _ (by rw [jb3];simp)).trans q3,(e _ (by rw [jb4];simp)).trans q4,q5⟩)
   hl0 ?_ (by rw [j53];exact hI) ⟨rfl,jA,jb2,jb3,jb4,jb5,w,hw,jb1,by rw [List.drop_zero]⟩ rfl rfl ?_ ?_
  ·
   clear jb1 jb2 jb3 jb4 jb5 jA hI;rintro ya yb gn i vv hi X oa ob ⟨lp,f1,f2,f3⟩ d1 d2 lo1 lo2 hXS bp9 bj8 hgn hvv ⟨rfl,jA,jb2,jb3,jb4,jb5,w',hw',jb1,hF⟩ hnn toB fin finx;obtain ⟨l,hl,rfl⟩:∃ l,L[i]? = some l∧vv=[V.sl .any (l.map PVl.cells)]:=by
    unfold aq6 at hvv;rw [List.getElem?_map] at hvv;cases hv:L[i]? with
    | none=>rw [hv] at hvv;simp at hvv
    | some l=>rw [hv] at hvv;simp at hvv;exact ⟨l,rfl,hvv.symm⟩
   obtain ⟨q1,q2,q3,q4⟩:=hT l (List.mem_of_getElem? hl);have hh:=q2 w' hw';have hu:=q3 w';have hil:i<L.length:=(List.getElem?_eq_some_iff.1 hl).1;have hdr:L.drop i=l::L.drop (i+1):=by
    rw [List.drop_eq_getElem_cons hil];congr 1;exact (List.getElem?_eq_some_iff.1 hl).2
   rw [hdr,aS2] at hF;have hwl:B2 (l.map PVl.cells)=l.map PVl.cells:=N0 l;refine ac8 (fun gm hgm=>?_);have hgf:∀ r i,hi ⟨gm,r,i⟩=none:=c8 hgm;have m6:=fun r i=>s7 jA (hgf r i);have hg1:gen<gm:=hgm ⟨gen,0,1⟩ (by simp [jb1]);have e1:=s8 hg1;have e2:=o9 hg1;have xa:XOk Tryz.prog (ya.at xT):=oa.x hXS;have xb:XOk Tryz.prog (yb.at xT):=ob.x hXS;have nI:∀ id:GoAbs.Id,¬ (id=⟨gen,0,1⟩∨id=⟨gen,0,2⟩∨id=⟨gen,0,3⟩∨id=⟨gen,0,4⟩)→(id=⟨gen,0,1⟩)=False∧(id=⟨gen,0,2⟩)=False∧(id=⟨gen,0,3⟩)=False∧(id=⟨gen,0,4⟩)=False :=
    fun id hid=>⟨eq_false fun e=>hid (.inl e),eq_false fun e=>hid (.inr (.inl e)),eq_false fun e=>hid (.inr (.inr (.inl e))),eq_false fun e=>hid (.inr (.inr (.inr e)))⟩
   rw [Fm.m8 b] at hh jb5 fin;clear hgm hnn hvv hT q2 q3 hdr hil;simp only [ax5];refine m9 xa follows kr_ ?_;simp only [go_sem, *];refine toB _ _ gm hXS ?_;clear toB;unfold ag3 at hh;generalize H l w'=a at hh hu hF;obtain ⟨bo,u,e⟩:=a;simp only at hh hu hF;cases he:(e != 0) with
   | true =>
    simp only [he,if_true] at hh hF;clear fin hu q4
    repeat' (first
     |(refine ⟨?_,?_⟩;focus ((repeat' (first|refine ⟨?_,?_⟩|refine .inr ?_));all_goals kernel_rfl))
     | (first|refine x9 ?_|refine m9 xb follows kr_ ?_|refine s9 ?_|refine u0 ?_|refine z8 ?_|refine spt rfl ?_|refine spf rfl ?_|refine cp hh ?_|refine D5 ?_)<;>try simp only [go_sem, *])
    refine E6 (finx _ gm none _ ⟨rfl,rfl,?_,.full,[],false,e,?_,?_,?_,rfl,(fun S=>by simp [Z6]),?_⟩ fun id hid q=>?_)
    ·repeat (first|exact jA|refine g9.new ?_ (c6 _ _))
    ·simp only [go_sem, *]
    ·simp only [go_sem, *]
    ·simp only [go_sem, *]
    ·rw [← hv,← hF];rfl
    ·obtain ⟨m1,m2,m3,m4⟩:=nI id hid
     simp only [u9,m1,m2,m3,m4,if_false]
   | false =>
    simp only [he,Bool.false_eq_true,if_false] at hh hF;have hu':u≤w':=hu (by simpa using he);clear hu he;cases bo with
    | true =>
     simp only [if_true] at hF;have aJ4:IntKind.i64.wrap ((w':Int) - (u:Int))=((w' - u:Nat):Int):=w8 om_ om_ om_;clear finx q4
     repeat' (first
      |(refine ⟨?_,?_⟩;focus ((repeat' (first|refine ⟨?_,?_⟩|refine .inr ?_));all_goals kernel_rfl))
      | (first|refine x9 ?_|refine m9 xb follows kr_ ?_|refine s9 ?_|refine u0 ?_|refine z8 ?_|refine r7 ?_|refine spt rfl ?_|refine spf rfl ?_|refine cp hh ?_)<;>try simp only [go_sem, *])
     refine fin _ gm _ ⟨rfl,?_,?_,?_,?_,?_,w' - u,om_,?_,hF⟩ fun id hid q=>?_
     ·repeat (first|exact jA|refine g9.new ?_ (c6 _ _))
     ·simp only [go_sem, *]
     ·simp only [go_sem, *]
     ·simp only [go_sem, *]
     ·simp only [go_sem, *]
     ·simp only [go_sem, *]
     ·obtain ⟨m1,m2,m3,m4⟩:=nI id hid
      simp only [u9,m1,m2,m3,m4,if_false]
    | false =>
     simp only [Bool.false_eq_true,if_false] at hF;clear fin
     repeat' (first
      |(refine ⟨?_,?_⟩;focus ((repeat' (first|refine ⟨?_,?_⟩|refine .inr ?_));all_goals kernel_rfl))
      | (first|refine x9 ?_|refine m9 xb follows kr_ ?_|refine s9 ?_|refine u0 ?_|refine z8 ?_|refine spt rfl ?_|refine spf rfl ?_|refine cp hh ?_)<;>try simp only [go_sem, *])
     clear hh;refine aA3 l.length (fun m X σ=>X=xT∧σ.tm 8=.ptr ⟨gen,0,2⟩ 0∧σ.tm 9=.ptr ⟨gen,0,3⟩ 0∧σ.tm 10=.ptr ⟨gen,0,4⟩ 0∧σ.tm 69=.sl .any (l.map PVl.cells)∧σ.tm 70=.int .i64 (l.length:Nat)∧σ.tm 71=.int .i64 (m:Nat) ∧
      g9 hi σ.h∧T7 hi σ.h (σ.tm 20) 4 ((l.take m).map PVl.cells)) ?_ ?_
     ·simp only [go_sem, *]
      exact ⟨rfl,g9.refl _,.inl rfl⟩
     intro y' gn' m X σ2 e1' e2' e3' e4' cR4 hm ⟨hX,k8,k9,k10,k69,k70,k71,kA,k20⟩ next out
     subst hX;have xb':XOk Tryz.prog (y'.at xT):=(cR4 ob).x (ax2 (bd:=0));rcases Nat.lt_or_ge m l.length with hlt|hge
     ·obtain ⟨x,hx⟩:∃ x,l[m]? = some x:=⟨_,List.getElem?_eq_getElem hlt⟩
      have hd:=T5 hlt;have hws:=z7 (i:=m) om_;have ho:=q4 x (List.mem_of_getElem? hx);have hts:(l.take (m+1)).map PVl.cells=(l.take m).map PVl.cells++[x.cells]:=B4 hx;have hmn:=aG4 hlt;clear out finx q4;refine ac8 (fun gk hgk=>?_);have kf:∀ r i,σ2.h ⟨gk,r,i⟩=none:=c8 hgk;have kf0:∀ r i,hi ⟨gk,r,i⟩=none:=fun r i=>s7 kA (kf r i);clear hgk
      repeat' (first
       |(refine U6 k20 (by repeat (first|exact F4.refl _|refine F4.new ?_ (kf _ _)|refine F4.box ?_ rfl|refine F4.box ?_ sg_)) rfl so_ (kf0 _ _) sg_ (by intro hd;cases hd) ?_;intro v' h' log' jO jK jAg jAb jF;simp only [go_sem, *])
       |(refine ⟨?_,?_⟩;focus ((repeat' (first|refine ⟨?_,?_⟩|refine .inr ?_));all_goals kernel_rfl))
       | (first|refine x9 ?_|refine m9 xb' follows kr_ ?_|refine s9 ?_|refine u0 ?_|refine z8 ?_|refine r7 ?_|refine spt rfl ?_|refine spf rfl ?_|refine cp ho ?_)<;>try simp only [go_sem, *])
      refine next _ _ _ hlt ?_
      simp only [go_sem, *];have kO:=jAg (by repeat (first|exact kA|refine g9.new ?_ (kf0 _ _)))
      first|exact kO|exact ⟨kO,by rw [hts];exact jO⟩|exact ⟨rfl,kO,by rw [hts];exact jO⟩
     ·have hd:=O2 hge
      obtain rfl:m=l.length:=by omega
      obtain ⟨cO,hO⟩:=k20.val;rw [List.take_length] at hO;clear next q4
      repeat' (first
       |(refine ⟨?_,?_⟩;focus ((repeat' (first|refine ⟨?_,?_⟩|refine .inr ?_));all_goals kernel_rfl))
       | (first|refine x9 ?_|refine m9 xb' follows kr_ ?_|refine s9 ?_|refine z8 ?_|refine spf rfl ?_|refine F3 ?_|refine A5 ?_)<;>try simp only [go_sem, *])
      refine out _ _ _ gn' (.inr ⟨_,rfl⟩) ?_;refine A6 ?_;have kb2:=(kA ⟨gen,0,2⟩ (by rw [jb2];simp)).trans jb2;have kb3:=(kA ⟨gen,0,3⟩ (by rw [jb3];simp)).trans jb3;have kb4:=(kA ⟨gen,0,4⟩ (by rw [jb4];simp)).trans jb4
      repeat' (first
       |(refine ⟨?_,?_⟩;focus ((repeat' (first|refine ⟨?_,?_⟩|refine .inr ?_));all_goals kernel_rfl))
       | (first|refine x9 ?_|refine m9 xb follows kr_ ?_|refine D5 ?_)<;>try simp only [go_sem, *])
      refine E6 (finx _ gn' none _ ⟨rfl,rfl,?_,cO,l.map PVl.cells,true,0,?_,?_,?_,hwl,(fun S=>by simp only [go_sem, *]),?_⟩ fun id hid q=>?_)
      ·have:g9 h σ2.h:=fun id hid=>(kA id (by rw [jA id hid];exact hid)).trans (jA id hid)
       repeat (first|exact this|refine g9.new ?_ (c6 _ _))
      ·simp only [go_sem, *]
      ·simp only [go_sem, *]
      ·simp only [go_sem, *]
      ·rw [← hv,← hF];rfl
      ·obtain ⟨m1,m2,m3,m4⟩:=nI id hid
       simp only [u9,m1,m2,m3,m4,if_false];exact kA id q
  ·rintro D X' h' hD ok ⟨rfl,jA,jb2,jb3,jb4,jb5,w',hw',jb1,hF⟩ ab4
   rw [bj2,List.drop_length] at hF;have hv':v=.tup [.sl .any [],.bool false,.int .i64 0]:=by rw [← hv,← hF];rfl
   have okD:=ok.x (ax2 (bd:=0));clear hv hF;subst hv'
   repeat' (first
    |(refine ⟨?_,?_⟩;focus ((repeat' (first|refine ⟨?_,?_⟩|refine .inr ?_));all_goals kernel_rfl))
    |exact agf as_
    | (first|refine x9 ?_|refine m9 okD follows kr_ ?_|refine s9 ?_|refine u0 ?_|refine F3 ?_|refine z8 ?_|refine D5 ?_|refine r7 ?_|refine spt rfl ?_|refine spf rfl ?_|refine ah4 follows hl0 hD ?_|refine A9 b7 ?_ ?_ ?_)<;>try simp only [go_sem, *])
  ·rintro D id X' h' hD ok ⟨rfl,rfl,jA,cc,rs,bo,e,jb2,jb3,jb4,hwk,hin,hv'⟩ ab4
   simp only [ae4];clear hv;subst hv';refine E6 (ah4 follows hl0 hD ?_);exact wk_
theorem cf3 {g k:List Ty} {f b:Fm} (h:ck6 g f k b):Pure Tryz.prog env 41 [.agg (P7 g f).cells] (.tup [.agg (ba6 k b),.int .i64 0]):=by
 have he:=h.G5.aj7 (show z6 (P7 g f)≤4096 by have:=h.size;omega);have h1:=ao9 [] sp_ sp_ (P7 g f) h.ty he (by have:=h.size;omega) h.G5.toW;have h2:=bq5 (P7 g f) h.G5.toW he (by have:=h.size;omega);rw [h.univ] at h2;have gb:=h.dc.G (u:=true);have h3:=ax8 b gb.toW;have e:b.has 4=(true,0):=by
  unfold Fm.has;rw [gb.aj7 (by have:=h.sz;omega),h.dc.fld (by have:=h.len;have:=h.sz;omega)]
  rfl
 rw [e] at h3;unfold az1 at h3;exact cb0 h1 h2 h3
theorem cn7 {k:List Ty} {b:Fm} {T:List PVl→List Tm} {l:List PVl} (h:T6 k l (T l)) (hk:k.length≤3) (db:Dc k b) (zb:z6 b≤4096):cL1 b (aL5 b T) l:=by
 refine ⟨by have:=h.len.1;omega,fun w hw=>bb3 h om_ db zb w hw,fun w hw=>?_,fun v hv=>?_⟩
 ·generalize ha:aL5 b T l w=a at hw
  obtain ⟨bo,u,e⟩:=a;simp only at hw;subst hw;exact ((bf4 h om_ db zb).up w bo u w ha (Nat.le_refl _)).1
 ·obtain ⟨i,hi⟩:=List.mem_iff_getElem?.1 hv
  obtain ⟨a,v',t,q1,q2,q3,q4,q5,q6⟩:=h.at i (by have:=(List.getElem?_eq_some_iff.1 hi).1;have:=h.len.1;omega);rw [hi] at q2;cases q2;exact cu1 v (q4.W q6)
theorem cq1 {g k:List Ty} {f b:Fm} (h:ck6 g f k b) {T:List PVl→List Tm} {bd m w:Nat} (hT:∀ l∈tries bd m k,T6 k l (T l)) (hb:bd≤16) (hm:m≤65536) (hw:w≤65536) :
  Pure Tryz.prog env 16 [.agg (P7 g f).cells,.int .i64 bd,.int .i64 m,.int .i64 w] (bN7 (aS2 (aL5 b T) (tries bd m k) w)):=by
 have hl:=h.len;have hz:=h.sz;refine cV8 (cf3 h) (fun t ht=>aV5 (h.plain t ht) hb hm) om_ hw ?_ ?_ fun l hl'=>cn7 (hT l hl') hl h.dc om_
 ·exact bR5 bd m (fun S=>by simp [Z6]) (fun S=>by simp only [go_sem, *]) rfl (H8 k)
 ·exact bq2 (b:=bd) (m:=m) om_ hm k [] (fun t ht=>(h.plain t ht).plT) (by simp;omega)
theorem cl3:Pure Tryz.prog env 7 [] (.bool true):=by
 have dq:Dc [r5] (M3 (u5 0) (C5 0)):=.eq bA2 (at6 0) (show w7 TyG ([]++[r5]) (u5 0) r5 from .v0) (w7.num 0);have zq:z6 (M3 (u5 0) (C5 0))≤300:=by rw [V6,ao7,S4];omega
 have hp:∀ y∈[r5],P8 y:=by simp;exact .inl rfl
 have hF:ck6 [r5] (M3 (u5 0) (C5 0)) [r5] (M3 (u5 0) (C5 0)):=by
  refine ⟨by rw [bv9,Fm.aX5 rfl];rfl,dq,zq,hp,sp_,bp7 [r5] [] (fun y hy=>(hp y hy).G) dq.ty,cg6 (fun y hy=>(hp y hy).G) dq.G,by rw [bS1];simp;omega⟩
 have ht:tries 3 10 [r5]=[[bc8 0],[bc8 1],[bc8 2]]:=rfl;have hT:∀ l∈tries 3 10 [r5],T6 [r5] l ((fun l:List PVl=>l.map fun v=>C5 v.num.toNat) l):=by
  rw [ht];intro l hl;simp only [List.mem_cons,List.not_mem_nil,or_false] at hl;have key:∀ n:Nat,n≤2→T6 [r5] [bc8 n] [C5 n]:=fun n hn=>.snoc (g:=[]) (l:=[]) (ts:=[]) .nil (.num n) TyG.nat (by rw [S4];omega);rcases hl with rfl|rfl|rfl
  ·exact key 0 om_
  ·exact key 1 om_
  ·exact key 2 om_
 have h1:=cq1 hF hT (bd:=3) (m:=10) (w:=1000) om_ om_ om_;rw [show aS2 (aL5 (M3 (u5 0) (C5 0)) (fun l:List PVl=>l.map fun v=>C5 v.num.toNat)) (tries 3 10 [r5]) 1000=(some [bc8 1],0) by kernel_rfl] at h1;have h2:=bU6 0 om_;replace h2:Pure Tryz.prog env 29 [.int .i64 0] (.agg (C5 0).cells):=h2;have h3:=D8;have h4:=aB8 0;have h5:=cH6 (u5 0) (C5 0) (D4 0) (az7 0);have h6:=bz1 4 r5 (M3 (u5 0) (C5 0)) K4 (aW9 (D4 0) (az7 0));replace h1:Pure Tryz.prog env 16 [.agg (fmQ 4 r5 (M3 (u5 0) (C5 0))).cells,.int .i64 3,.int .i64 10,.int .i64 1000] (.tup [.sl .any [[.int .i64 1,.int .i64 1,.sl .any [],.sl .any []]],.bool true,.int .i64 0]):=by
  have e:([bc8 1]:List PVl).map PVl.cells=[[.int .i64 1,.int .i64 1,.sl .any [],.sl .any []]]:=by simp [bc8,PVl.p9,ints]
  unfold bN7 at h1;simp only [Option.getD_some,Option.isSome_some,e] at h1;exact h1
 clear hF hT ht dq zq hp;generalize fmQ 4 r5 (M3 (u5 0) (C5 0))=q at *;generalize M3 (u5 0) (C5 0)=q0 at *;generalize C5 0=t0 at *;have m1:(((1:Nat):Int)==1)=true:=rfl;have m2:((1:Int)==1)=true:=rfl;have m3:((0:Int)==0)=true:=rfl;have m4:(0:Int)<((1:Nat):Int):=by omega
 intro h;exact ek_ Tryz.func7 [.tmp 0]
end Go.Proofs.YteaijonkbbkkjaaGreatDoor
