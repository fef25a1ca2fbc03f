/-
 Walks: does a formula hold of values.
-/
import Derived.Test.YteaijonkbbkkjaaGreatDoorOq
import Derived.Test.YteaijonkbbkkjaaGreatDoorOr
import Derived.Test.YteaijonkbbkkjaaGreatDoorOm
import Derived.Test.YteaijonkbbkkjaaGreatDoorAbsDd
set_option linter.unusedSimpArgs false
set_option linter.unusedVariables false
set_option maxRecDepth 20000
set_option maxHeartbeats 4000000
namespace Go.Proofs.YteaijonkbbkkjaaGreatDoor
open Go GoAbs Go.Proofs
theorem cg4 (l:List Nat) (hz:lsz l≤4096):Pure Tryz.prog env 120 [.agg (PVl.mk 2 0 (l.map fun (n:Nat)=>(n:Int)) []).cells] (.agg (ae1 l).cells):=by
 intro h;obtain ⟨at5,hlen⟩:=V3.mem hz;have hOf:=aR1 7 [];simp only [List.map_nil] at hOf;have cV5:∀ x∈l,Pure Tryz.prog env 168 [.int .i64 x] (.agg (C5 x).cells):=fun x hx=>az8 x (by have:=at5 x hx;omega);have cZ7:∀ x t,Pure Tryz.prog env 166 [.int .i64 8,.sl .any [(C5 x).cells,t]] (.agg (tm0 8 [C5 x]).cells)→True:=fun _ _ _=>trivial;have hcn:∀ x (t:Tm),Pure Tryz.prog env 166 [.int .i64 8,.sl .any [(C5 x).cells,t.cells]] (.agg (tm0 8 [C5 x,t]).cells):=by
  intro x t;have:=aR1 8 [C5 x,t];simpa only [List.map_cons,List.map_nil] using this
 clear cZ7;have hwL:B2 (ints (l.map fun (n:Nat)=>(n:Int)))=ints (l.map fun (n:Nat)=>(n:Int)):=N5 _;have hbk:=bu7 (c:=.any) (es:=ints (l.map fun (n:Nat)=>(n:Int)));have hL:ints (l.map fun (n:Nat)=>(n:Int))=(l.map fun (n:Nat)=>V.int .i64 (n:Int)).map fun v=>[v]:=by simp [ints,List.map_map,Function.comp_def]
 have bX9:ae1 (l.drop l.length)=tm0 7 []:=by rw [List.drop_length];rfl
 rw [PVl.p9];rw [hL] at hbk hwL ⊢;have hvl:(l.map fun (n:Nat)=>V.int .i64 (n:Int)).length=l.length:=by simp
 have hvg:∀ (i:Nat) (v:V),(l.map fun (n:Nat)=>V.int .i64 (n:Int))[i]? = some v→∃ x:Nat,l[i]? = some x∧v=V.int .i64 (x:Int):=by
  intro i v hv;rw [List.getElem?_map] at hv;cases hx:l[i]? with
  | none=>rw [hx] at hv;cases hv
  | some x=>rw [hx] at hv;cases hv;exact ⟨x,rfl,rfl⟩
 clear hL hz;generalize (l.map fun (n:Nat)=>V.int .i64 (n:Int))=vs at *;refine M4 Tryz.func120 rfl kr_ fun g0 w0 gen b7 hfr=>?_;have c6:∀ r i,h ⟨gen,r,i⟩=none:=c8 hfr;have m0:Tryz.f120.results.toList=[.cell 2 65]:=rfl;have hl0:∀ b,w0.heap.size≤b→g0.lim b=0:=b7.C4;have okF:=bQ3 ⟨Tryz.prog,env,Tryz.f120.ntmps,Tryz.f120,g0,w0,h,.agg (ae1 l).cells,h⟩
 repeat' (first
  |(refine ⟨?_,?_⟩;focus ((repeat' (first|refine ⟨?_,?_⟩|refine .inr ?_));all_goals kernel_rfl))
  |exact agf as_
  | (first|refine x9 ?_|refine m9 okF follows kr_ ?_|refine s9 ?_|refine u0 ?_|refine F3 ?_|refine z8 ?_|refine D5 ?_|refine r7 ?_|refine B8 (by decide) ?_|refine A6 ?_|refine A5 ?_|refine spt rfl ?_|refine spf rfl ?_|refine cp hOf ?_|refine cp hbk ?_)<;>try simp only [go_sem, *])
 refine bx8 (vs:=vs) ct0 sg_ om_ (of_decide_eq_true kr_) (of_decide_eq_true kr_)
  (fun i hi=>g9 h hi∧hi ⟨gen,0,1⟩=some (.box [.int .i64 0,.int .i64 0,.int .i64 0,.sl .full [],.sl .full []])∧hi ⟨gen,3,1⟩=some (.box (ae1 (l.drop i)).cells))
  (fun _ _=>False) ?_ ?_ ?_ (fun _ _ _ h=>h.elim)
 ·rw [hvl,bX9]
  simp only [go_sem, *];exact ag_
 ·intro xa xb gr i v hi oka okb hgr hlt hv ⟨jA,jb1,jb2⟩ mid fin _
  obtain ⟨x,hx,rfl⟩:=hvg i v hv;have hn:=cV5 x (List.mem_of_getElem? hx);have hc:=hcn x (ae1 (l.drop (i+1)));have hd:=aW4 hx;clear cV5 hcn hvg hv;refine m9 oka follows kr_ ?_;simp only [go_sem, *];refine mid _ _ ?_;clear mid
  repeat' (first
   |(refine ⟨?_,?_⟩;focus ((repeat' (first|refine ⟨?_,?_⟩|refine .inr ?_));all_goals kernel_rfl))
   |exact agf as_
   | (first|refine x9 ?_|refine m9 okb follows kr_ ?_|refine s9 ?_|refine u0 ?_|refine F3 ?_|refine z8 ?_|refine D5 ?_|refine r7 ?_|refine B8 (by decide) ?_|refine A6 ?_|refine A5 ?_|refine spt rfl ?_|refine spf rfl ?_|refine cp hn ?_|refine cp hc ?_)<;>try simp only [go_sem, *])
  exact fin _ _ ⟨by repeat (first|exact jA|refine g9.new ?_ (c6 _ _)),sg_,sg_⟩
 ·rintro D h' ⟨jA,jb1,jb2⟩
  rw [List.drop_zero] at jb2;have okD:=bi6 ⟨Tryz.prog,env,Tryz.f120.ntmps,Tryz.f120,g0,w0,h,.agg (ae1 l).cells,h⟩ D;clear cV5 hcn hvg
  repeat' (first
   |(refine ⟨?_,?_⟩;focus ((repeat' (first|refine ⟨?_,?_⟩|refine .inr ?_));all_goals kernel_rfl))
   |exact agf as_
   | (first|refine x9 ?_|refine m9 okD follows kr_ ?_|refine s9 ?_|refine u0 ?_|refine F3 ?_|refine z8 ?_|refine D5 ?_|refine r7 ?_|refine B8 (by decide) ?_|refine A6 ?_|refine A5 ?_|refine spt rfl ?_|refine spf rfl ?_|refine ab3 follows hl0 ?_|refine A9 b7 ?_ ?_ ?_|refine E6 ?_)<;>try simp only [go_sem, *])
theorem cz9 {a:Ty} {v:PVl} {t:Tm} (hv:V3 a v t):m7 t≤4096→Pure Tryz.prog env 120 [.agg v.cells] (.agg t.cells):=by
 induction hv with
 | num n =>
  intro hz h;rw [S4] at hz;have h1:=az8 n om_;clear hz;rw [PVl.p9];generalize C5 n=t at *;refine M4 Tryz.func120 rfl kr_ fun g0 w0 gen b7 hfr=>?_;have c6:∀ r i,h ⟨gen,r,i⟩=none:=c8 hfr;have m0:Tryz.f120.results.toList=[.cell 2 65]:=rfl;have okF:=bQ3 ⟨Tryz.prog,env,Tryz.f120.ntmps,Tryz.f120,g0,w0,h,.agg t.cells,h⟩
  repeat' (first
   |(refine ⟨?_,?_⟩;focus ((repeat' (first|refine ⟨?_,?_⟩|refine .inr ?_));all_goals kernel_rfl))
   |exact agf as_
   | (first|refine x9 ?_|refine m9 okF follows kr_ ?_|refine s9 ?_|refine u0 ?_|refine F3 ?_|refine z8 ?_|refine D5 ?_|refine r7 ?_|refine B8 (by decide) ?_|refine A6 ?_|refine A5 ?_|refine spt rfl ?_|refine spf rfl ?_|refine cp h1 ?_|refine aN6 follows ?_|refine A9 b7 ?_ ?_ ?_|refine E6 ?_)<;>try simp only [go_sem, *])
 | list l=>intro hz;rw [ac4] at hz;exact cg4 l hz
 | unit =>
  intro hz h;have h1:=aR1 13 [];simp only [List.map_nil] at h1;clear hz;rw [PVl.p9];refine M4 Tryz.func120 rfl kr_ fun g0 w0 gen b7 hfr=>?_;have c6:∀ r i,h ⟨gen,r,i⟩=none:=c8 hfr;have m0:Tryz.f120.results.toList=[.cell 2 65]:=rfl;have okF:=bQ3 ⟨Tryz.prog,env,Tryz.f120.ntmps,Tryz.f120,g0,w0,h,.agg (tm0 13 []).cells,h⟩
  repeat' (first
   |(refine ⟨?_,?_⟩;focus ((repeat' (first|refine ⟨?_,?_⟩|refine .inr ?_));all_goals kernel_rfl))
   |exact agf as_
   | (first|refine x9 ?_|refine m9 okF follows kr_ ?_|refine s9 ?_|refine u0 ?_|refine F3 ?_|refine z8 ?_|refine D5 ?_|refine r7 ?_|refine B8 (by decide) ?_|refine A6 ?_|refine A5 ?_|refine spt rfl ?_|refine spf rfl ?_|refine cp h1 ?_|refine aN6 follows ?_|refine A9 b7 ?_ ?_ ?_|refine E6 ?_)<;>try simp only [go_sem, *])
 | @pair a b x y s t _ _ ih1 ih2 =>
  intro hz h;rw [Q4] at hz;have h1:Pure Tryz.prog env 120 [.agg x.cells] (.agg s.cells):=ih1 om_;have h2:Pure Tryz.prog env 120 [.agg y.cells] (.agg t.cells):=ih2 om_;have h3:=aR1 10 [s,t];simp only [List.map_cons,List.map_nil] at h3;clear ih1 ih2 hz;rw [PVl.p9];simp only [List.map_cons,List.map_nil];refine M4 Tryz.func120 rfl kr_ fun g0 w0 gen b7 hfr=>?_;have c6:∀ r i,h ⟨gen,r,i⟩=none:=c8 hfr;have m0:Tryz.f120.results.toList=[.cell 2 65]:=rfl;have okF:=bQ3 ⟨Tryz.prog,env,Tryz.f120.ntmps,Tryz.f120,g0,w0,h,.agg (tm0 10 [s,t]).cells,h⟩
  repeat' (first
   |(refine ⟨?_,?_⟩;focus ((repeat' (first|refine ⟨?_,?_⟩|refine .inr ?_));all_goals kernel_rfl))
   |exact agf as_
   | (first|refine x9 ?_|refine m9 okF follows kr_ ?_|refine s9 ?_|refine u0 ?_|refine F3 ?_|refine z8 ?_|refine D5 ?_|refine r7 ?_|refine B8 (by decide) ?_|refine A6 ?_|refine A5 ?_|refine spt rfl ?_|refine spf rfl ?_|refine cp h1 ?_|refine cp h2 ?_|refine cp h3 ?_|refine aN6 follows ?_|refine A9 b7 ?_ ?_ ?_|refine E6 ?_)<;>try simp only [go_sem, *])
theorem bK9 {a:Ty} {v:PVl} {t:Tm} (hv:V3 a v t) (hz:m7 t≤4096) (ha:TyG a):Pure Tryz.prog env 73 [.agg v.cells] (.tup [.agg t.cells,.int .i64 0]):=by
 intro h;have h1:=bv6 hv hz ha;have h2:=cf4 hv hz;have h3:=cz9 hv hz;have d1:decide ((m7 t:Int)>4096)=false:=by simp;omega
 clear hz ha hv;generalize m7 t=n at *;exact ek_ Tryz.func73 [.cell 2 65,.tmp 3]
theorem bb3 {g:List Ty} {l:List PVl} {ts:List Tm} (hs:T6 g l ts) (hg:g.length≤16) {f:Fm} (hf:Dc g f) (zf:z6 f≤4096) (lim:Nat) (hl:lim≤65536) :
  Pure Tryz.prog env 44 [.agg f.cells,.sl .any (l.map PVl.cells),.int .i64 lim] (ag3 (ad4 lim f ts)):=by
 intro h;have h1:=am5 f (hf.G (u:=true)).toW;rw [(hf.G (u:=true)).aj7 zf] at h1;obtain ⟨ll,lt⟩:=hs.len;have h2:∀ (i:Nat) (v:PVl),l[i]? = some v→∃ t:Tm,ts[i]? = some t∧Pure Tryz.prog env 73 [.agg v.cells] (.tup [.agg t.cells,.int .i64 0]):=by
  intro i v hv;obtain ⟨a,v',t,_,q2,q3,q4,q5,q6⟩:=hs.at i (by have:=(List.getElem?_eq_some_iff.1 hv).1;omega);rw [hv] at q2;cases q2;exact ⟨t,q3,bK9 q4 q6 q5⟩
 have bd4:∀ (i:Nat) (F:Fm),i<ts.length→Dc (g.take (i+1)) F→z6 F≤4096→∃ t:Tm,ts[i]? = some t∧Pure Tryz.prog env 75 [.agg F.cells,.int .i64 0,.agg t.cells] (Y5 (H3 F t)) ∧
   ((H3 F t).2=0→Dc (g.take i) (H3 F t).1∧z6 (H3 F t).1≤4096):=by
  intro i F hi hF zF;obtain ⟨a,v,t,q1,q2,q3,q4,q5,q6⟩:=hs.at i om_;rw [bT3 q1] at hF;have hlen:(g.take i).length≤16:=by simp;omega
  exact ⟨t,q3,aL2 F (hF.G (u:=true)).toW (hF.G (u:=true)) zF (hF.least (by simp at hlen ⊢;omega)) t q4.G.toW q4.G q6 ((q4.ty q5 []).least _ om_ (by simp;omega)),
   fun h0=>bo4 hF q4 q5 q6 om_ zF h0⟩
 have hT:∀ F:Fm,Dc [] F→z6 F≤4096→Pure Tryz.prog env 76 [.agg F.cells,.int .i64 lim] (ag3 (dA lim F)):=fun F hF zF=>bH1 hF zF lim hl;have hR0:S6 f (ts.take ts.length).reverse=S6 f ts.reverse:=by rw [List.take_length]
 have hfg:Dc (g.take ts.length) f:=by rw [lt,List.take_length];exact hf
 have hvd:ag3 (ad4 lim f ts)=if (S6 f ts.reverse).2 != 0 then .tup [.bool false,.int .i64 0,.int .i64 (S6 f ts.reverse).2] else ag3 (dA lim (S6 f ts.reverse).1):=by
  unfold ad4;cases hz:((S6 f ts.reverse).2 != 0) with
  | true=>simp only [if_true];unfold ag3;rw [if_pos hz]
  | false=>simp only [Bool.false_eq_true,if_false]
 rw [hvd];generalize S6 f ts.reverse=R at *;have hin:∀ S,InV S (if R.2 != 0 then V.tup [.bool false,.int .i64 0,.int .i64 R.2] else ag3 (dA lim R.1)):=by
  intro S;unfold ag3
  repeat' split
  all_goals simp [InV,InL]
 have h5:∀ e∈ts.map Tm.cells,e.length=5:=by
  intro e he;obtain ⟨t,_,rfl⟩:=List.mem_map.1 he;exact Tm.D3 t
 have hbk:=aP3 (c:=.any) (es:=ts.map Tm.cells);have n0:((0:Int) != 0)=false:=rfl;have dm4:l.length≤16:=by omega
 have dj4:l.length≤ts.length∧ts.length≤l.length:=by omega
 clear hvd hf hl ll lt;refine M4 Tryz.func44 rfl kr_ fun g0 w0 gen b7 hfr=>?_;have c6:∀ r i,h ⟨gen,r,i⟩=none:=c8 hfr;have m0:Tryz.f44.results.toList=[.cell 6 4,.cell 7 3,.cell 8 32]:=rfl;have hl0:∀ b,w0.heap.size≤b→g0.lim b=0:=b7.C4;refine ad1 ?_;simp only [ad8,X2,aa4,ai1,ah9,List.append_assoc,List.cons_append,List.nil_append,List.map_cons,List.map_nil,List.append_nil];refine ah1 (J:=fun σ=>σ.tm 2=.int .i64 lim∧σ.tm 3=.ptr ⟨gen,0,0⟩ 0∧σ.tm 6=.ptr ⟨gen,0,1⟩ 0∧σ.tm 7=.ptr ⟨gen,0,2⟩ 0∧σ.tm 8=.ptr ⟨gen,0,3⟩ 0 ∧
  σ.tm 44=.fn (.func 121) [] [.el [.sl .any (ts.map Tm.cells)] 0]∧g9 h σ.h ∧
  σ.h ⟨gen,0,0⟩=some (.box f.cells)∧σ.h ⟨gen,0,1⟩=some (.box [.bool false])∧σ.h ⟨gen,0,2⟩=some (.box [.int .i64 0])∧σ.h ⟨gen,0,3⟩=some (.box [.int .i64 0])) [_,_,_,_,_,_,_,_] kr_ follows ?_ ?_
 ·simp only [List.map_cons,List.map_nil,List.cons_append,List.nil_append]
  clear bd4 hT hin;have hw5:=aD3 ts;refine wq_ ?_;refine ar_ [2,3,6,7,8,24] [⟨gen,0,0⟩,⟨gen,0,1⟩,⟨gen,0,2⟩,⟨gen,0,3⟩] (fun i σ=>g9 h σ.h∧T7 h σ.h (σ.tm 10) 5 ((ts.take i).map Tm.cells)) (l).length ?_ ?_ ?_
  ·simp only [go_sem, *]
   exact ⟨ag_,.inl rfl⟩
  ·
   intro i σ gr0 l6 hgn hlt jI jN jS ⟨jA,j10⟩;obtain ⟨jT,jB⟩:=jS;simp only [go_sem] at jT jB;obtain ⟨hgf,m6,n7,n8⟩:=rnd hgn l6 jA;obtain ⟨x,hx,hxm,hm⟩:=rnx hlt;clear hgn;obtain ⟨t,ht,hc⟩:=h2 i x hx;have hse:(ts.take (i+1)).map Tm.cells=(ts.take i).map Tm.cells++[t.cells]:=by rw [List.take_add_one,ht];simp
   have hel:((ts.take i).map Tm.cells).length=i:=by
    have:=(List.getElem?_eq_some_iff.1 ht).1;simp;omega
   have hal:((ts.take i).map Tm.cells).all (fun e=>e.length==5)=true:=by
    rw [List.all_eq_true];intro e he;obtain ⟨y,_,rfl⟩:=List.mem_map.1 he;simp [Tm.D3]
   generalize (ts.take i).map Tm.cells=es at *;clear h2
   repeat' (first
    |(refine ⟨?_,?_⟩;focus ((repeat' (first|refine ⟨?_,?_⟩|refine .inr ?_));all_goals kernel_rfl))
    |(refine U6 j10 kp_ rfl so_ fr_ sg_ (by intro hd;cases hd) ?_;intro v' h' log' jO jK jAg jAb jF;simp only [go_sem, *])
    | (first|refine wp rfl ?_|refine spt rfl ?_|refine spf rfl ?_|(refine spl (fun hc=>?_) fun hc=>?_)<;>(try rw [beq_iff_eq] at hc)<;>try simp only [hc]|(refine gs (fun hb=>?_) fun hb=>?_)<;>try simp only [Bool.not_true,Bool.not_false] at hb|refine cp hc ?_|refine u7 ?_)<;>try simp only [go_sem, *])
   exact jAg (by repeat (first|exact jA|refine g9.new ?_ (m6 _ _)))
  ·
   intro σ ga0 l9 hgn jS ⟨jA,j10⟩;obtain ⟨jT,jB⟩:=jS;simp only [go_sem] at jT jB;obtain ⟨hgf,m6,n9,o0⟩:=rnd hgn l9 jA;clear hgn;rw [show l.length=ts.length by omega,List.take_length] at j10;obtain ⟨cO,j10⟩:=j10.val;clear h2
   repeat' (first
    |(refine ⟨?_,?_⟩;focus ((repeat' (first|refine ⟨?_,?_⟩|refine .inr ?_));all_goals kernel_rfl))
    | (first|refine wp rfl ?_|refine spt rfl ?_|refine spf rfl ?_|(refine spl (fun hc=>?_) fun hc=>?_)<;>(try rw [beq_iff_eq] at hc)<;>try simp only [hc]|(refine gs (fun hb=>?_) fun hb=>?_)<;>try simp only [Bool.not_true,Bool.not_false] at hb|refine cp aP3 ?_|refine u7 ?_)<;>try simp only [go_sem, *])
 ·rintro σ ⟨j2,j3,j6,j7,j8,j44,jA,jb0,jb1,jb2,jb3⟩
  clear h1 h2 hbk;refine u0 ?_;refine cb3 (vs:=ts.map Tm.cells) cf6 j44 h5 (by simp;omega) (of_decide_eq_true kr_) (of_decide_eq_true kr_)
   (fun i hi=>g9 h hi∧hi ⟨gen,0,1⟩=some (.box [.bool false])∧hi ⟨gen,0,2⟩=some (.box [.int .i64 0])∧hi ⟨gen,0,3⟩=some (.box [.int .i64 0]) ∧
    ∃ F:Fm,hi ⟨gen,0,0⟩=some (.box F.cells)∧Dc (g.take i) F∧z6 F≤4096∧S6 F (ts.take i).reverse=R)
   (fun id hi=>id=none∧g9 h hi∧(R.2 != 0)=true∧hi ⟨gen,0,1⟩=some (.box [.bool false])∧hi ⟨gen,0,2⟩=some (.box [.int .i64 0])∧hi ⟨gen,0,3⟩=some (.box [.int .i64 R.2])) ?_ ?_ ?_ ?_
  ·rw [List.length_map]
   exact ⟨jA,jb1,jb2,jb3,f,jb0,hfg,zf,hR0⟩
  ·
   intro xa xb gr i v hi oka okb hgr hlt hv ⟨jA,jb1,jb2,jb3,F,jb0,hF,zF,hR⟩ mid fin finx;rw [List.length_map] at hlt;obtain ⟨t,ht,hP,hok⟩:=bd4 i F hlt hF zF;rw [bu1 ht] at hR;rw [List.getElem?_map,ht] at hv;cases hv;unfold Y5 at hP;clear bd4 hT hin hF zF;refine ac8 (fun gm hgm=>?_);have hgf:∀ r i,hi ⟨gm,r,i⟩=none:=c8 hgm;have m6:=fun r i=>s7 jA (hgf r i);have hg1:gen<gm:=hgm ⟨gen,0,0⟩ (by simp [jb0]);have e1:=s8 hg1;have e2:=o9 hg1;clear hgm;refine m9 oka follows kr_ ?_;simp only [go_sem, *];refine mid _ _ ?_;clear mid;rw [S6] at hR;cases hz:((H3 F t).2 != 0) with
   | true =>
    rw [hz] at hR;simp only [if_true] at hR;subst hR;clear hok fin;replace finx:=fun gn' σ' hh=>finx gn' none σ' ⟨rfl,hh⟩;simp only [ae4] at finx;generalize (H3 F t).1=F1 at *;generalize (H3 F t).2=e at *
    repeat' (first
     |(refine ⟨?_,?_⟩;focus ((repeat' (first|refine ⟨?_,?_⟩|refine .inr ?_));all_goals kernel_rfl))
     |exact agf as_
     | (first|refine x9 ?_|refine m9 okb follows kr_ ?_|refine s9 ?_|refine u0 ?_|refine F3 ?_|refine z8 ?_|refine D5 ?_|refine r7 ?_|refine B8 (by decide) ?_|refine A6 ?_|refine A5 ?_|refine spt rfl ?_|refine spf rfl ?_|refine cp hP ?_)<;>try simp only [go_sem, *])
    simp only [hz,if_true] at finx;exact E6 (finx _ _ ⟨by repeat (first|exact jA|refine g9.new ?_ (m6 _ _)|refine g9.new ?_ (c6 _ _)),trivial,sg_,sg_,sg_⟩)
   | false =>
    rw [hz] at hR;simp only [Bool.false_eq_true,if_false] at hR;obtain ⟨q1,q2⟩:=hok (by simpa using hz);have hz0:(H3 F t).2=0:=by simpa using hz
    rw [hz0] at hP;clear hok finx hz hz0;generalize (H3 F t).1=F1 at *
    repeat' (first
     |(refine ⟨?_,?_⟩;focus ((repeat' (first|refine ⟨?_,?_⟩|refine .inr ?_));all_goals kernel_rfl))
     |exact agf as_
     | (first|refine x9 ?_|refine m9 okb follows kr_ ?_|refine s9 ?_|refine u0 ?_|refine F3 ?_|refine z8 ?_|refine D5 ?_|refine r7 ?_|refine B8 (by decide) ?_|refine A6 ?_|refine A5 ?_|refine spt rfl ?_|refine spf rfl ?_|refine cp hP ?_)<;>try simp only [go_sem, *])
    exact fin _ _ ⟨by repeat (first|exact jA|refine g9.new ?_ (m6 _ _)|refine g9.new ?_ (c6 _ _)),sg_,sg_,sg_,F1,sg_,q1,q2,hR⟩
  ·rintro D h' ⟨jA,jb1,jb2,jb3,F,jb0,hF,zF,hR⟩
   have hFT:=hT F (by simpa using hF) zF;simp only [List.take_zero,List.reverse_nil,S6] at hR;clear hR0 hin hfg bd4 hT hF zF;subst hR;have n0:((0:Int) != 0)=false:=rfl;simp only [n0,Bool.false_eq_true,if_false];have okD:=bi6 ⟨Tryz.prog,env,Tryz.f44.ntmps,Tryz.f44,g0,w0,h,ag3 (dA lim F),h⟩ D;unfold ag3 at *;generalize dA lim F=a at *;obtain ⟨b,w',e⟩:=a;simp only at *;cases he:(e != 0) with
   | true =>
    simp only [he,if_true] at *
    repeat' (first
     |(refine ⟨?_,?_⟩;focus ((repeat' (first|refine ⟨?_,?_⟩|refine .inr ?_));all_goals kernel_rfl))
     |exact agf as_
     | (first|refine x9 ?_|refine m9 okD follows kr_ ?_|refine s9 ?_|refine u0 ?_|refine F3 ?_|refine z8 ?_|refine D5 ?_|refine r7 ?_|refine B8 (by decide) ?_|refine A6 ?_|refine A5 ?_|refine spt rfl ?_|refine spf rfl ?_|refine cp hFT ?_|refine ab3 follows hl0 ?_|refine A9 b7 ?_ ?_ ?_|refine E6 ?_)<;>try simp only [go_sem, *])
   | false =>
    simp only [he,Bool.false_eq_true,if_false] at *
    repeat' (first
     |(refine ⟨?_,?_⟩;focus ((repeat' (first|refine ⟨?_,?_⟩|refine .inr ?_));all_goals kernel_rfl))
     |exact agf as_
     | (first|refine x9 ?_|refine m9 okD follows kr_ ?_|refine s9 ?_|refine u0 ?_|refine F3 ?_|refine z8 ?_|refine D5 ?_|refine r7 ?_|refine B8 (by decide) ?_|refine A6 ?_|refine A5 ?_|refine spt rfl ?_|refine spf rfl ?_|refine cp hFT ?_|refine ab3 follows hl0 ?_|refine A9 b7 ?_ ?_ ?_|refine E6 ?_)<;>try simp only [go_sem, *])
  ·rintro D id' h' ⟨rfl,jA,hz,jb1,jb2,jb3⟩
   simp only [ae4];rw [if_pos hz];have okD:=bi6 ⟨Tryz.prog,env,Tryz.f44.ntmps,Tryz.f44,g0,w0,h,.tup [.bool false,.int .i64 0,.int .i64 R.2],h⟩ D;clear bd4 hT hin hz hR0 hfg;generalize R.2=e at *
   repeat' (first
    |(refine ⟨?_,?_⟩;focus ((repeat' (first|refine ⟨?_,?_⟩|refine .inr ?_));all_goals kernel_rfl))
    |exact agf as_
    | (first|refine x9 ?_|refine m9 okD follows kr_ ?_|refine s9 ?_|refine u0 ?_|refine F3 ?_|refine z8 ?_|refine D5 ?_|refine r7 ?_|refine B8 (by decide) ?_|refine A6 ?_|refine A5 ?_|refine spt rfl ?_|refine spf rfl ?_|refine ab3 follows hl0 ?_|refine A9 b7 ?_ ?_ ?_|refine E6 ?_)<;>try simp only [go_sem, *])
end Go.Proofs.YteaijonkbbkkjaaGreatDoor
