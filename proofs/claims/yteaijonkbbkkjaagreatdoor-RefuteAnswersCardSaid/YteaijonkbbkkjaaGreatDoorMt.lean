/-
 Walks: several parts in one text.
-/
import Derived.Test.YteaijonkbbkkjaaGreatDoorMe
import Derived.Test.YteaijonkbbkkjaaGreatDoorMf
import Derived.Test.YteaijonkbbkkjaaGreatDoorOd
import Derived.BigRegionIn
set_option linter.unusedSimpArgs false
set_option linter.unusedVariables false
set_option maxRecDepth 100000
set_option maxHeartbeats 4000000
set_option maxRecDepth 20000
namespace Go.Proofs.YteaijonkbbkkjaaGreatDoor
open Go GoAbs Go.Proofs
open Go.RowKit Go.Shelf
theorem ck9 (l pb po cap:Nat) (a:Option Addr) (K:Nat→World→Prop) (Kx:World→Prop)
  (hal:∀ i W o,K i W→K i (W.alloc o)) (hdr:∀ i W,K i W→K i W.drew)
  (hr:∀ i W,K i W→W.cell? ⟨pb,po,none⟩=some (.int .i64 1)∧W.cell? ⟨pb,po+1,none⟩=some (.slice a 0 cap))
  (hY:∀ W,K 1 W→YieldAt Fence.wide (0 - 1) Tryz.prog l #[.agg #[.int .i64 1,.slice a 0 cap]] W fun e W'=>(e=.returned (.bool true)∧K 0 W')∨(e=.returned (.bool false)∧Kx W'))
  (W:World) (h0:K 1 W) :
  CallsIn Fence.wide 0 Tryz.prog 156 #[.func (.yield l) #[] #[],.pointer (some ⟨pb,po,none⟩)] W fun e W'=>(∃ v,e=.returned v)∧(K 0 W'∨Kx W'):=by
 refine callsIn_of_wp Tryz.func156 rfl trivial ?_ rfl;simp only [Tryz.ntmps156,List.size_toArray,List.length_cons,List.length_nil,Nat.reduceAdd,Nat.reduceSub,Array.replicate_succ,Array.replicate_zero,List.push_toArray,List.append_toArray,List.nil_append,List.cons_append];obtain ⟨c0,c1⟩:=hr _ _ h0
 gi_wp2
 gi_loopw [3] (fun s wr=>(s=.slice (some ⟨W.heap.size,0,none⟩) 1 1∧K 1 wr∧wr.cell? ⟨W.heap.size,0,none⟩=some (.int .i64 1)∧wr.cell? ⟨W.heap.size,1,none⟩=some (.slice a 0 cap)) ∨
  (s=.slice (some ⟨W.heap.size,0,none⟩) 0 1∧K 0 wr)) (fun s _=>match s with | .slice _ n _=>n|_=>0)
 case atStart=>exact .inl ⟨rfl,hal _ _ _ h0,by simp [World.cell?_alloc_new],by simp [World.cell?_alloc_new]⟩
 case round =>
  rcases hrel with ⟨rfl,hJs,d0,d1⟩|⟨rfl,hJs⟩
  ·cases a with
   | none =>
    gi_wp2
    gi_region
    obtain ⟨fn,tmps,assign,body,hy,hR⟩:=hY _ (hdr _ _ (hal _ wr (.cells #[.int .i64 1,.slice none 0 cap] 27) hJs))
    gi_wp2
    refine ⟨rfl,hR.mono ?_⟩;rintro e W3 (⟨rfl,hJ3⟩|⟨rfl,hJx3⟩)
    ·gi_wp2
     go_roundw
     case rel=>exact .inr ⟨rfl,hJ3⟩
     case measure=>simp
    ·gi_wp2
     refine bodyPost_ret (results_none rfl _ _ _) rfl ?_;exact ⟨⟨_,rfl⟩,.inr hJx3⟩
   | some ad =>
    gi_wp2
    gi_region
    obtain ⟨fn,tmps,assign,body,hy,hR⟩:=hY _ (hdr _ _ (hal _ wr (.cells #[.int .i64 1,.slice (some ad) 0 cap] 27) hJs))
    gi_wp2
    refine ⟨rfl,hR.mono ?_⟩;rintro e W3 (⟨rfl,hJ3⟩|⟨rfl,hJx3⟩)
    ·gi_wp2
     go_roundw
     case rel=>exact .inr ⟨rfl,hJ3⟩
     case measure=>simp
    ·gi_wp2
     refine bodyPost_ret (results_none rfl _ _ _) rfl ?_;exact ⟨⟨_,rfl⟩,.inr hJx3⟩
  ·gi_wp2
   go_end0
   exact ⟨⟨_,rfl⟩,.inl hJs⟩
theorem cA5:cm0 Tryz.prog 156 where
 call:=⟨_,Tryz.func156,rfl,by kernel_rfl⟩
 go:=fun l pb po a cap K Kx hal hdr hr hY W h0=>ck9 l pb po cap a K Kx hal hdr hr hY W h0
theorem cc8:Pure Tryz.prog env 102 [.agg r5.cells] (.fn (.func 156) [] [.el [.int .i64 1,.sl .any []] 0]):=by
 refine bq4 (ty:=27) ⟨_,Tryz.func102,rfl,by kernel_rfl⟩ (cs:=[.int .i64 1,.sl .any []]) fun vs hvs w=>callsIn_wide.1 (?_:CallsIn Fence.wide 0 _ _ _ _ _);obtain ⟨x,y,rfl⟩:∃ x y,vs=#[x,y]:=by
  refine ⟨vs[0]'(by rw [hvs];simp),vs[1]'(by rw [hvs];simp),?_⟩;apply Array.ext
  ·simpa using hvs
  ·intro i h1 h2
   match i with
   | 0=>rfl
   | 1=>rfl
   | i+2=>exact absurd h2 sp_
 refine callsIn_of_wp (n:=0) Tryz.func102 rfl trivial ?_ rfl;simp only [Tryz.ntmps102,List.size_toArray,List.length_cons,List.length_nil,Nat.reduceAdd,Nat.reduceSub,Array.replicate_succ,Array.replicate_zero,List.push_toArray,List.append_toArray,List.nil_append,List.cons_append]
 gi_wp2
 go_ret
 exact ⟨rfl,rfl⟩
theorem cS9:Pure Tryz.prog env 59 [.agg r5.cells] (.tup [.bool true,.int .i64 0]):=by
 intro h;have hc:=al8 r5 TyG.nat.1.W;rw [TyG.nat.err] at hc;have hn:=cc8;have ec:r5.cells=[.int .i64 1,.sl .any []]:=by rw [Q2];rfl
 rw [ec] at hc hn ⊢;have n0:((0:Int) != 0)=false:=rfl;clear ec;refine M4 Tryz.func59 rfl kr_ fun g0 w0 gen b7 hfr=>?_;have c6:∀ r i,h ⟨gen,r,i⟩=none:=c8 hfr;have m0:Tryz.f59.results.toList=[.cell 2 4,.cell 3 32]:=rfl;have hl0:∀ b,w0.heap.size≤b→g0.lim b=0:=b7.C4;refine ad1 ?_;simp only [ad8,X2,aa4,ai1,ah9,List.append_assoc,List.cons_append,List.nil_append,List.map_cons,List.map_nil,List.append_nil];refine ah1 (J:=fun σ=>σ.tm 2=.ptr ⟨gen,0,1⟩ 0∧σ.tm 3=.ptr ⟨gen,0,2⟩ 0∧σ.tm 12=.fn (.func 156) [] [.el [.int .i64 1,.sl .any []] 0]∧g9 h σ.h ∧
  σ.h ⟨gen,0,1⟩=some (.box [.bool false])∧σ.h ⟨gen,0,2⟩=some (.box [.int .i64 0])) [_,_,_,_,_] kr_ follows ?_ ?_
 ·simp only [List.map_cons,List.map_nil,List.cons_append,List.nil_append]
  refine wq_ ?_;exact ag_
 ·rintro σ ⟨j2,j3,j12,jA,jb1,jb2⟩
  refine u0 ?_;refine cg7 cA5 j12 (of_decide_eq_true kr_)
   (fun i hi=>g9 h hi∧hi ⟨gen,0,1⟩=some (.box [.bool false])∧hi ⟨gen,0,2⟩=some (.box [.int .i64 0])) (fun _ _=>False) ⟨jA,jb1,jb2⟩ ?_ ?_ (fun _ _ _ h=>h.elim)
  ·intro xa xb gr hi oka okb hgr ⟨jA,jb1,jb2⟩ mid fin _
   refine ac8 (fun gm hgm=>?_);have hgf:∀ r i,hi ⟨gm,r,i⟩=none:=c8 hgm;have m6:=fun r i=>s7 jA (hgf r i);have hg1:gen<gm:=hgm ⟨gen,0,1⟩ (by simp [jb1]);have e1:=s8 hg1;have e2:=o9 hg1;clear hgm;refine m9 oka follows kr_ ?_;simp only [go_sem, *];refine mid _ _ ?_;clear mid
   repeat' (first
    |(refine ⟨?_,?_⟩;focus ((repeat' (first|refine ⟨?_,?_⟩|refine .inr ?_));all_goals kernel_rfl))
    | (first|refine x9 ?_|refine m9 okb follows kr_ ?_|refine s9 ?_|refine u0 ?_|refine F3 ?_|refine z8 ?_|refine D5 ?_|refine r7 ?_|refine B8 (by decide) ?_|refine A6 ?_|refine A5 ?_|refine spt rfl ?_|refine spf rfl ?_)<;>try simp only [go_sem, *])
   exact fin _ _ ⟨by repeat (first|exact jA|refine g9.new ?_ (m6 _ _)),sg_,sg_⟩
  ·rintro D h' ⟨jA,jb1,jb2⟩
   have okD:=bi6 ⟨Tryz.prog,env,Tryz.f59.ntmps,Tryz.f59,g0,w0,h,.tup [.bool true,.int .i64 0],h⟩ D
   repeat' (first
    |(refine ⟨?_,?_⟩;focus ((repeat' (first|refine ⟨?_,?_⟩|refine .inr ?_));all_goals kernel_rfl))
    |exact agf as_
    | (first|refine x9 ?_|refine m9 okD follows kr_ ?_|refine s9 ?_|refine u0 ?_|refine F3 ?_|refine z8 ?_|refine D5 ?_|refine r7 ?_|refine B8 (by decide) ?_|refine A6 ?_|refine A5 ?_|refine spt rfl ?_|refine spf rfl ?_|refine ab3 follows hl0 ?_|refine A9 b7 ?_ ?_ ?_)<;>try simp only [go_sem, *])
def aL6 (n:Nat):List V:=[.int .i64 1,.int .i64 n,.sl .any [],.sl .any []]
def bO4:List V:=[.int .i64 0,.int .i64 0,.sl .any [],.sl .any []]
theorem bI5 (n:Nat):Pure Tryz.prog env 265 [af5 n] (.agg (aL6 n)):=by
 intro h;unfold af5 aL6;exact ek_ Tryz.func265 [.cell 2 36]
theorem cP3 {most f u':Nat} {t:Tm} {r:Res} {o:Bool} (hm:most≤65536) (h:ev most f 0 t []=some (r,u',o)) (ht:TmW t) (hty:w7 TyG [] t r5) (d:GoAbs.Id) :
  R4 d most 0 u' o t .T9 (af5 r.num)∧(o=false→r=am7 r.num):=by
 obtain ⟨v,h1,h2⟩:=cJ3 hm f d 0 0 t [] .T9 [] r5 r u' o h (Nat.le_refl _) om_ ht sp_ sp_ hty .nil;cases o with
 | true=>exact ⟨h1,fun e=>by cases e⟩
 | false =>
  have:=h2 rfl;cases this with
  | num=>exact ⟨h1,fun _=>rfl⟩
def aN0 (x:Nat × Nat × Bool):V:=if x.2.2 then .tup [.agg bO4,.int .i64 0,.int .i64 5] else .tup [.agg (aL6 x.1),.int .i64 x.2.1,.int .i64 0]
theorem bG8 {most f u':Nat} {t:Tm} {r:Res} {o:Bool} (hm:most≤65536) (hev:ev most f 0 t []=some (r,u',o)) (ht:TmW t) (hty:w7 TyG [] t r5) (he:Z2 t=0) (hb:m7 t≤1000000) :
  Pure Tryz.prog env 260 [.agg t.cells,.sl .any [],.int .i64 most] (aN0 (r.num,u',o)):=by
 intro h;have h1:=bd8 t r5 hty ht he hb;have h2:=cS9;have hT:=fun d=>(cP3 hm hev ht hty d).1;have h4:=bI5 r.num;have h3:∀ (d:GoAbs.Id) (v:V),IsI v→D1 Tryz.prog env 264 [.ptr d 0,v,.sl .any []] d (mb u' most) (evR false v) (mb u' most):=fun d v hv=>an9 (l:=[]) .nil sp_ (fun _=>hv) hv;have h5:∀ d,D1 Tryz.prog env 264 [.ptr d 0,af5 r.num,.sl .any []] d (mb u' most) (evR false (af5 r.num)) (mb u' most):=fun d=>h3 d _ (bu6 _);have ec:r5.cells=[.int .i64 1,.sl .any []]:=by rw [Q2];rfl
 rw [ec] at h1 h2;have d1:decide ((most:Int)<0)=false:=by simp
 have d2:decide ((most:Int)>65536)=false:=by simp;omega
 have n0:((0:Int) != 0)=false:=rfl;clear hm hev ht hty he hb h3 ec;unfold R4 at hT;unfold aN0;unfold evR mb at *;unfold R5 at *;simp only [show ((0:Nat):Int)=0 from rfl] at hT;simp only [Bool.false_eq_true,if_false,Bool.not_false] at h5;cases o with
 | true =>
  simp only [if_true,Bool.not_true] at hT ⊢;unfold bO4 af5 at *;refine en_ Tryz.func260 [.cell 6 36,.tmp 7,.tmp 8] fun g0 w0 gen b7 hfr c6 m0=>?_;refine wq_ ?_;refine ar_ [2,3,6,9,30] [⟨gen,0,0⟩,⟨gen,0,1⟩] (fun i σ=>g9 h σ.h∧σ.h ⟨gen,1,5⟩=some (.box [.int .i64 1,.sl .any []])∧σ.tm 11=.sl .full []) (([]:List Int)).length ?_ ?_ ?_
  ·simp only [go_sem, *]
   exact ag_
  ·
   intro i σ gr0 l6 hgn hlt jI jN jS ⟨jA,jb,jt⟩;obtain ⟨jT,jB⟩:=jS;simp only [go_sem] at jT jB;obtain ⟨hgf,m6,n7,n8⟩:=rnd hgn l6 jA;obtain ⟨x,hx,hxm,hm⟩:=rnx hlt;clear hgn;exact absurd hlt sp_
  ·
   intro σ ga0 l9 hgn jS ⟨jA,jb,jt⟩;obtain ⟨jT,jB⟩:=jS;simp only [go_sem] at jT jB;obtain ⟨hgf,m6,n9,o0⟩:=rnd hgn l9 jA;clear hgn
   repeat' (first
    |(refine ⟨?_,?_⟩;focus ((repeat' (first|refine ⟨?_,?_⟩|refine .inr ?_));all_goals kernel_rfl))
    |exact hin _|exact agf as_
    | (first|refine wp rfl ?_|refine spt rfl ?_|refine spf rfl ?_|(refine spl (fun hc=>?_) fun hc=>?_)<;>(try rw [beq_iff_eq] at hc)<;>try simp only [hc]|(refine gs (fun hb=>?_) fun hb=>?_)<;>try simp only [Bool.not_true,Bool.not_false] at hb|refine cp h2 ?_|(refine ct (hT _) ?_ ?_;focus ((simp only [go_sem, *]<;>rfl);done))|refine A9 b7 ?_ ?_ ?_)<;>try simp only [go_sem, *])
 | false =>
  simp only [Bool.false_eq_true,if_false,Bool.not_false] at hT ⊢;unfold aL6 af5 at *;refine en_ Tryz.func260 [.cell 6 36,.tmp 7,.tmp 8] fun g0 w0 gen b7 hfr c6 m0=>?_;refine wq_ ?_;refine ar_ [2,3,6,9,30] [⟨gen,0,0⟩,⟨gen,0,1⟩] (fun i σ=>g9 h σ.h∧σ.h ⟨gen,1,5⟩=some (.box [.int .i64 1,.sl .any []])∧σ.tm 11=.sl .full []) (([]:List Int)).length ?_ ?_ ?_
  ·simp only [go_sem, *]
   exact ag_
  ·
   intro i σ gr0 l6 hgn hlt jI jN jS ⟨jA,jb,jt⟩;obtain ⟨jT,jB⟩:=jS;simp only [go_sem] at jT jB;obtain ⟨hgf,m6,n7,n8⟩:=rnd hgn l6 jA;obtain ⟨x,hx,hxm,hm⟩:=rnx hlt;clear hgn;exact absurd hlt sp_
  ·
   intro σ ga0 l9 hgn jS ⟨jA,jb,jt⟩;obtain ⟨jT,jB⟩:=jS;simp only [go_sem] at jT jB;obtain ⟨hgf,m6,n9,o0⟩:=rnd hgn l9 jA;clear hgn
   repeat' (first
    |(refine ⟨?_,?_⟩;focus ((repeat' (first|refine ⟨?_,?_⟩|refine .inr ?_));all_goals kernel_rfl))
    |exact hin _|exact agf as_
    | (first|refine wp rfl ?_|refine spt rfl ?_|refine spf rfl ?_|(refine spl (fun hc=>?_) fun hc=>?_)<;>(try rw [beq_iff_eq] at hc)<;>try simp only [hc]|(refine gs (fun hb=>?_) fun hb=>?_)<;>try simp only [Bool.not_true,Bool.not_false] at hb|refine cp h2 ?_|(refine ct (hT _) ?_ ?_;focus ((simp only [go_sem, *]<;>rfl);done))|(refine ct (h5 _) ?_ ?_;focus ((simp only [go_sem, *]<;>rfl);done))|refine cp h4 ?_|refine A9 b7 ?_ ?_ ?_)<;>try simp only [go_sem, *])
theorem bC4 {most f u':Nat} {t:Tm} {r:Res} {o:Bool} (hm:most≤65536) (hev:ev most f 0 t []=some (r,u',o)) (ht:TmW t) (hty:w7 TyG [] t r5) (he:Z2 t=0) (hb:m7 t≤1000000) :
  Pure Tryz.prog env 259 [.agg t.cells,.int .i64 most] (aN0 (r.num,u',o)):=by
 intro h;have h1:=bG8 hm hev ht hty he hb;clear hm hev ht hty he hb;unfold aN0 aL6 bO4 at *;cases o with
 | true =>
  simp only [if_true] at h1 ⊢;exact ek_ Tryz.func259 [.cell 4 36,.tmp 5,.tmp 6]
 | false =>
  simp only [Bool.false_eq_true,if_false] at h1 ⊢;exact ek_ Tryz.func259 [.cell 4 36,.tmp 5,.tmp 6]
end Go.Proofs.YteaijonkbbkkjaaGreatDoor
