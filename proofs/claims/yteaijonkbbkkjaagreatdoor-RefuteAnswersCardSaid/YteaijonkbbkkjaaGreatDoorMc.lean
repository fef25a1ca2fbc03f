/-
 Walks: several parts in one text.
-/
import Derived.Test.YteaijonkbbkkjaaGreatDoorMa
import Derived.Test.YteaijonkbbkkjaaGreatDoorAbsC
set_option linter.unusedSimpArgs false
set_option linter.unusedVariables false
set_option maxRecDepth 20000
set_option maxHeartbeats 4000000
namespace Go.Proofs.YteaijonkbbkkjaaGreatDoor
open Go GoAbs Go.Proofs
theorem aC2 (n:Nat) (hn:n≤1000000):Pure Tryz.prog env 100 [.int .i64 n] (.agg (C5 n).cells):=by
 intro h;have h1:=c_N 4 [] sp_ sp_;simp only [List.map_nil] at h1;refine en_ Tryz.func100 [.cell 2 65] fun g0 w0 gen b7 hfr c6 m0=>?_;refine wq_ ?_;refine B1 (fun i σ=>σ.tm 0=.int .i64 ((n - i:Nat):Int)∧σ.tm 2=.ptr ⟨gen,0,0⟩ 0∧σ.tm 3=.ptr ⟨gen,1,1⟩ 0 ∧
  σ.h ⟨gen,0,0⟩=some (.box [.int .i64 0,.int .i64 0,.int .i64 0,.sl .full [],.sl .full []])∧σ.h ⟨gen,1,1⟩=some (.box (C5 i).cells)∧g9 h σ.h) n ?_ ?_
 ·simp only [go_sem, *]
  exact ⟨sp_,rfl,by repeat (first|exact g9.refl _|refine g9.new ?_ (c6 _ _))⟩
 intro i σ hi ⟨j1,j2,j3,j4,j5,j6⟩;have hN:C5 (i+1)=tm0 5 [C5 i]:=rfl;rcases Nat.lt_or_ge i n with hlt|hge
 ·have hd:decide (((n - i:Nat):Int)>0)=true:=by simp;omega
  have hw:IntKind.i64.wrap (((n - i:Nat):Int) - 1)=((n - (i+1):Nat):Int):=w8 om_ om_ om_;rw [tm0] at hN
  repeat' (first
   | (first|refine wp rfl ?_|refine spt rfl ?_|refine spf rfl ?_|(refine spl (fun hc=>?_) fun hc=>?_)<;>(try rw [beq_iff_eq] at hc)<;>try simp only [hc])<;>try simp only [go_sem, *])
  refine ai3 ⟨gen,1,1⟩ (by simp only [go_sem, *];rfl) ?_;simp only [go_sem, *];refine u7 ?_;simp only [go_sem, *];exact ⟨by rw [Tm.p9];rfl,by repeat (first|assumption|refine g9.new ?_ (c6 _ _))⟩
 ·have hd:decide (((n - i:Nat):Int)>0)=false:=by simp;omega
  obtain rfl:i=n:=by omega
  exact wk_
theorem ck0 (n:Nat) (hn:n≤1000):Pure Tryz.prog env 57 [.int .i64 n] (.tup [.agg (C5 n).cells,.int .i64 0]):=by
 intro h;have h1:=aC2 n om_;have d1:decide ((n:Int)<0)=false:=by simp
 have d2:decide ((n:Int)≥4096)=false:=by simp;omega
 exact ek_ Tryz.func57 [.cell 2 65,.tmp 3]
theorem bU6 (n:Nat) (hn:n≤1000):Pure Tryz.prog env 29 [.int .i64 n] (.agg (C5 n).cells):=by
 intro h;have h1:=ck0 n hn;exact ek_ Tryz.func29 [.cell 2 65]
theorem cJ9 (f:Tm) (l:List Tm) (hf:TmW f) (hl:l.length≤1000) (hw:∀ x∈l,TmW x) :
  Pure Tryz.prog env 113 [.agg f.cells,.sl .any (l.map Tm.cells)] (.agg (ap5 f l).cells):=by
 intro h;have hin:∀ S,InV S (.agg (ap5 f l).cells):=fun S=>by simp [InV,aw0]
 generalize hv:V.agg (ap5 f l).cells=v at hin ⊢;refine en_ Tryz.func113 [.cell 4 65] fun g0 w0 gen b7 hfr c6 m0=>?_;refine wq_ ?_;refine ar_ [2,4,7] [⟨gen,0,1⟩] (fun i σ=>g9 h σ.h∧∃ f':Tm,TmW f'∧σ.h ⟨gen,0,0⟩=some (.box f'.cells)∧V.agg (ap5 f' (l.drop i)).cells=v) (l).length ?_ ?_ ?_
 ·simp only [go_sem, *]
  exact ⟨by repeat (first|exact g9.refl _|refine g9.new ?_ (c6 _ _)),f,hf,rfl,hv⟩
 ·
  intro i σ gr0 l6 hgn hlt jI jN jS ⟨jA,f',hf',jf,jv⟩;obtain ⟨jT,jB⟩:=jS;simp only [go_sem] at jT jB;obtain ⟨hgf,m6,n7,n8⟩:=rnd hgn l6 jA;obtain ⟨x,hx,hxm,hm⟩:=rnx hlt;clear hgn;rw [A2 hx,av9] at jv;have hc:=c_N 3 [f',x] sp_ (by simp [hf',hw x hxm]);simp only [List.map_cons,List.map_nil] at hc;have hwx:=hw x hxm;clear hw;refine wq_ ?_;exact ⟨by repeat (first|assumption|refine g9.new ?_ (m6 _ _)|refine g9.new ?_ (c6 _ _)),_,aR9 sp_ (by simp [hf',hwx]),rfl,jv⟩
 ·
  intro σ ga0 l9 hgn jS ⟨jA,f',hf',jf,jv⟩;obtain ⟨jT,jB⟩:=jS;simp only [go_sem] at jT jB;obtain ⟨hgf,m6,n9,o0⟩:=rnd hgn l9 jA;clear hgn;rw [List.drop_length,aD4] at jv;subst jv;exact wk_
theorem cN9 (g:List Ty) (t:Ty) (hg:g.length≤1000) (hw:∀ x∈g,TyW x) (ht:TyW t) :
  Pure Tryz.prog env 109 [.sl .any (g.map Ty.cells),.agg t.cells] (.sl .any (ints (aB3 g t g.length))):=by
 intro h;refine en_ Tryz.func109 [.tmp 4] fun g0 w0 gen b7 hfr c6 m0=>?_
 repeat' (first
  |(refine ⟨?_,?_⟩;focus ((repeat' (first|refine ⟨?_,?_⟩|refine .inr ?_));all_goals kernel_rfl))
  |exact hin _|exact agf as_
  | (first|refine wp rfl ?_|refine spt rfl ?_|refine spf rfl ?_|(refine spl (fun hc=>?_) fun hc=>?_)<;>(try rw [beq_iff_eq] at hc)<;>try simp only [hc]|refine A9 b7 ?_ ?_ ?_)<;>try simp only [go_sem, *])
 refine ar_ [0,3,4] [⟨gen,0,0⟩] (fun i σ=>g9 h σ.h∧T7 h σ.h (σ.tm 5) 1 (ints (aB3 g t i))) (g).length ?_ ?_ ?_
 ·simp only [go_sem, *]
  exact ⟨by repeat (first|exact g9.refl _|refine g9.new ?_ (c6 _ _)),.inl rfl⟩
 ·
  intro i σ gr0 l6 hgn hlt jI jN jS ⟨jA,jO0⟩;obtain ⟨jT,jB⟩:=jS;simp only [go_sem] at jT jB;obtain ⟨hgf,m6,n7,n8⟩:=rnd hgn l6 jA;obtain ⟨x,hx,hxm,hm⟩:=rnx hlt;clear hgn;have hvl:=be5 (g:=g) (t:=t) (n:=i);have hw1:IntKind.i64.wrap ((g.length:Int) - 1)=((g.length - 1:Nat):Int):=w8 om_ om_ om_;have hw2:IntKind.i64.wrap (((g.length - 1:Nat):Int) - (i:Int))=((g.length - 1 - i:Nat):Int):=w8 om_ om_ om_;obtain ⟨y,hy⟩:∃ y,g[g.length - 1 - i]? = some y:=⟨_,List.getElem?_eq_getElem om_⟩;have hc:=ah2 y (hw y (List.mem_of_getElem? hy)) t ht;have hva:bi0 g t i=Ty.same y t:=by simp [bi0,hy]
  have hvs:=bG5 (g:=g) (t:=t) (n:=i);rw [hva] at hvs;clear hw hva;cases hs:Ty.same y t with
  | true =>
   rw [hs] at hc hvs;simp only [if_true] at hvs
   repeat' (first
    |(refine ⟨?_,?_⟩;focus ((repeat' (first|refine ⟨?_,?_⟩|refine .inr ?_));all_goals kernel_rfl))
    |(refine U6 jO0 kp_ rfl so_ fr_ sg_ (by intro hd;cases hd) ?_;intro v' h' log' jO jK jAg jAb jF;simp only [go_sem, *])
    | (first|refine wp rfl ?_|refine spt rfl ?_|refine spf rfl ?_|(refine spl (fun hc=>?_) fun hc=>?_)<;>(try rw [beq_iff_eq] at hc)<;>try simp only [hc]|refine cp hc ?_|refine u7 ?_)<;>try simp only [go_sem, *])
   have jO':T7 h h' v' 1 (ints (aB3 g t i++[(i:Int)])):=by simpa [ints] using jO
   first|exact jO'|exact ⟨jAg (by repeat (first|assumption|refine g9.new ?_ (m6 _ _))),jO'⟩
  | false =>
   rw [hs] at hc hvs;simp only [Bool.false_eq_true,if_false,List.append_nil] at hvs
   repeat' (first
    |(refine ⟨?_,?_⟩;focus ((repeat' (first|refine ⟨?_,?_⟩|refine .inr ?_));all_goals kernel_rfl))
    | (first|refine wp rfl ?_|refine spt rfl ?_|refine spf rfl ?_|(refine spl (fun hc=>?_) fun hc=>?_)<;>(try rw [beq_iff_eq] at hc)<;>try simp only [hc]|refine cp hc ?_|refine u7 ?_)<;>try simp only [go_sem, *])
   first|done|exact ⟨by repeat (first|assumption|refine g9.new ?_ (m6 _ _)),jO0⟩|trace_state
 ·
  intro σ ga0 l9 hgn jS ⟨jA,jO⟩;obtain ⟨jT,jB⟩:=jS;simp only [go_sem] at jT jB;obtain ⟨hgf,m6,n9,o0⟩:=rnd hgn l9 jA;clear hgn;obtain ⟨c,jO⟩:=jO.val;clear hw
  repeat' (first
   |(refine ⟨?_,?_⟩;focus ((repeat' (first|refine ⟨?_,?_⟩|refine .inr ?_));all_goals kernel_rfl))
   |exact hin _|exact agf as_
   | (first|refine wp rfl ?_|refine spt rfl ?_|refine spf rfl ?_|(refine spl (fun hc=>?_) fun hc=>?_)<;>(try rw [beq_iff_eq] at hc)<;>try simp only [hc]|refine A9 b7 ?_ ?_ ?_)<;>try simp only [go_sem, *])
theorem cm8 (t:Tm) (ht:TmW t):Pure Tryz.prog env 160 [.agg t.cells] (.agg (ad6 t).cells):=by
 intro h;have h1:=c_T 2 r5 [t] K4 sp_ (by simp [ht]);simp only [List.map_cons,List.map_nil] at h1;refine en_ Tryz.func160 [.cell 2 65] fun g0 w0 gen b7 hfr c6 m0=>?_
 repeat' (first
  |(refine ⟨?_,?_⟩;focus ((repeat' (first|refine ⟨?_,?_⟩|refine .inr ?_));all_goals kernel_rfl))
  |exact hin _|exact agf as_
  | (first|refine wp rfl ?_|refine cp D8 ?_|refine cp h1 ?_|refine A9 b7 ?_ ?_ ?_)<;>try simp only [go_sem, *])
 rfl
theorem cv5 (b f n:Tm) (hb:TmW b) (hf:TmW f) (hn:TmW n):Pure Tryz.prog env 161 [.agg b.cells,.agg f.cells,.agg n.cells] (.agg (aY9 b f n).cells):=by
 intro h;have h1:=c_T 6 r5 [b,f,n] K4 sp_ (by simp [hb,hf,hn]);simp only [List.map_cons,List.map_nil] at h1;refine en_ Tryz.func161 [.cell 6 65] fun g0 w0 gen b7 hfr c6 m0=>?_
 repeat' (first
  |(refine ⟨?_,?_⟩;focus ((repeat' (first|refine ⟨?_,?_⟩|refine .inr ?_));all_goals kernel_rfl))
  |exact hin _|exact agf as_
  | (first|refine wp rfl ?_|refine cp D8 ?_|refine cp h1 ?_|refine A9 b7 ?_ ?_ ?_)<;>try simp only [go_sem, *])
 rfl
theorem cS2:Pure Tryz.prog env 162 [] (.agg aq5.cells):=by
 intro h;have h1:=c_N 4 [] sp_ sp_;simp only [List.map_nil] at h1;refine en_ Tryz.func162 [.cell 0 65] fun g0 w0 gen b7 hfr c6 m0=>?_
 repeat' (first
  |exact hin _|exact agf as_
  | (first|refine wp rfl ?_|refine cp h1 ?_|refine cp (aB8 _) ?_|refine cp (cm8 _ (by repeat (first|assumption|exact D4 _|exact Z9|exact Y9|exact Z1|exact aa8|refine Y6 ?_|refine M1 ?_ ?_|refine ak1 ?_ ?_ ?_|refine S8 ?_|refine ad5 ?_ ?_ ?_))) ?_|refine cp (cv5 _ _ _ (by repeat (first|assumption|exact D4 _|exact Z9|exact Y9|exact Z1|exact aa8|refine Y6 ?_|refine M1 ?_ ?_|refine ak1 ?_ ?_ ?_|refine S8 ?_|refine ad5 ?_ ?_ ?_)) (by repeat (first|assumption|exact D4 _|exact Z9|exact Y9|exact Z1|exact aa8|refine Y6 ?_|refine M1 ?_ ?_|refine ak1 ?_ ?_ ?_|refine S8 ?_|refine ad5 ?_ ?_ ?_)) (by repeat (first|assumption|exact D4 _|exact Z9|exact Y9|exact Z1|exact aa8|refine Y6 ?_|refine M1 ?_ ?_|refine ak1 ?_ ?_ ?_|refine S8 ?_|refine ad5 ?_ ?_ ?_))) ?_|refine A9 b7 ?_ ?_ ?_)<;>try simp only [go_sem, *])
 rfl
theorem cQ8:Pure Tryz.prog env 114 [] (.agg aK1.cells):=by
 intro h;have h1:=c_N 5 [u5 0] sp_ (by simp [D4]);simp only [List.map_cons,List.map_nil] at h1;refine en_ Tryz.func114 [.cell 0 65] fun g0 w0 gen b7 hfr c6 m0=>?_
 repeat' (first
  |exact hin _|exact agf as_
  | (first|refine wp rfl ?_|refine cp h1 ?_|refine cp (aB8 _) ?_|refine cp (cm8 _ (by repeat (first|assumption|exact D4 _|exact Z9|exact Y9|exact Z1|exact aa8|refine Y6 ?_|refine M1 ?_ ?_|refine ak1 ?_ ?_ ?_|refine S8 ?_|refine ad5 ?_ ?_ ?_))) ?_|refine cp (cv5 _ _ _ (by repeat (first|assumption|exact D4 _|exact Z9|exact Y9|exact Z1|exact aa8|refine Y6 ?_|refine M1 ?_ ?_|refine ak1 ?_ ?_ ?_|refine S8 ?_|refine ad5 ?_ ?_ ?_)) (by repeat (first|assumption|exact D4 _|exact Z9|exact Y9|exact Z1|exact aa8|refine Y6 ?_|refine M1 ?_ ?_|refine ak1 ?_ ?_ ?_|refine S8 ?_|refine ad5 ?_ ?_ ?_)) (by repeat (first|assumption|exact D4 _|exact Z9|exact Y9|exact Z1|exact aa8|refine Y6 ?_|refine M1 ?_ ?_|refine ak1 ?_ ?_ ?_|refine S8 ?_|refine ad5 ?_ ?_ ?_))) ?_|refine A9 b7 ?_ ?_ ?_)<;>try simp only [go_sem, *])
 rfl
theorem cK0:Pure Tryz.prog env 115 [] (.agg an8.cells):=by
 intro h;have h1:=c_N 3 [aq5,u5 0] sp_ (by simp [D4,Y9]);simp only [List.map_cons,List.map_nil] at h1;refine en_ Tryz.func115 [.cell 0 65] fun g0 w0 gen b7 hfr c6 m0=>?_
 repeat' (first
  |exact hin _|exact agf as_
  | (first|refine wp rfl ?_|refine cp h1 ?_|refine cp cS2 ?_|refine cp (aB8 _) ?_|refine cp (cm8 _ (by repeat (first|assumption|exact D4 _|exact Z9|exact Y9|exact Z1|exact aa8|refine Y6 ?_|refine M1 ?_ ?_|refine ak1 ?_ ?_ ?_|refine S8 ?_|refine ad5 ?_ ?_ ?_))) ?_|refine cp (cv5 _ _ _ (by repeat (first|assumption|exact D4 _|exact Z9|exact Y9|exact Z1|exact aa8|refine Y6 ?_|refine M1 ?_ ?_|refine ak1 ?_ ?_ ?_|refine S8 ?_|refine ad5 ?_ ?_ ?_)) (by repeat (first|assumption|exact D4 _|exact Z9|exact Y9|exact Z1|exact aa8|refine Y6 ?_|refine M1 ?_ ?_|refine ak1 ?_ ?_ ?_|refine S8 ?_|refine ad5 ?_ ?_ ?_)) (by repeat (first|assumption|exact D4 _|exact Z9|exact Y9|exact Z1|exact aa8|refine Y6 ?_|refine M1 ?_ ?_|refine ak1 ?_ ?_ ?_|refine S8 ?_|refine ad5 ?_ ?_ ?_))) ?_|refine A9 b7 ?_ ?_ ?_)<;>try simp only [go_sem, *])
 rfl
theorem da1 (l:List Int):dd7 Tryz.prog env 10 [.sl .any (ints l)] (C1 l 0):=by
 intro h id hid;refine en_ Tryz.func10 [.tmp 2] fun g0 w0 gen b7 hfr c6 m0=>?_;refine wq_ ?_;refine cP6 b7 hid rfl (by simp only [go_sem, *];rfl) (c6 _ _) (by simp only [C1,go_sem, *]) (by repeat (first|exact g9.refl _|refine g9.new ?_ (c6 _ _)))
theorem N7 (l:List Int) (hl:l.length≤1000) (d:GoAbs.Id) (a:Nat) (n:Int) :
  D1 Tryz.prog env 20 [.ptr d 0,.int .i64 n] d (.box (C1 l a)) (.int .i64 (D2 l a n).1) (.box (C1 l (D2 l a n).2)):=by
 intro h hd;unfold C1 at hd ⊢;cases hn:decide (n<1) with
 | true =>
  have hv:D2 l a n=(0,a):=by simp at hn;simp [D2,hn]
  rw [hv];refine en_ Tryz.func20 [.tmp 4] fun g0 w0 gen b7 hfr c6 m0=>?_;have f1:=c7 hfr hd;have f2:=l4 hfr hd;exact I0
 | false =>
  cases hm:decide ((a:Int)≥(l.length:Int)) with
  | true =>
   have hv:D2 l a n=(0,a):=by simp at hm;simp [D2,hm]
   rw [hv];refine en_ Tryz.func20 [.tmp 4] fun g0 w0 gen b7 hfr c6 m0=>?_;have f1:=c7 hfr hd;have f2:=l4 hfr hd;exact I0
  | false =>
   simp at hn hm;obtain ⟨x,hx⟩:∃ x,l[a]? = some x:=⟨_,List.getElem?_eq_getElem hm⟩;have hv:D2 l a n=(bH0 x n,a+1):=by
    have:¬ (n<1∨l.length≤a):=by omega
    simp [D2,this,hx]
   have h1:=dg1 x n om_;have hw:=z7 (i:=a) om_;have hix:(ints l)[a]? = some [.int .i64 x]:=by rw [ba4,hx];rfl
   have hn':decide (n<1)=false:=by simp;omega
   have hm':decide ((a:Int)≥(l.length:Int))=false:=by simp;omega
   rw [hv];clear hn hm;refine en_ Tryz.func20 [.tmp 4] fun g0 w0 gen b7 hfr c6 m0=>?_;have f1:=c7 hfr hd;have f2:=l4 hfr hd;exact I0
theorem bJ4 (l:List Int) (hl:l.length≤1000) (d:GoAbs.Id):∀ (n:Nat),n≤1000→∀ a:Nat,
  D1 Tryz.prog env 110 [.ptr d 0,.int .i64 n] d (.box (C1 l a)) (.agg (mkType l n a).1.cells) (.box (C1 l (mkType l n a).2)):=by
 intro n
 induction n with
 | zero =>
  intro _ a h hd;have hz:decide (((0:Nat):Int)>0)=false:=rfl;rcases cn3 (D2 l a 7).1 with hk|hk|hk|hk|hk|hk|hk|hk
  all_goals
   simp only [mkType,hk,Int.reduceBEq,if_true,Bool.false_eq_true,if_false];refine en_ Tryz.func110 [.cell 4 27] fun g0 w0 gen b7 hfr c6 m0=>?_;have f1:=c7 hfr hd;have f2:=l4 hfr hd
   repeat' (first
    |exact agb as_
    | (first|refine wp rfl ?_|refine spt rfl ?_|refine spf rfl ?_|(refine spl (fun hc=>?_) fun hc=>?_)<;>(try rw [beq_iff_eq] at hc)<;>try simp only [hc]|refine cp D8 ?_|refine cp N2 ?_|refine cp aE2 ?_|refine ct (N7 l hl d _ _) sr_ ?_|refine Z4 b7 hd ?_ ?_ ?_ ?_ ?_)<;>try simp only [go_sem, *])
 | succ n ih =>
  intro hn a h hd;have ih':=ih om_;have hz:decide (((n+1:Nat):Int)>0)=true:=by simp<;>omega
  have hw:IntKind.i64.wrap (((n+1:Nat):Int) - 1)=(n:Int):=w8 om_ om_ om_;clear ih;rcases cn3 (D2 l a 7).1 with hk|hk|hk|hk|hk|hk|hk|hk
  all_goals
   simp only [mkType,hk,Int.reduceBEq,if_true,Bool.false_eq_true,if_false];have wt:=fun n a=>ay0 (l:=l) n a;refine en_ Tryz.func110 [.cell 4 27] fun g0 w0 gen b7 hfr c6 m0=>?_;have f1:=c7 hfr hd;have f2:=l4 hfr hd
   repeat' (first
    |exact agb as_
    | (first|refine wp rfl ?_|refine spt rfl ?_|refine spf rfl ?_|(refine spl (fun hc=>?_) fun hc=>?_)<;>(try rw [beq_iff_eq] at hc)<;>try simp only [hc]|refine cp D8 ?_|refine cp N2 ?_|refine cp aE2 ?_|refine cp (aL1 _ _ (wt _ _) (wt _ _)) ?_|refine cp (an6 _ _ (wt _ _) (wt _ _)) ?_|refine ct (N7 l hl d _ _) sr_ ?_|refine ct (ih' _) sr_ ?_|refine Z4 b7 hd ?_ ?_ ?_ ?_ ?_)<;>try simp only [go_sem, *])
end Go.Proofs.YteaijonkbbkkjaaGreatDoor
