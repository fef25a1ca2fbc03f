/-
 Walks: several parts in one text.
-/
import Derived.Test.YteaijonkbbkkjaaGreatDoorMc
import Derived.Test.YteaijonkbbkkjaaGreatDoorAbsDd
import Derived.Test.YteaijonkbbkkjaaGreatDoorNz
import Derived.Test.YteaijonkbbkkjaaGreatDoorPx
import Derived.Test.YteaijonkbbkkjaaGreatDoorPv
set_option linter.unusedSimpArgs false
set_option linter.unusedVariables false
set_option maxRecDepth 20000
set_option maxHeartbeats 4000000
namespace Go.Proofs.YteaijonkbbkkjaaGreatDoor
open Go GoAbs Go.Proofs
theorem bm2 (l:List Int) (hl:l.length≤1000) (a:Nat):∃ t a',P8 t∧∀ d,D1 Tryz.prog env 9 [.ptr d 0] d (.box (C1 l a)) (.agg t.cells) (.box (C1 l a')):=by
 have hr:=L5 (l:=l) (a:=a) (n:=6) om_ om_;have hX:=N7 l hl;have ht:=aL1 r5 C8 K4 Z0;have ht2:=aL1 r5 r5 K4 K4;generalize hq:D2 l a 6=q at hr;obtain ⟨c,a1⟩:=q;have hN:∀ d,D1 Tryz.prog env 20 [.ptr d 0,.int .i64 6] d (.box (C1 l a)) (.int .i64 c) (.box (C1 l a1)):=fun d=>by
  have:=hX d a 6;rw [hq] at this;exact this
 clear hX hq hl;simp only at hr;obtain rfl|rfl|rfl|rfl|rfl|rfl:c=0∨c=1∨c=2∨c=3∨c=4∨c=5:=by omega
 ·refine ⟨r5,a1,.inl rfl,fun d h hd=>?_⟩
  clear ht ht2;refine en_ Tryz.func9 [.cell 2 27] fun g0 w0 gen b7 hfr c6 m0=>?_;have f1:=c7 hfr hd;have f2:=l4 hfr hd
  repeat' (first
   |exact agb as_
   | (first|refine wp rfl ?_|refine spt rfl ?_|refine spf rfl ?_|(refine spl (fun hc=>?_) fun hc=>?_)<;>(try rw [beq_iff_eq] at hc)<;>try simp only [hc]|refine cp D8 ?_|(refine ct (hN _) ?_ ?_;focus ((simp only [go_sem, *]<;>rfl);done))|refine Z4 b7 hd ?_ ?_ ?_ ?_ ?_)<;>try simp only [go_sem, *])
 ·refine ⟨r5,a1,.inl rfl,fun d h hd=>?_⟩
  clear ht ht2;refine en_ Tryz.func9 [.cell 2 27] fun g0 w0 gen b7 hfr c6 m0=>?_;have f1:=c7 hfr hd;have f2:=l4 hfr hd
  repeat' (first
   |exact agb as_
   | (first|refine wp rfl ?_|refine spt rfl ?_|refine spf rfl ?_|(refine spl (fun hc=>?_) fun hc=>?_)<;>(try rw [beq_iff_eq] at hc)<;>try simp only [hc]|refine cp D8 ?_|(refine ct (hN _) ?_ ?_;focus ((simp only [go_sem, *]<;>rfl);done))|refine Z4 b7 hd ?_ ?_ ?_ ?_ ?_)<;>try simp only [go_sem, *])
 ·refine ⟨C8,a1,.inr (.inl rfl),fun d h hd=>?_⟩
  clear ht ht2;refine en_ Tryz.func9 [.cell 2 27] fun g0 w0 gen b7 hfr c6 m0=>?_;have f1:=c7 hfr hd;have f2:=l4 hfr hd
  repeat' (first
   |exact agb as_
   | (first|refine wp rfl ?_|refine spt rfl ?_|refine spf rfl ?_|(refine spl (fun hc=>?_) fun hc=>?_)<;>(try rw [beq_iff_eq] at hc)<;>try simp only [hc]|refine cp N2 ?_|(refine ct (hN _) ?_ ?_;focus ((simp only [go_sem, *]<;>rfl);done))|refine Z4 b7 hd ?_ ?_ ?_ ?_ ?_)<;>try simp only [go_sem, *])
 ·refine ⟨S5,a1,.inr (.inr (.inl rfl)),fun d h hd=>?_⟩
  clear ht ht2;refine en_ Tryz.func9 [.cell 2 27] fun g0 w0 gen b7 hfr c6 m0=>?_;have f1:=c7 hfr hd;have f2:=l4 hfr hd
  repeat' (first
   |exact agb as_
   | (first|refine wp rfl ?_|refine spt rfl ?_|refine spf rfl ?_|(refine spl (fun hc=>?_) fun hc=>?_)<;>(try rw [beq_iff_eq] at hc)<;>try simp only [hc]|refine cp aE2 ?_|(refine ct (hN _) ?_ ?_;focus ((simp only [go_sem, *]<;>rfl);done))|refine Z4 b7 hd ?_ ?_ ?_ ?_ ?_)<;>try simp only [go_sem, *])
 ·refine ⟨E9 r5 C8,a1,.inr (.inr (.inr (.inl rfl))),fun d h hd=>?_⟩
  clear ht2;refine en_ Tryz.func9 [.cell 2 27] fun g0 w0 gen b7 hfr c6 m0=>?_;have f1:=c7 hfr hd;have f2:=l4 hfr hd
  repeat' (first
   |exact agb as_
   | (first|refine wp rfl ?_|refine spt rfl ?_|refine spf rfl ?_|(refine spl (fun hc=>?_) fun hc=>?_)<;>(try rw [beq_iff_eq] at hc)<;>try simp only [hc]|refine cp D8 ?_|refine cp N2 ?_|refine cp ht ?_|(refine ct (hN _) ?_ ?_;focus ((simp only [go_sem, *]<;>rfl);done))|refine Z4 b7 hd ?_ ?_ ?_ ?_ ?_)<;>try simp only [go_sem, *])
 ·refine ⟨E9 r5 r5,a1,.inr (.inr (.inr (.inr rfl))),fun d h hd=>?_⟩
  clear ht;refine en_ Tryz.func9 [.cell 2 27] fun g0 w0 gen b7 hfr c6 m0=>?_;have f1:=c7 hfr hd;have f2:=l4 hfr hd
  repeat' (first
   |exact agb as_
   | (first|refine wp rfl ?_|refine spt rfl ?_|refine spf rfl ?_|(refine spl (fun hc=>?_) fun hc=>?_)<;>(try rw [beq_iff_eq] at hc)<;>try simp only [hc]|refine cp D8 ?_|refine cp ht2 ?_|(refine ct (hN _) ?_ ?_;focus ((simp only [go_sem, *]<;>rfl);done))|refine Z4 b7 hd ?_ ?_ ?_ ?_ ?_)<;>try simp only [go_sem, *])
def bH9 (l:List Int) (t:Ty) (n:Nat):Prop:=∀ a,∃ v tm a',V3 t v tm∧m7 tm≤n∧∀ d,D1 Tryz.prog env 39 [.ptr d 0,.agg t.cells] d (.box (C1 l a)) (.agg v.cells) (.box (C1 l a'))
theorem aw2 (l:List Int) (hl:l.length≤1000):bH9 l r5 5:=by
 intro a;have hr:=L5 (l:=l) (a:=a) (n:=5) om_ om_;have hX:=N7 l hl;generalize hq:D2 l a 5=q at hr;obtain ⟨c,a1⟩:=q;have hN:∀ d,D1 Tryz.prog env 20 [.ptr d 0,.int .i64 5] d (.box (C1 l a)) (.int .i64 c) (.box (C1 l a1)):=fun d=>by
  have:=hX d a 5;rw [hq] at this;exact this
 clear hX hq hl;simp only at hr;obtain ⟨n,rfl⟩:∃ n:Nat,c=n:=⟨c.toNat,om_⟩;refine ⟨.mk 1 n [] [],C5 n,a1,.num n,by rw [S4];omega,fun d h hd=>?_⟩;have ec:r5.cells=[.int .i64 1,.sl .any []]:=by rw [show r5=Ty.mk 1 [] from rfl,Ty.m8];rfl
 rw [ec,PVl.p9];clear hr;refine en_ Tryz.func39 [.cell 4 36] fun g0 w0 gen b7 hfr c6 m0=>?_;have f1:=c7 hfr hd;have f2:=l4 hfr hd
 repeat' (first
  |(refine ⟨?_,?_⟩;focus ((repeat' (first|refine ⟨?_,?_⟩|refine .inr ?_));all_goals kernel_rfl))
  |exact agb as_
  | (first|refine wp rfl ?_|refine spt rfl ?_|refine spf rfl ?_|(refine spl (fun hc=>?_) fun hc=>?_)<;>(try rw [beq_iff_eq] at hc)<;>try simp only [hc]|(refine ct (hN _) ?_ ?_;focus ((simp only [go_sem, *]<;>rfl);done))|refine Z4 b7 hd ?_ ?_ ?_ ?_ ?_)<;>try simp only [go_sem, *])
 rfl
theorem by0 (l:List Int) (hl:l.length≤1000):bH9 l S5 1:=by
 intro a;refine ⟨.mk 4 0 [] [],tm0 13 [],a,.unit,by rw [ap9];omega,fun d h hd=>?_⟩;have ec:S5.cells=[.int .i64 5,.sl .any []]:=by rw [show S5=Ty.mk 5 [] from rfl,Ty.m8];rfl
 rw [ec,PVl.p9];refine en_ Tryz.func39 [.cell 4 36] fun g0 w0 gen b7 hfr c6 m0=>?_;have f1:=c7 hfr hd;have f2:=l4 hfr hd;refine dc9 ?_
 rfl
theorem aR3 (l:List Int) {s t:Ty} {m n:Nat} (h1:bH9 l s m) (h2:bH9 l t n):bH9 l (E9 s t) (m+n+1):=by
 intro a;obtain ⟨v1,m1,a1,i1,z1,T1⟩:=h1 a;obtain ⟨v2,m2,a2,i2,z2,T2⟩:=h2 a1;refine ⟨.mk 3 0 [] [v1,v2],tm0 10 [m1,m2],a2,.pair i1 i2,by rw [Q4];omega,fun d h hd=>?_⟩;have ec:(E9 s t).cells=[.int .i64 3,.sl .any [s.cells,t.cells]]:=by rw [show E9 s t=Ty.mk 3 [s,t] from rfl,Ty.m8];rfl
 rw [ec,PVl.p9];simp only [List.map_cons,List.map_nil];clear h1 h2 i1 i2 z1 z2;refine en_ Tryz.func39 [.cell 4 36] fun g0 w0 gen b7 hfr c6 m0=>?_;have f1:=c7 hfr hd;have f2:=l4 hfr hd
 repeat' (first
  |(refine ⟨?_,?_⟩;focus ((repeat' (first|refine ⟨?_,?_⟩|refine .inr ?_));all_goals kernel_rfl))
  |exact agb as_
  | (first|refine wp rfl ?_|refine spt rfl ?_|refine spf rfl ?_|(refine spl (fun hc=>?_) fun hc=>?_)<;>(try rw [beq_iff_eq] at hc)<;>try simp only [hc]|(refine ct (T1 _) ?_ ?_;focus ((simp only [go_sem, *]<;>rfl);done))|(refine ct (T2 _) ?_ ?_;focus ((simp only [go_sem, *]<;>rfl);done))|refine Z4 b7 hd ?_ ?_ ?_ ?_ ?_)<;>try simp only [go_sem, *])
 rfl
theorem aQ2 (l:List Int) (hl:l.length≤1000):bH9 l C8 16:=by
 intro a;have hr:=L5 (l:=l) (a:=a) (n:=4) om_ om_;have hX:=N7 l hl;generalize hq:D2 l a 4=q at hr;obtain ⟨c,a1⟩:=q;have hN:∀ d,D1 Tryz.prog env 20 [.ptr d 0,.int .i64 4] d (.box (C1 l a)) (.int .i64 c) (.box (C1 l a1)):=fun d=>by
  have:=hX d a 4;rw [hq] at this;exact this
 simp only at hr;obtain ⟨n,rfl⟩:∃ n:Nat,c=n:=⟨c.toNat,om_⟩;obtain ⟨da,e0,e1⟩:∃ da:Nat→Nat,da 0=a1∧∀ i,da (i+1)=(D2 l (da i) 4).2:=⟨fun i=>Nat.rec a1 (fun _ y=>(D2 l y 4).2) i,rfl,fun _=>rfl⟩;obtain ⟨xs,hs⟩:∃ xs:Nat→Nat,∀ i,xs i≤3∧∀ d,D1 Tryz.prog env 20 [.ptr d 0,.int .i64 4] d (.box (C1 l (da i))) (.int .i64 (xs i:Nat)) (.box (C1 l (da (i+1)))):=by
  refine ⟨fun i=>(D2 l (da i) 4).1.toNat,fun i=>?_⟩;have hr:=L5 (l:=l) (a:=da i) (n:=4) om_ om_;have e2:(((D2 l (da i) 4).1.toNat:Nat):Int)=(D2 l (da i) 4).1:=by omega
  refine ⟨by simp only;omega,fun d=>?_⟩;have:=hX d (da i) 4;simp only;rw [e2,e1];exact this
 subst e0;have hsz:∀ m,lsz ((List.range m).map xs)≤5 * m+1:=by
  intro m
  induction m with
  | zero=>simp [lsz]
  | succ m ih =>
   have h1:((List.range (m+1)).map xs)[m]? = some (xs m):=by simp
   have h2:=aJ9 h1;have h3:((List.range (m+1)).map xs).take (m+1)=(List.range (m+1)).map xs:=List.take_of_length_le sp_;have h4:((List.range (m+1)).map xs).take m=(List.range m).map xs:=by rw [List.range_succ,List.map_append,List.take_left' sp_]
   rw [h3,h4] at h2;have:=(hs m).1;omega
 refine ⟨.mk 2 0 (((List.range n).map xs).map fun (n:Nat)=>(n:Int)) [],ae1 ((List.range n).map xs),da n,.list _,by rw [ac4];have:=hsz n;omega,fun d h hd=>?_⟩;have ec:C8.cells=[.int .i64 2,.sl .any []]:=by rw [show C8=Ty.mk 2 [] from rfl,Ty.m8];rfl
 have hin:∀ m,ints (((List.range (m+1)).map xs).map fun (n:Nat)=>(n:Int))=ints (((List.range m).map xs).map fun (n:Nat)=>(n:Int))++[[.int .i64 (xs m:Nat)]]:=fun m=>by
  rw [List.range_succ];simp [ints]
 have hil:∀ m,(ints (((List.range m).map xs).map fun (n:Nat)=>(n:Int))).length=m:=fun m=>by rw [ao0];simp
 have hal:∀ m,(ints (((List.range m).map xs).map fun (n:Nat)=>(n:Int))).all (fun e=>e.length==1)=true:=fun m=>aI5 _;have hwl:∀ m,B2 (ints (((List.range m).map xs).map fun (n:Nat)=>(n:Int)))=ints (((List.range m).map xs).map fun (n:Nat)=>(n:Int)):=fun m=>N5 _;have hII:∀ m (S:GoAbs.Id→Prop),Z6 S (ints (((List.range m).map xs).map fun (n:Nat)=>(n:Int)))=True:=fun m S=>eq_true (am4 _);have hi0:ints (((List.range 0).map xs).map fun (n:Nat)=>(n:Int))=[]:=rfl;have hT:=fun i=>(hs i).2;rw [ec,PVl.p9];have hn3:n≤3:=by omega
 clear hX hq hl hsz hs e1 hr;obtain ⟨L,hL⟩:∃ L:Nat→List (List V),L=fun m=>ints (((List.range m).map xs).map fun (n:Nat)=>(n:Int)):=⟨_,rfl⟩;have hL':∀ m,ints (((List.range m).map xs).map fun (n:Nat)=>(n:Int))=L m:=fun m=>by rw [hL]
 simp only [hL'] at hin hil hal hi0 hwl hII ⊢;clear hL hL';refine en_ Tryz.func39 [.cell 4 36] fun g0 w0 gen b7 hfr c6 m0=>?_;have f1:=c7 hfr hd;have f2:=l4 hfr hd
 repeat' (first
  |(refine ⟨?_,?_⟩;focus ((repeat' (first|refine ⟨?_,?_⟩|refine .inr ?_));all_goals kernel_rfl))
  | (first|refine wp rfl ?_|refine spt rfl ?_|refine spf rfl ?_|(refine spl (fun hc=>?_) fun hc=>?_)<;>(try rw [beq_iff_eq] at hc)<;>try simp only [hc]|(refine ct (hN _) ?_ ?_;focus ((simp only [go_sem, *]<;>rfl);done)))<;>try simp only [go_sem, *])
 clear hN;refine B1 (fun i σ=>σ.tm 0=.ptr d 0∧σ.tm 4=.ptr ⟨gen,0,1⟩ 0∧σ.tm 5=.ptr ⟨gen,5,1⟩ 0∧σ.tm 6=.int .i64 ((n - i:Nat):Int)∧a9 d h σ.h∧σ.h d=some (.box (C1 l (da i))) ∧
  σ.h ⟨gen,0,1⟩=some (.box [.int .i64 0,.int .i64 0,.sl .full [],.sl .full []]) ∧
  ∃ v,σ.h ⟨gen,5,1⟩=some (.box [.int .i64 2,.int .i64 0,v,.sl .full []])∧T7 h σ.h v 1 (L i)) n ?_ ?_
 ·simp only [go_sem, *]
  exact ⟨sp_,by repeat (first|exact a9.refl _ _|refine a9.new ?_ (c6 _ _)|refine a9.set ?_),_,rfl,.inl rfl⟩
 intro i σ hi ⟨j0,j4,j5,j6,jA,jd,jb1,v,jb2,jO0⟩;refine F9 (fun gn hgl hgn=>?_);have hgf:=c8 hgn;have m6:=l7 hd jA hgf (fun r i e=>by have:=hfr d (by rw [hd];simp);rw [e] at this;simp at this;omega);have eg1:=s8 hgl;have eg2:=o9 hgl;have fd:=u6 hfr hd hgl;have fe:=B3 hfr hd hgl;clear hgn;rcases Nat.lt_or_ge i n with hlt|hge
 ·have cU0:decide (((n - i:Nat):Int)>0)=true:=by simp;omega
  have hw:IntKind.i64.wrap (((n - i:Nat):Int) - 1)=((n - (i+1):Nat):Int):=w8 om_ om_ om_;have hn4:n<4:=by omega
  have hT0:=hT i;have hse:=hin i;have hel:=hil i;have dr9:=hal i;clear hT hin hil hal hi0 hwl hII;generalize L (i+1)=L1 at *;generalize L i=L0 at *
  repeat' (first
   |(refine ⟨?_,?_⟩;focus ((repeat' (first|refine ⟨?_,?_⟩|refine .inr ?_));all_goals kernel_rfl))
   |(refine G9 jO0 kp_ rfl so_ fr_ sg_ lo_ ?_;intro v' h' id' jO jK jAg jAb jF;obtain ⟨cO,rfl⟩:=jO.val;simp only [go_sem, *])
   | (first|refine wp rfl ?_|refine spt rfl ?_|refine spf rfl ?_|(refine spl (fun hc=>?_) fun hc=>?_)<;>(try rw [beq_iff_eq] at hc)<;>try simp only [hc]|(refine ct (hT0 _) ?_ ?_;focus ((simp only [go_sem, *]<;>rfl);done))|refine u7 ?_)<;>try simp only [go_sem, *])
  exact ⟨a9.new (jAb d (by repeat (first|exact jA|refine a9.new ?_ (m6 _ _)|refine a9.set ?_))) (c6 _ _),_,rfl,jO.ak5 (F4.box (F4.refl _) sg_)⟩
 ·obtain rfl:i=n:=by omega
  have cU0:decide (((i - i:Nat):Int)>0)=false:=by simp
  obtain ⟨cO,rfl⟩:=jO0.val;have hw1:=hwl i;have hI1:=hII i;clear hT hin hil hal hi0 hwl hII;generalize L i=L0 at *;exact I0
theorem bP9 (l:List Int) (hl:l.length≤1000) {t:Ty} (h:P8 t) (a:Nat) :
  ∃ v tm a',V3 t v tm∧m7 tm≤22∧∀ d,D1 Tryz.prog env 39 [.ptr d 0,.agg t.cells] d (.box (C1 l a)) (.agg v.cells) (.box (C1 l a')):=by
 have up:∀ n,n≤22→bH9 l t n→∃ v tm a',V3 t v tm∧m7 tm≤22∧∀ d,D1 Tryz.prog env 39 [.ptr d 0,.agg t.cells] d (.box (C1 l a)) (.agg v.cells) (.box (C1 l a')):=by
  intro n hn hv;obtain ⟨v,tm,a',h1,h2,h3⟩:=hv a;exact ⟨v,tm,a',h1,om_,h3⟩
 rcases h with rfl|rfl|rfl|rfl|rfl
 ·exact up _ om_ (aw2 l hl)
 ·exact up _ om_ (aQ2 l hl)
 ·exact up _ om_ (by0 l hl)
 ·exact up _ om_ (aR3 l (aw2 l hl) (aQ2 l hl))
 ·exact up _ om_ (aR3 l (aw2 l hl) (aw2 l hl))
theorem bW7 {t:Ty} (ht:P8 t) {bd m:Nat} (hb:bd≤16) (hm:m≤65536) :
  Pure Tryz.prog env 11 [.agg t.cells,.int .i64 bd,.int .i64 m] (.tup [.sl .any (((O4 bd t).take m).map PVl.cells),.int .i64 0]):=by
 refine bK1 (fun S=>by simp only [go_sem, *]) (aV5 ht hb hm) (bl6 t bd m) (aW0 hm (aO2 bd om_ ht.plT) (az3 t bd)) (fun v hv=>?_) (by simp;omega);obtain ⟨s,h1,h2⟩:=aO3 hb ht.plT v (List.mem_of_mem_take hv);exact cu1 v (h1.W (by have:=ht.sz;omega))
attribute [go_sem] Option.map_none Option.map_some
end Go.Proofs.YteaijonkbbkkjaaGreatDoor
