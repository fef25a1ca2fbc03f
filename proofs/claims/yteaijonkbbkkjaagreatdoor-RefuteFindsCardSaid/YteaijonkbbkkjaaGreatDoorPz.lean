/-
 Walks: several parts in one text.
-/
import Derived.Test.YteaijonkbbkkjaaGreatDoorMc
import Derived.Test.YteaijonkbbkkjaaGreatDoorAbsDd
import Derived.Test.YteaijonkbbkkjaaGreatDoorGl
import Derived.Test.YteaijonkbbkkjaaGreatDoorAbsD
set_option linter.unusedSimpArgs false
set_option linter.unusedVariables false
set_option maxRecDepth 20000
set_option maxHeartbeats 4000000
namespace Go.Proofs.YteaijonkbbkkjaaGreatDoor
open Go GoAbs Go.Proofs
theorem c_Plain (l:List Int) (hl:l.length≤1000) (a:Nat):∃ t a',PlainTy t∧∀ d,Turns Tryz.prog env 9 [.ptr d 0] d (.box (deckC l a)) (.agg t.cells) (.box (deckC l a')):=by
 have hr:=nextD_range (l:=l) (a:=a) (n:=6) (by omega) (by omega)
 have hX:=c_Next l hl
 have ht:=c_refTwo tNat tList tNat_W tList_W
 have ht2:=c_refTwo tNat tNat tNat_W tNat_W
 generalize hq:nextD l a 6=q at hr
 obtain ⟨c,a1⟩:=q
 have hN:∀ d,Turns Tryz.prog env 20 [.ptr d 0,.int .i64 6] d (.box (deckC l a)) (.int .i64 c) (.box (deckC l a1)):=fun d=>by
  have:=hX d a 6
  rw [hq] at this
  exact this
 clear hX hq hl
 simp only at hr
 obtain rfl|rfl|rfl|rfl|rfl|rfl:c=0∨c=1∨c=2∨c=3∨c=4∨c=5:=by omega
 ·refine ⟨tNat,a1,.inl rfl,fun d h hd=>?_⟩
  clear ht ht2
  refine en_ Tryz.func9 [.cell 2 27] fun g0 w0 gen hrel hfr hfr' hres=>?_
  have f1:=fresh_ne hfr hd
  have f2:=fresh_ne' hfr hd
  repeat' (first
   |exact agb (by assumption)
   | (first|refine wp rfl ?_|refine spt rfl ?_|refine spf rfl ?_|(refine spl (fun hc=>?_) fun hc=>?_)<;>(try rw [beq_iff_eq] at hc)<;>try simp only [hc]|refine cp c_refNat ?_|(refine ct (hN _) ?_ ?_;focus ((simp only [go_sem, *]<;>rfl);done))|refine finT hrel hd ?_ ?_ ?_ ?_ ?_)<;>try simp only [go_sem, *])
 ·refine ⟨tNat,a1,.inl rfl,fun d h hd=>?_⟩
  clear ht ht2
  refine en_ Tryz.func9 [.cell 2 27] fun g0 w0 gen hrel hfr hfr' hres=>?_
  have f1:=fresh_ne hfr hd
  have f2:=fresh_ne' hfr hd
  repeat' (first
   |exact agb (by assumption)
   | (first|refine wp rfl ?_|refine spt rfl ?_|refine spf rfl ?_|(refine spl (fun hc=>?_) fun hc=>?_)<;>(try rw [beq_iff_eq] at hc)<;>try simp only [hc]|refine cp c_refNat ?_|(refine ct (hN _) ?_ ?_;focus ((simp only [go_sem, *]<;>rfl);done))|refine finT hrel hd ?_ ?_ ?_ ?_ ?_)<;>try simp only [go_sem, *])
 ·refine ⟨tList,a1,.inr (.inl rfl),fun d h hd=>?_⟩
  clear ht ht2
  refine en_ Tryz.func9 [.cell 2 27] fun g0 w0 gen hrel hfr hfr' hres=>?_
  have f1:=fresh_ne hfr hd
  have f2:=fresh_ne' hfr hd
  repeat' (first
   |exact agb (by assumption)
   | (first|refine wp rfl ?_|refine spt rfl ?_|refine spf rfl ?_|(refine spl (fun hc=>?_) fun hc=>?_)<;>(try rw [beq_iff_eq] at hc)<;>try simp only [hc]|refine cp c_refList ?_|(refine ct (hN _) ?_ ?_;focus ((simp only [go_sem, *]<;>rfl);done))|refine finT hrel hd ?_ ?_ ?_ ?_ ?_)<;>try simp only [go_sem, *])
 ·refine ⟨tUnit,a1,.inr (.inr (.inl rfl)),fun d h hd=>?_⟩
  clear ht ht2
  refine en_ Tryz.func9 [.cell 2 27] fun g0 w0 gen hrel hfr hfr' hres=>?_
  have f1:=fresh_ne hfr hd
  have f2:=fresh_ne' hfr hd
  repeat' (first
   |exact agb (by assumption)
   | (first|refine wp rfl ?_|refine spt rfl ?_|refine spf rfl ?_|(refine spl (fun hc=>?_) fun hc=>?_)<;>(try rw [beq_iff_eq] at hc)<;>try simp only [hc]|refine cp c_refUnit ?_|(refine ct (hN _) ?_ ?_;focus ((simp only [go_sem, *]<;>rfl);done))|refine finT hrel hd ?_ ?_ ?_ ?_ ?_)<;>try simp only [go_sem, *])
 ·refine ⟨tPair tNat tList,a1,.inr (.inr (.inr (.inl rfl))),fun d h hd=>?_⟩
  clear ht2
  refine en_ Tryz.func9 [.cell 2 27] fun g0 w0 gen hrel hfr hfr' hres=>?_
  have f1:=fresh_ne hfr hd
  have f2:=fresh_ne' hfr hd
  repeat' (first
   |exact agb (by assumption)
   | (first|refine wp rfl ?_|refine spt rfl ?_|refine spf rfl ?_|(refine spl (fun hc=>?_) fun hc=>?_)<;>(try rw [beq_iff_eq] at hc)<;>try simp only [hc]|refine cp c_refNat ?_|refine cp c_refList ?_|refine cp ht ?_|(refine ct (hN _) ?_ ?_;focus ((simp only [go_sem, *]<;>rfl);done))|refine finT hrel hd ?_ ?_ ?_ ?_ ?_)<;>try simp only [go_sem, *])
 ·refine ⟨tPair tNat tNat,a1,.inr (.inr (.inr (.inr rfl))),fun d h hd=>?_⟩
  clear ht
  refine en_ Tryz.func9 [.cell 2 27] fun g0 w0 gen hrel hfr hfr' hres=>?_
  have f1:=fresh_ne hfr hd
  have f2:=fresh_ne' hfr hd
  repeat' (first
   |exact agb (by assumption)
   | (first|refine wp rfl ?_|refine spt rfl ?_|refine spf rfl ?_|(refine spl (fun hc=>?_) fun hc=>?_)<;>(try rw [beq_iff_eq] at hc)<;>try simp only [hc]|refine cp c_refNat ?_|refine cp ht2 ?_|(refine ct (hN _) ?_ ?_;focus ((simp only [go_sem, *]<;>rfl);done))|refine finT hrel hd ?_ ?_ ?_ ?_ ?_)<;>try simp only [go_sem, *])
def ValM (l:List Int) (t:Ty) (n:Nat):Prop:=∀ a,∃ v tm a',IsVl t v tm∧tmSz tm≤n∧∀ d,Turns Tryz.prog env 39 [.ptr d 0,.agg t.cells] d (.box (deckC l a)) (.agg v.cells) (.box (deckC l a'))
theorem c_ValueNat (l:List Int) (hl:l.length≤1000):ValM l tNat 5:=by
 intro a
 have hr:=nextD_range (l:=l) (a:=a) (n:=5) (by omega) (by omega)
 have hX:=c_Next l hl
 generalize hq:nextD l a 5=q at hr
 obtain ⟨c,a1⟩:=q
 have hN:∀ d,Turns Tryz.prog env 20 [.ptr d 0,.int .i64 5] d (.box (deckC l a)) (.int .i64 c) (.box (deckC l a1)):=fun d=>by
  have:=hX d a 5
  rw [hq] at this
  exact this
 clear hX hq hl
 simp only at hr
 obtain ⟨n,rfl⟩:∃ n:Nat,c=n:=⟨c.toNat,by omega⟩
 refine ⟨.mk 1 n [] [],numT n,a1,.num n,by rw [tmSz_num];omega,fun d h hd=>?_⟩
 have ec:tNat.cells=[.int .i64 1,.sl .any []]:=by rw [show tNat=Ty.mk 1 [] from rfl,Ty.cells_eq];rfl
 rw [ec,PVl.mk_cells]
 clear hr
 refine en_ Tryz.func39 [.cell 4 36] fun g0 w0 gen hrel hfr hfr' hres=>?_
 have f1:=fresh_ne hfr hd
 have f2:=fresh_ne' hfr hd
 repeat' (first
  |(refine ⟨?_,?_⟩;focus ((repeat' (first|refine ⟨?_,?_⟩|refine .inr ?_));all_goals kernel_rfl))
  |exact agb (by assumption)
  | (first|refine wp rfl ?_|refine spt rfl ?_|refine spf rfl ?_|(refine spl (fun hc=>?_) fun hc=>?_)<;>(try rw [beq_iff_eq] at hc)<;>try simp only [hc]|(refine ct (hN _) ?_ ?_;focus ((simp only [go_sem, *]<;>rfl);done))|refine finT hrel hd ?_ ?_ ?_ ?_ ?_)<;>try simp only [go_sem, *])
 rfl
theorem c_ValueUnit (l:List Int) (hl:l.length≤1000):ValM l tUnit 1:=by
 intro a
 refine ⟨.mk 4 0 [] [],tm0 13 [],a,.unit,by rw [tmSz_0];omega,fun d h hd=>?_⟩
 have ec:tUnit.cells=[.int .i64 5,.sl .any []]:=by rw [show tUnit=Ty.mk 5 [] from rfl,Ty.cells_eq];rfl
 rw [ec,PVl.mk_cells]
 refine en_ Tryz.func39 [.cell 4 36] fun g0 w0 gen hrel hfr hfr' hres=>?_
 have f1:=fresh_ne hfr hd
 have f2:=fresh_ne' hfr hd
 refine wqT_ ?_
 rfl
theorem c_ValuePair (l:List Int) {s t:Ty} {m n:Nat} (h1:ValM l s m) (h2:ValM l t n):ValM l (tPair s t) (m+n+1):=by
 intro a
 obtain ⟨v1,m1,a1,i1,z1,T1⟩:=h1 a
 obtain ⟨v2,m2,a2,i2,z2,T2⟩:=h2 a1
 refine ⟨.mk 3 0 [] [v1,v2],tm0 10 [m1,m2],a2,.pair i1 i2,by rw [tmSz_2];omega,fun d h hd=>?_⟩
 have ec:(tPair s t).cells=[.int .i64 3,.sl .any [s.cells,t.cells]]:=by rw [show tPair s t=Ty.mk 3 [s,t] from rfl,Ty.cells_eq];rfl
 rw [ec,PVl.mk_cells]
 simp only [List.map_cons,List.map_nil]
 clear h1 h2 i1 i2 z1 z2
 refine en_ Tryz.func39 [.cell 4 36] fun g0 w0 gen hrel hfr hfr' hres=>?_
 have f1:=fresh_ne hfr hd
 have f2:=fresh_ne' hfr hd
 repeat' (first
  |(refine ⟨?_,?_⟩;focus ((repeat' (first|refine ⟨?_,?_⟩|refine .inr ?_));all_goals kernel_rfl))
  |exact agb (by assumption)
  | (first|refine wp rfl ?_|refine spt rfl ?_|refine spf rfl ?_|(refine spl (fun hc=>?_) fun hc=>?_)<;>(try rw [beq_iff_eq] at hc)<;>try simp only [hc]|(refine ct (T1 _) ?_ ?_;focus ((simp only [go_sem, *]<;>rfl);done))|(refine ct (T2 _) ?_ ?_;focus ((simp only [go_sem, *]<;>rfl);done))|refine finT hrel hd ?_ ?_ ?_ ?_ ?_)<;>try simp only [go_sem, *])
 rfl
theorem c_ValueList (l:List Int) (hl:l.length≤1000):ValM l tList 16:=by
 intro a
 have hr:=nextD_range (l:=l) (a:=a) (n:=4) (by omega) (by omega)
 have hX:=c_Next l hl
 generalize hq:nextD l a 4=q at hr
 obtain ⟨c,a1⟩:=q
 have hN:∀ d,Turns Tryz.prog env 20 [.ptr d 0,.int .i64 4] d (.box (deckC l a)) (.int .i64 c) (.box (deckC l a1)):=fun d=>by
  have:=hX d a 4
  rw [hq] at this
  exact this
 simp only at hr
 obtain ⟨n,rfl⟩:∃ n:Nat,c=n:=⟨c.toNat,by omega⟩
 obtain ⟨da,e0,e1⟩:∃ da:Nat→Nat,da 0=a1∧∀ i,da (i+1)=(nextD l (da i) 4).2:=⟨fun i=>Nat.rec a1 (fun _ y=>(nextD l y 4).2) i,rfl,fun _=>rfl⟩
 obtain ⟨xs,hs⟩:∃ xs:Nat→Nat,∀ i,xs i≤3∧∀ d,Turns Tryz.prog env 20 [.ptr d 0,.int .i64 4] d (.box (deckC l (da i))) (.int .i64 (xs i:Nat)) (.box (deckC l (da (i+1)))):=by
  refine ⟨fun i=>(nextD l (da i) 4).1.toNat,fun i=>?_⟩
  have hr:=nextD_range (l:=l) (a:=da i) (n:=4) (by omega) (by omega)
  have e2:(((nextD l (da i) 4).1.toNat:Nat):Int)=(nextD l (da i) 4).1:=by omega
  refine ⟨by simp only;omega,fun d=>?_⟩
  have:=hX d (da i) 4
  simp only
  rw [e2,e1]
  exact this
 subst e0
 have hsz:∀ m,lsz ((List.range m).map xs)≤5 * m+1:=by
  intro m
  induction m with
  | zero=>simp [lsz]
  | succ m ih =>
   have h1:((List.range (m+1)).map xs)[m]? = some (xs m):=by simp
   have h2:=lsz_take h1
   have h3:((List.range (m+1)).map xs).take (m+1)=(List.range (m+1)).map xs:=List.take_of_length_le (by simp)
   have h4:((List.range (m+1)).map xs).take m=(List.range m).map xs:=by rw [List.range_succ,List.map_append,List.take_left' (by simp)]
   rw [h3,h4] at h2
   have:=(hs m).1
   omega
 refine ⟨.mk 2 0 (((List.range n).map xs).map fun (n:Nat)=>(n:Int)) [],listT ((List.range n).map xs),da n,.list _,by rw [listT_sz];have:=hsz n;omega,fun d h hd=>?_⟩
 have ec:tList.cells=[.int .i64 2,.sl .any []]:=by rw [show tList=Ty.mk 2 [] from rfl,Ty.cells_eq];rfl
 have hin:∀ m,ints (((List.range (m+1)).map xs).map fun (n:Nat)=>(n:Int))=ints (((List.range m).map xs).map fun (n:Nat)=>(n:Int))++[[.int .i64 (xs m:Nat)]]:=fun m=>by
  rw [List.range_succ];simp [ints]
 have hil:∀ m,(ints (((List.range m).map xs).map fun (n:Nat)=>(n:Int))).length=m:=fun m=>by rw [ints_len];simp
 have hal:∀ m,(ints (((List.range m).map xs).map fun (n:Nat)=>(n:Int))).all (fun e=>e.length==1)=true:=fun m=>all_len_ints _
 have hwl:∀ m,weakLL (ints (((List.range m).map xs).map fun (n:Nat)=>(n:Int)))=ints (((List.range m).map xs).map fun (n:Nat)=>(n:Int)):=fun m=>weakLL_ints _
 have hII:∀ m (S:GoAbs.Id→Prop),InLL S (ints (((List.range m).map xs).map fun (n:Nat)=>(n:Int)))=True:=fun m S=>eq_true (InLL_ints _)
 have hi0:ints (((List.range 0).map xs).map fun (n:Nat)=>(n:Int))=[]:=rfl
 have hT:=fun i=>(hs i).2
 rw [ec,PVl.mk_cells]
 have hn3:n≤3:=by omega
 clear hX hq hl hsz hs e1 hr
 obtain ⟨L,hL⟩:∃ L:Nat→List (List V),L=fun m=>ints (((List.range m).map xs).map fun (n:Nat)=>(n:Int)):=⟨_,rfl⟩
 have hL':∀ m,ints (((List.range m).map xs).map fun (n:Nat)=>(n:Int))=L m:=fun m=>by rw [hL]
 simp only [hL'] at hin hil hal hi0 hwl hII ⊢
 clear hL hL'
 refine en_ Tryz.func39 [.cell 4 36] fun g0 w0 gen hrel hfr hfr' hres=>?_
 have f1:=fresh_ne hfr hd
 have f2:=fresh_ne' hfr hd
 repeat' (first
  |(refine ⟨?_,?_⟩;focus ((repeat' (first|refine ⟨?_,?_⟩|refine .inr ?_));all_goals kernel_rfl))
  | (first|refine wp rfl ?_|refine spt rfl ?_|refine spf rfl ?_|(refine spl (fun hc=>?_) fun hc=>?_)<;>(try rw [beq_iff_eq] at hc)<;>try simp only [hc]|(refine ct (hN _) ?_ ?_;focus ((simp only [go_sem, *]<;>rfl);done)))<;>try simp only [go_sem, *])
 clear hN
 refine AR_loop_nat (fun i σ=>σ.tm 0=.ptr d 0∧σ.tm 4=.ptr ⟨gen,0,1⟩ 0∧σ.tm 5=.ptr ⟨gen,5,1⟩ 0∧σ.tm 6=.int .i64 ((n - i:Nat):Int)∧AgreeBut d h σ.h∧σ.h d=some (.box (deckC l (da i))) ∧
  σ.h ⟨gen,0,1⟩=some (.box [.int .i64 0,.int .i64 0,.sl .full [],.sl .full []]) ∧
  ∃ v,σ.h ⟨gen,5,1⟩=some (.box [.int .i64 2,.int .i64 0,v,.sl .full []])∧OwnS h σ.h v 1 (L i)) n ?_ ?_
 ·simp only [go_sem, *]
  exact ⟨by simp,by repeat (first|exact AgreeBut.refl _ _|refine AgreeBut.new ?_ (hfr' _ _)|refine AgreeBut.set ?_),_,rfl,.inl rfl⟩
 intro i σ hi ⟨j0,j4,j5,j6,jA,jd,jb1,v,jb2,jO0⟩
 refine AR_gen2 (fun gn hgl hgn=>?_)
 have hgf:=fresh_of hgn
 have hgf0:=agreeBut_fresh' hd jA hgf (fun r i e=>by have:=hfr d (by rw [hd];simp);rw [e] at this;simp at this;omega)
 have eg1:=gen_lt hgl
 have eg2:=gen_lt' hgl
 have fd:=fresh_ne2 hfr hd hgl
 have fe:=fresh_ne2' hfr hd hgl
 clear hgn
 rcases Nat.lt_or_ge i n with hlt|hge
 ·have hdec:decide (((n - i:Nat):Int)>0)=true:=by simp;omega
  have hw:IntKind.i64.wrap (((n - i:Nat):Int) - 1)=((n - (i+1):Nat):Int):=wrap_eq (by omega) (by omega) (by omega)
  have hn4:n<4:=by omega
  have hT0:=hT i
  have hse:=hin i
  have hel:=hil i
  have hal0:=hal i
  clear hT hin hil hal hi0 hwl hII
  generalize L (i+1)=L1 at *
  generalize L i=L0 at *
  repeat' (first
   |(refine ⟨?_,?_⟩;focus ((repeat' (first|refine ⟨?_,?_⟩|refine .inr ?_));all_goals kernel_rfl))
   |(refine okE_app_ownd jO0 (by repeat (first|exact Keeps.refl _|refine Keeps.new ?_ (hgf _ _)|refine Keeps.new ?_ (hfr' _ _)|refine Keeps.box ?_ rfl|refine Keeps.box ?_ (by simp only [go_sem, *]))) rfl (by simp only [go_sem, *]<;>omega) (by first|exact hgf0 _ _|exact hfr' _ _) (by simp only [go_sem, *]) (by intro hd e;simp only [logOk_cons,logOk_nil,and_true];repeat (first|exact trivial|refine ⟨.inr (by kernel_rfl),?_⟩|exact .inr (by kernel_rfl))) ?_;intro v' h' id' jO jK jAg jAb jF;obtain ⟨cO,rfl⟩:=jO.val;simp only [go_sem, *])
   | (first|refine wp rfl ?_|refine spt rfl ?_|refine spf rfl ?_|(refine spl (fun hc=>?_) fun hc=>?_)<;>(try rw [beq_iff_eq] at hc)<;>try simp only [hc]|(refine ct (hT0 _) ?_ ?_;focus ((simp only [go_sem, *]<;>rfl);done))|refine AR_inv ?_)<;>try simp only [go_sem, *])
  exact ⟨AgreeBut.new (jAb d (by repeat (first|exact jA|refine AgreeBut.new ?_ (hgf0 _ _)|refine AgreeBut.set ?_))) (hfr' _ _),_,rfl,jO.keep (Keeps.box (Keeps.refl _) (by simp only [go_sem, *]))⟩
 ·obtain rfl:i=n:=by omega
  have hdec:decide (((i - i:Nat):Int)>0)=false:=by simp
  obtain ⟨cO,rfl⟩:=jO0.val
  have hw1:=hwl i
  have hI1:=hII i
  clear hT hin hil hal hi0 hwl hII
  generalize L i=L0 at *
  exact wkT_
theorem c_Value (l:List Int) (hl:l.length≤1000) {t:Ty} (h:PlainTy t) (a:Nat) :
  ∃ v tm a',IsVl t v tm∧tmSz tm≤22∧∀ d,Turns Tryz.prog env 39 [.ptr d 0,.agg t.cells] d (.box (deckC l a)) (.agg v.cells) (.box (deckC l a')):=by
 have up:∀ n,n≤22→ValM l t n→∃ v tm a',IsVl t v tm∧tmSz tm≤22∧∀ d,Turns Tryz.prog env 39 [.ptr d 0,.agg t.cells] d (.box (deckC l a)) (.agg v.cells) (.box (deckC l a')):=by
  intro n hn hv
  obtain ⟨v,tm,a',h1,h2,h3⟩:=hv a
  exact ⟨v,tm,a',h1,by omega,h3⟩
 rcases h with rfl|rfl|rfl|rfl|rfl
 ·exact up _ (by omega) (c_ValueNat l hl)
 ·exact up _ (by omega) (c_ValueList l hl)
 ·exact up _ (by omega) (c_ValueUnit l hl)
 ·exact up _ (by omega) (c_ValuePair l (c_ValueNat l hl) (c_ValueList l hl))
 ·exact up _ (by omega) (c_ValuePair l (c_ValueNat l hl) (c_ValueNat l hl))
theorem c_uni21N (l:List Int) {a n a1 a2 a3 a4 a5 a6:Nat} (hn:n≤2) {s1 s2:Ty} {v1 v2:PVl} {f:Fm} {D:Nat→Nat} {G:Nat→List Ty} {W:Nat→List PVl}
  (d0:D 0=a1) (d1:D 1=a3) (d2:D 2=a5) (g0':G 0=[]) (g1:G 1=[s1]) (g2:G 2=[s1,s2]) (w0':W 0=[]) (w1:W 1=[v1]) (w2:W 2=[v1,v2])
  (hgl:(G n).length=n) (hgW:∀ t∈G n,TyW t) (hfW:FmW f)
  (hN:∀ d,Turns Tryz.prog env 20 [.ptr d 0,.int .i64 3] d (.box (deckC l a)) (.int .i64 n) (.box (deckC l a1)))
  (P1:∀ d,Turns Tryz.prog env 9 [.ptr d 0] d (.box (deckC l a1)) (.agg s1.cells) (.box (deckC l a2)))
  (V1:∀ d,Turns Tryz.prog env 39 [.ptr d 0,.agg s1.cells] d (.box (deckC l a2)) (.agg v1.cells) (.box (deckC l a3)))
  (P2:∀ d,Turns Tryz.prog env 9 [.ptr d 0] d (.box (deckC l a3)) (.agg s2.cells) (.box (deckC l a4)))
  (V2:∀ d,Turns Tryz.prog env 39 [.ptr d 0,.agg s2.cells] d (.box (deckC l a4)) (.agg v2.cells) (.box (deckC l a5)))
  (Tf:∀ d,Turns Tryz.prog env 40 [.ptr d 0,.sl .any ((G n).map Ty.cells),.int .i64 1] d (.box (deckC l (D n))) (.agg f.cells) (.box (deckC l a6))) :
  ∀ d,Turns Tryz.prog env 15 [.ptr d 0] d (.box (deckC l a)) (.tup [.agg (allF (G n) f).cells,.sl .any ((W n).map PVl.cells)]) (.box (deckC l a6)):=by
 intro d h hd
 refine en_ Tryz.func15 [.cell 2 45,.tmp 3] fun g0 w0 gen hrel hfr hfr' hres=>?_
 have f1:=fresh_ne hfr hd
 have f2:=fresh_ne' hfr hd
 repeat' (first
  |(refine ⟨?_,?_⟩;focus ((repeat' (first|refine ⟨?_,?_⟩|refine .inr ?_));all_goals kernel_rfl))
  | (first|refine wp rfl ?_|refine spt rfl ?_|refine spf rfl ?_|(refine spl (fun hc=>?_) fun hc=>?_)<;>(try rw [beq_iff_eq] at hc)<;>try simp only [hc]|(refine ct (hN _) ?_ ?_;focus ((simp only [go_sem, *]<;>rfl);done)))<;>try simp only [go_sem, *])
 clear hN
 refine AR_loop_nat (fun i σ=>σ.tm 0=.ptr d 0∧σ.tm 2=.ptr ⟨gen,0,0⟩ 0∧σ.tm 6=.int .i64 ((n - i:Nat):Int)∧AgreeBut d h σ.h∧σ.h d=some (.box (deckC l (D i))) ∧
  σ.h ⟨gen,0,0⟩=some (.box [.int .i64 0,.int .i64 0,.sl .full [],.sl .full [],.sl .full []]) ∧
  ((i=0∧σ.tm 4=.sl .full []∧σ.tm 5=.sl .full [])∨∃ ida idb,i≠0∧σ.tm 4=.sl (.own ida) ((G i).map Ty.cells)∧σ.tm 5=.sl (.own idb) ((W i).map PVl.cells) ∧
   σ.h ida=some (.tok i 2)∧σ.h idb=some (.tok i 4)∧h ida=none∧h idb=none)) n ?_ ?_
 ·simp only [go_sem, *]
  exact ⟨by simp,by repeat (first|exact AgreeBut.refl _ _|refine AgreeBut.new ?_ (hfr' _ _)|refine AgreeBut.set ?_)⟩
 intro i σ hi ⟨j0,j3,j7,jA,jd,jb,jr⟩
 refine AR_gen2 (fun gn hgl hgn=>?_)
 have hgf:=fresh_of hgn
 have hgf0:=agreeBut_fresh' hd jA hgf (fun r i e=>by have:=hfr d (by rw [hd];simp);rw [e] at this;simp at this;omega)
 have eg1:=gen_lt hgl
 have eg2:=gen_lt' hgl
 have fd:=fresh_ne2 hfr hd hgl
 have fe:=fresh_ne2' hfr hd hgl
 clear hgn
 rcases Nat.lt_or_ge i n with hlt|hge
 ·have hdec:decide (((n - i:Nat):Int)>0)=true:=by simp;omega
  have hw:IntKind.i64.wrap (((n - i:Nat):Int) - 1)=((n - (i+1):Nat):Int):=wrap_eq (by omega) (by omega) (by omega)
  rcases jr with ⟨rfl,j5,j6⟩|⟨ida,idb,hi0,j5,j6,ta,tb,na,nb⟩
  ·rw [d0] at jd
   clear P2 V2 Tf d2 g2 w2 hgl hgW hfW
   repeat' (first
    |(refine ⟨?_,?_⟩;focus ((repeat' (first|refine ⟨?_,?_⟩|refine .inr ?_));all_goals kernel_rfl))
    | (first|refine wp rfl ?_|refine spt rfl ?_|refine spf rfl ?_|(refine spl (fun hc=>?_) fun hc=>?_)<;>(try rw [beq_iff_eq] at hc)<;>try simp only [hc]|(refine ct (P1 _) ?_ ?_;focus ((simp only [go_sem, *]<;>rfl);done))|(refine ct (V1 _) ?_ ?_;focus ((simp only [go_sem, *]<;>rfl);done))|refine AR_inv ?_)<;>try simp only [go_sem, *])
   refine ⟨by repeat (first|exact jA|refine AgreeBut.new ?_ (hgf0 _ _)|refine AgreeBut.set ?_),⟨gn,7,3⟩,⟨gn,7,9⟩,?_⟩
   simp only [go_sem, *]
  ·obtain rfl:i=1:=by omega
   rw [d1] at jd
   rw [g1] at j5
   rw [w1] at j6
   have fa:∀ r i,(ida=(⟨gn,r,i⟩:GoAbs.Id))=False:=fun r i=>by simp;intro e;rw [e,hgf] at ta;cases ta
   have fb:∀ r i,(idb=(⟨gn,r,i⟩:GoAbs.Id))=False:=fun r i=>by simp;intro e;rw [e,hgf] at tb;cases tb
   have da:(ida=d)=False:=by simp;intro e;rw [e,hd] at na;cases na
   have db:(idb=d)=False:=by simp;intro e;rw [e,hd] at nb;cases nb
   have fab:(ida=idb)=False:=by simp;intro e;rw [e,tb] at ta;simp at ta
   have fba:(idb=ida)=False:=by simp;intro e;rw [e,ta] at tb;simp at tb
   have fa':∀ r i,((⟨gn,r,i⟩:GoAbs.Id)=ida)=False:=fun r i=>eq_false fun e=>of_eq_false (fa r i) e.symm
   have fb':∀ r i,((⟨gn,r,i⟩:GoAbs.Id)=idb)=False:=fun r i=>eq_false fun e=>of_eq_false (fb r i) e.symm
   have da':(d=ida)=False:=eq_false fun e=>of_eq_false da e.symm
   have db':(d=idb)=False:=eq_false fun e=>of_eq_false db e.symm
   have ga:((⟨gen,0,0⟩:GoAbs.Id)=ida)=False:=by simp;intro e;rw [← e,jb] at ta;simp at ta
   have gb:((⟨gen,0,0⟩:GoAbs.Id)=idb)=False:=by simp;intro e;rw [← e,jb] at tb;simp at tb
   simp only [List.map_cons,List.map_nil] at j5 j6
   clear P1 V1 Tf d0 d1 g0' g1 w0' w1 hgl hgW hfW
   repeat' (first
    |(refine ⟨?_,?_⟩;focus ((repeat' (first|refine ⟨?_,?_⟩|refine .inr ?_));all_goals kernel_rfl))
    | (first|refine wp rfl ?_|refine spt rfl ?_|refine spf rfl ?_|(refine spl (fun hc=>?_) fun hc=>?_)<;>(try rw [beq_iff_eq] at hc)<;>try simp only [hc]|(refine ct (P2 _) ?_ ?_;focus ((simp only [go_sem, *]<;>rfl);done))|(refine ct (V2 _) ?_ ?_;focus ((simp only [go_sem, *]<;>rfl);done))|refine AR_inv ?_)<;>try simp only [go_sem, *])
   refine ⟨by repeat (first|exact jA|refine AgreeBut.new ?_ (hgf0 _ _)|refine AgreeBut.new ?_ na|refine AgreeBut.new ?_ nb|refine AgreeBut.set ?_),ida,idb,?_⟩
   simp only [go_sem, *]
 ·obtain rfl:i=n:=by omega
  have hdec:decide (((i - i:Nat):Int)>0)=false:=by simp
  have hv:∃ ca cb,σ.tm 4=.sl ca ((G i).map Ty.cells)∧σ.tm 5=.sl cb ((W i).map PVl.cells):=by
   rcases jr with ⟨rfl,j5,j6⟩|⟨ida,idb,hi0,j5,j6,_⟩
   ·exact ⟨_,_,by rw [g0'];exact j5,by rw [w0'];exact j6⟩
   ·exact ⟨_,_,j5,j6⟩
  obtain ⟨ca,cb,j5,j6⟩:=hv
  have hwg:=weakLL_Ty (G i)
  have hwv:=weakLL_PVl (W i)
  have hst:=fun (j:Nat) (x:Ty) (hx:(G i)[j]? = some x)=>allF_step (f:=f) hx
  have hQ:=fun (j:Nat) (x:Ty) (hx:(G i)[j]? = some x)=>c_fmQ 4 x (allF ((G i).drop (j+1)) f) (hgW x (List.mem_of_getElem? hx)) (allF_W (fun y hy=>hgW y (List.mem_of_mem_drop hy)) hfW)
  have hd0:allF ((G i).drop (i - 0)) f=f:=by rw [Nat.sub_zero,List.drop_of_length_le (by omega)];rfl
  have hdn:allF ((G i).drop (i - i)) f=allF (G i) f:=by rw [Nat.sub_self,List.drop_zero]
  have hw0:IntKind.i64.wrap ((i:Int) - 1)=(i:Int) - 1:=wrap_eq rfl (by omega) (by omega)
  clear P1 V1 P2 V2 jr d0 d1 d2 g0' g1 g2 w0' w1 w2 hgW hfW
  generalize D i=di at *
  generalize W i=Wi at *
  repeat' (first
   |(refine ⟨?_,?_⟩;focus ((repeat' (first|refine ⟨?_,?_⟩|refine .inr ?_));all_goals kernel_rfl))
   | (first|refine wp rfl ?_|refine spt rfl ?_|refine spf rfl ?_|(refine spl (fun hc=>?_) fun hc=>?_)<;>(try rw [beq_iff_eq] at hc)<;>try simp only [hc]|(refine ct (Tf _) ?_ ?_;focus ((simp only [go_sem, *]<;>rfl);done)))<;>try simp only [go_sem, *])
  clear Tf
  refine AR_loop_nat (fun m σ'=>σ'.tm 9=.int .i64 ((i:Int) - 1 - m)∧σ'.tm 4=.sl ca ((G i).map Ty.cells)∧σ'.tm 5=.sl cb (Wi.map PVl.cells)∧σ'.tm 2=.ptr ⟨gen,0,0⟩ 0∧σ'.tm 8=.ptr ⟨gn,8,3⟩ 0 ∧
   σ'.h ⟨gen,0,0⟩=some (.box [.int .i64 0,.int .i64 0,.sl .full [],.sl .full [],.sl .full []])∧σ'.h ⟨gn,8,3⟩=some (.box (allF ((G i).drop (i - m)) f).cells)∧AgreeBut d h σ'.h∧σ'.h d=some (.box (deckC l a6))) i ?_ ?_
  ·simp only [go_sem, *]
   exact ⟨by simp,by repeat (first|exact jA|refine AgreeBut.new ?_ (hgf0 _ _)|refine AgreeBut.set ?_)⟩
  clear hd0 hw0 jA jd jb j0 j3 j7 j5 j6 hgf
  intro m σ' hm ⟨j9,j4,j5,j2,j8,jb0,jb8,jA,jd⟩
  have hw1:IntKind.i64.wrap ((i:Int) - 1 - (m:Int) - 1)=(i:Int) - 1 - (m:Int) - 1:=wrap_eq rfl (by omega) (by omega)
  rcases Nat.lt_or_ge m i with hlt|hge
  ·have hd1:decide ((i:Int) - 1 - (m:Int)≥0)=true:=by simp;omega
   have e0:i - (m+1)+1=i - m:=by omega
   obtain ⟨x,hx⟩:∃ x,(G i)[i - (m+1)]? = some x:=⟨_,List.getElem?_eq_getElem (by omega)⟩
   have hs1:=hst _ x hx
   have hq1:=hQ _ x hx
   rw [hs1] at hq1
   rw [e0] at hq1
   have e2:((i:Int) - 1 - (m:Int)).toNat=i - (m+1):=by omega
   have e3:0≤(i:Int) - 1 - (m:Int):=by omega
   have e4:(i:Int) - 1 - ((m+1:Nat):Int)=(i:Int) - 1 - (m:Int) - 1:=by omega
   clear hst hQ hs1 e0 hdn
   generalize allF ((G i).drop (i - m)) f=b' at *
   generalize allF ((G i).drop (i - (m+1))) f=b'' at *
   first|refine wq_ ?_|exact wk_
   all_goals first|exact jA|exact AgreeBut.new jA (hgf0 _ _)|skip
  ·have hd1:decide ((i:Int) - 1 - (m:Int)≥0)=false:=by simp;omega
   obtain rfl:m=i:=by omega
   rw [hdn] at jb8
   clear hst hQ hdn hm hge
   exact wkT_
def UniOk (l:List Int) (a:Nat):Prop:=∃ (g:List Ty) (vs:List PVl) (ts:List Tm) (f:Fm) (a':Nat),IsVls g vs ts∧g.length≤2∧(∀ t∈ts,tmSz t≤22)∧(∀ y∈g,PlainTy y)∧MkDec 1 g f∧FmW f ∧
  ∀ d,Turns Tryz.prog env 15 [.ptr d 0] d (.box (deckC l a)) (.tup [.agg (allF g f).cells,.sl .any (vs.map PVl.cells)]) (.box (deckC l a'))
theorem c_uni21 (l:List Int) (hl:l.length≤1000) (a:Nat):UniOk l a:=by
 have hr:=nextD_range (l:=l) (a:=a) (n:=3) (by omega) (by omega)
 have hX:=c_Next l hl
 generalize hq:nextD l a 3=q at hr
 obtain ⟨c,a1⟩:=q
 have hN:∀ d,Turns Tryz.prog env 20 [.ptr d 0,.int .i64 3] d (.box (deckC l a)) (.int .i64 c) (.box (deckC l a1)):=fun d=>by
  have:=hX d a 3
  rw [hq] at this
  exact this
 simp only at hr
 obtain ⟨s1,a2,p1,P1⟩:=c_Plain l hl a1
 obtain ⟨v1,m1,a3,i1,z1,V1⟩:=c_Value l hl p1 a2
 obtain ⟨s2,a4,p2,P2⟩:=c_Plain l hl a3
 obtain ⟨v2,m2,a5,i2,z2,V2⟩:=c_Value l hl p2 a4
 obtain ⟨n,hn,rfl⟩:∃ n:Nat,n≤2∧c=n:=⟨c.toNat,by omega,by omega⟩
 have k0:IsVls [] [] []:=.nil
 have k1:IsVls [s1] [v1] [m1]:=.snoc k0 i1 p1.G (by omega)
 have k2:IsVls [s1,s2] [v1,v2] [m1,m2]:=.snoc k1 i2 p2.G (by omega)
 have fin:∀ (g:List Ty) (vs:List PVl) (ts:List Tm) (b:Nat),IsVls g vs ts→g.length≤2→(∀ t∈ts,tmSz t≤22)→(∀ y∈g,PlainTy y)→(∀ (f:Fm) (a':Nat),FmW f→(∀ d,Turns Tryz.prog env 40 [.ptr d 0,.sl .any (g.map Ty.cells),.int .i64 1] d (.box (deckC l b)) (.agg f.cells) (.box (deckC l a'))) →
   ∀ d,Turns Tryz.prog env 15 [.ptr d 0] d (.box (deckC l a)) (.tup [.agg (allF g f).cells,.sl .any (vs.map PVl.cells)]) (.box (deckC l a')))→UniOk l a:=by
  intro g vs ts b h1 h2 h3 h4 h5
  obtain ⟨f,a',mf,wf,Tf⟩:=c_Decidable l hl 1 (by omega) g b (fun y hy=>(h4 y hy).mk) (by omega)
  exact ⟨g,vs,ts,f,a',h1,h2,h3,h4,mf,wf,h5 f a' wf Tf⟩
 have hc:n=0∨n=1∨n=2:=by omega
 have go:∀ (G:Nat→List Ty) (W:Nat→List PVl) (T:Nat→List Tm) (D:Nat→Nat),D 0=a1→D 1=a3→D 2=a5→G 0=[]→G 1=[s1]→G 2=[s1,s2]→W 0=[]→W 1=[v1]→W 2=[v1,v2]→T 0=[]→T 1=[m1]→T 2=[m1,m2]→UniOk l a :=
  fun G W T D d0 d1 d2 g0 g1 g2 w0 w1 w2 t0 t1 t2 =>
   have hp:∀ y∈G n,PlainTy y:=by
    rcases hc with rfl|rfl|rfl
    ·rw [g0];simp
    ·rw [g1];simp [p1]
    ·rw [g2];simp [p1,p2]
   have hgl:(G n).length=n:=by
    rcases hc with rfl|rfl|rfl
    ·rw [g0];rfl
    ·rw [g1];rfl
    ·rw [g2];rfl
   fin (G n) (W n) (T n) (D n)
   (by
    rcases hc with rfl|rfl|rfl
    ·rw [g0,w0,t0];exact k0
    ·rw [g1,w1,t1];exact k1
    ·rw [g2,w2,t2];exact k2)
   (by omega)
   (by
    rcases hc with rfl|rfl|rfl
    ·rw [t0];simp
    ·rw [t1];simp [z1]
    ·rw [t2];simp [z1,z2])
   hp
   (fun f a' wf Tf=>c_uni21N l hn d0 d1 d2 g0 g1 g2 w0 w1 w2 hgl (fun t ht=>(hp t ht).G.1.W) wf hN P1 V1 P2 V2 Tf)
 exact go (fun i=>[s1,s2].take i) (fun i=>[v1,v2].take i) (fun i=>[m1,m2].take i) (fun i=>if i=0 then a1 else if i=1 then a3 else a5) rfl rfl rfl rfl rfl rfl rfl rfl rfl rfl rfl rfl
end Go.Proofs.YteaijonkbbkkjaaGreatDoor
