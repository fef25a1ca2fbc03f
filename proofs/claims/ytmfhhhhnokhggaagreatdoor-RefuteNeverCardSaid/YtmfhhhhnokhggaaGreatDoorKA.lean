/-
 Walks: several parts in one text.
-/
import Derived.Test.YtmfhhhhnokhggaaGreatDoorK7
import Derived.Test.YtmfhhhhnokhggaaGreatDoorK6
import Derived.Shelf.Abstract
import Derived.OwnWalkIn
import Derived.TacticsInMore
import Derived.LoopNIn
import Derived.LoopIn
import Derived.BigRegionIn
set_option linter.unusedSimpArgs false
set_option linter.unusedVariables false
set_option maxRecDepth 20000
set_option maxHeartbeats 4000000
set_option maxRecDepth 100000
namespace Go.Proofs.YtmfhhhhnokhggaaGreatDoor
open Go GoAbs Go.Proofs
variable {d:GoAbs.Id} {most:Nat} {t:Tm} {ve:V}
theorem dq9 {w:V}:ag5 d most most most true t ve w:=by
 unfold ag5 evR ak9 mb;simp only [p7,E7];intro h hd;have k0:decide ((most:Int)>=(most:Int))=true:=by simp
 exact n_ Tryz.func282 [.tmp 6,.tmp 7]
variable {u:Nat}
theorem dr0 {i:Nat} {v:V} (hu:u<most) (hm:most<=65536) (hk:t.kind=1) (hi:t.index=(i:Int)) (hv:IsI v)
  (hA:c_ env 287 [ve,.int .i64 i] v) (hE:IsE ve):ag5 d most u (u+1) false t ve v:=by
 unfold ag5 evR ak9 mb;simp only [B2,r6,M9];obtain ⟨v1,v2,rfl,wv,iv⟩:=hv;intro h hd;have k0:decide ((u:Int)>=(most:Int))=false:=by simp;omega
 have w0:=E2 (i:=u) a_;clear hu hm;refine g_ Tryz.func282 [.tmp 6,.tmp 7] fun g0 w0 gen g9 hfr e9 n8=>?_;have f1:=n9 hfr hd;have f2:=p6 hfr hd;rcases hE with rfl|⟨vc,rfl,we,ie⟩
 all_goals
  exact ah3
theorem dq8 {b:Tm} (hu:u<most) (hm:most<=65536) (hk:t.kind=2) (hb:t.args=[b]) (hE:IsE ve):ag5 d most u (u+1) false t ve (cn6 b ve):=by
 unfold ag5 evR ak9 mb cn6;simp only [B2,r6,M9];intro h hd;have k0:decide ((u:Int)>=(most:Int))=false:=by simp;omega
 have w0:=E2 (i:=u) a_;have hbc:=Tm.l4 b;rw [hbc];simp only [R9,Q3];clear hu hm;refine g_ Tryz.func282 [.tmp 6,.tmp 7] fun g0 w0 gen g9 hfr e9 n8=>?_;have f1:=n9 hfr hd;have f2:=p6 hfr hd;rcases hE with rfl|⟨vc,rfl,we,ie⟩
 all_goals
  exact ah3
theorem cX0 {u1:Nat} {w:V} {vs:List V} (hu:u<most) (hm:most<=65536) (hk1:(t.kind==1)=false) (hk2:(t.kind==2)=false) (hE:IsE ve)
  (hl:vs.length<=2) (hv:∀ v∈vs,IsI v)
  (hA:m_ env 288 [.ptr d 0,.sl .any (t.args.map Tm.cells),ve] d (mb (u+1) most) (.tup [.agg (cf2 vs),.bool false]) (mb u1 most)):ag5 d most u u1 true t ve w:=by
 unfold ag5 evR ak9 mb;unfold mb at hA;simp only [p7,E7];have k0:decide ((u:Int)>=(most:Int))=false:=by simp;omega
 have w0:=E2 (i:=u) a_;clear hu hm
 match vs,hl with
 | [],_ =>
  rw [bS8] at hA;clear hv;intro h hd;refine g_ Tryz.func282 [.tmp 6,.tmp 7] fun g0 w0 gen g9 hfr e9 n8=>?_;have f1:=n9 hfr hd;have f2:=p6 hfr hd;rcases hE with rfl|⟨vc,rfl,we,ie⟩
  all_goals
   exact ah3
 | [a],_ =>
  obtain ⟨a1,a2,rfl,aw,ai⟩:=hv a b_;rw [bS9] at hA;clear hv;intro h hd;refine g_ Tryz.func282 [.tmp 6,.tmp 7] fun g0 w0 gen g9 hfr e9 n8=>?_;have f1:=n9 hfr hd;have f2:=p6 hfr hd;rcases hE with rfl|⟨vc,rfl,we,ie⟩
  all_goals
   exact ah3
 | [a,b],_ =>
  obtain ⟨a1,a2,rfl,aw,ai⟩:=hv a b_;obtain ⟨b1,b2,rfl,bw,bi⟩:=hv b b_;rw [bT0] at hA;clear hv;intro h hd;refine g_ Tryz.func282 [.tmp 6,.tmp 7] fun g0 w0 gen g9 hfr e9 n8=>?_;have f1:=n9 hfr hd;have f2:=p6 hfr hd;rcases hE with rfl|⟨vc,rfl,we,ie⟩
  all_goals
   exact ah3
 | _::_::_::_,hl=>simp at hl
inductive EvC:Int->List V->V->Prop
 | c4:EvC 4 [.L3,.L3,.L3] (an7 0)
 | c5 {n:Nat} (h:n<=100000):EvC 5 [an7 n,.L3,.L3] (an7 (n+1))
 | c7:EvC 7 [.L3,.L3,.L3] (.iface 300 .U3)
 | c10 {a b:V} (h:IsI a) (h':IsI b):EvC 10 [a,b,.L3] (.iface 303 (.el [a,b] 0))
 | c11 {a b:V} (h:IsI a) (h':IsI b):EvC 11 [.iface 303 (.el [a,b] 0),.L3,.L3] a
 | c12 {a b:V} (h:IsI a) (h':IsI b):EvC 12 [.iface 303 (.el [a,b] 0),.L3,.L3] b
 | c13:EvC 13 [.L3,.L3,.L3] (.iface 307 (.agg []))
section
variable {d:GoAbs.Id} {most u u1 u2:Nat} {t:Tm} {ve w a b c:V} (hu:u<most) (hm:most<=65536) (hE:IsE ve)
include hu hm hE
theorem bt9 {k:Int} {A:List V} (hk:t.kind=k) (hC:EvC k A w)
  (hA:m_ env 288 [.ptr d 0,.sl .any (t.args.map Tm.cells),ve] d (mb (u+1) most) (.tup [.agg A,.bool true]) (mb u1 most)):ag5 d most u u1 false t ve w:=by
 unfold ag5 evR mb;unfold mb at hA;unfold ak9;simp only [B2,r6,M9];have k0:decide ((u:Int)>=(most:Int))=false:=by simp;omega
 have w0:=E2 (i:=u) a_;have x0:((0:Int)<((3:Nat):Int))=True:=by simp
 have x1:((1:Int)<((3:Nat):Int))=True:=by simp
 have x2:((2:Int)<((3:Nat):Int))=True:=by simp
 have z0:((0:Nat):Int)=0:=rfl;clear hu hm;rcases hC with _ | @⟨n,hn⟩|_|⟨⟨a1,a2,rfl,aw,ai⟩,⟨b1,b2,rfl,bw,bi⟩⟩|⟨⟨a1,a2,rfl,aw,ai⟩,⟨b1,b2,rfl,bw,bi⟩⟩|⟨⟨a1,a2,rfl,aw,ai⟩,⟨b1,b2,rfl,bw,bi⟩⟩|_
 all_goals
  try have wn:=E2 (i:=n) a_
  try simp only [an7] at *
  intro h hd;refine g_ Tryz.func282 [.tmp 6,.tmp 7] fun g0 w0 gen g9 hfr e9 n8=>?_;have f1:=n9 hfr hd;have f2:=p6 hfr hd;rcases hE with rfl|⟨vc,rfl,we,ie⟩
  all_goals
   exact ah3
theorem cX1 (haI:IsI a) (hbI:IsI b)
  (hA:m_ env 288 [.ptr d 0,.sl .any (t.args.map Tm.cells),ve] d (mb (u+1) most) (.tup [.agg [a,b,c],.bool true]) (mb u1 most)) {o:Bool} (hw:o=false->IsI w)
  (hT:(t.kind=3/\c=.L3/\m_ env 283 [.ptr d 0,a,.sl .any [[b]]] d (mb u1 most) (evR o w) (mb u2 most))\/(IsI c/\((t.kind=6/\m_ env 289 [.ptr d 0,.agg [a,b,c]] d (mb u1 most) (evR o w) (mb u2 most)) \/
   (t.kind=9/\m_ env 290 [.ptr d 0,.agg [a,b,c]] d (mb u1 most) (evR o w) (mb u2 most))))):ag5 d most u u2 o t ve w:=by
 unfold ag5 evR mb;unfold mb at hA;unfold mb evR at hT;have xw:J5 (ak9 o w)=ak9 o w:=by
  cases o with
  | true=>rfl
  | false=>obtain ⟨q1,q2,rfl,q3,_⟩:=hw rfl;simp [ak9,J5,q3]
 have xi:∀ S,InV S (ak9 o w)=True:=by
  intro S;cases o with
  | true=>simp [ak9,InV]
  | false=>obtain ⟨q1,q2,rfl,_,q3⟩:=hw rfl;simp [ak9,InV,q3]
 generalize ak9 o w=x at *;clear hw;obtain ⟨a1,a2,rfl,aw,ai⟩:=haI;obtain ⟨b1,b2,rfl,bw,bi⟩:=hbI;have k0:decide ((u:Int)>=(most:Int))=false:=by simp;omega
 have w0:=E2 (i:=u) a_;have x0:((0:Int)<((3:Nat):Int))=True:=by simp
 have x1:((1:Int)<((3:Nat):Int))=True:=by simp
 have x2:((2:Int)<((3:Nat):Int))=True:=by simp
 clear hu hm;intro h hd;rcases hT with ⟨hk,rfl,hT⟩|⟨⟨c1,c2,rfl,cw,ci⟩,⟨hk,hT⟩|⟨hk,hT⟩⟩
 all_goals
  refine g_ Tryz.func282 [.tmp 6,.tmp 7] fun g0 w0 gen g9 hfr e9 n8=>?_;have f1:=n9 hfr hd;have f2:=p6 hfr hd;rcases hE with rfl|⟨vc,rfl,we,ie⟩
  all_goals
   exact ah3
end
theorem dT0 {u1 n:Nat} {w:V} {a b c:V} (hu:u<most) (hm:most<=65536) (hk:t.kind=8) (hE:IsE ve) {l:List Nat}
  (hA:m_ env 288 [.ptr d 0,.sl .any (t.args.map Tm.cells),ve] d (mb (u+1) most) (.tup [.agg [an7 n,.iface 300 (Z9 l),.L3],.bool true]) (mb u1 most)):ag5 d most u u1 false t ve (.iface 300 (.el [.int .i64 n,Z9 l] 0)):=by
 unfold ag5 evR mb;unfold mb at hA;simp only [an7] at *;unfold ak9;simp only [B2,r6,M9];have hl1:=aj0 l;have hl2:∀ S,InV S (Z9 l)=True:=fun S=>eq_true (ba3 l);have hl3:Z9 l=.U3\/∃ c,Z9 l=.el c 0/\B1 c=c:=by
  cases l with
  | nil=>exact .inl rfl
  | cons x l=>exact .inr ⟨_,rfl,by simp [B1,J5,aj0]⟩
 generalize Z9 l=cv at *;intro h hd;have k0:decide ((u:Int)>=(most:Int))=false:=by simp;omega
 have w0:=E2 (i:=u) a_;have x0:((0:Int)<((3:Nat):Int))=True:=by simp
 have x1:((1:Int)<((3:Nat):Int))=True:=by simp
 have x2:((2:Int)<((3:Nat):Int))=True:=by simp
 clear hu hm;refine g_ Tryz.func282 [.tmp 6,.tmp 7] fun g0 w0 gen g9 hfr e9 n8=>?_;have f1:=n9 hfr hd;have f2:=p6 hfr hd;rcases hE with rfl|⟨vc,rfl,we,ie⟩
 all_goals rcases hl3 with rfl|⟨q,rfl,qw⟩
 all_goals try (have hl4:∀ S,InL S q=True:=fun S=>by have:=hl2 S;rwa [InV] at this)
 all_goals try clear hl1 hl2
 all_goals
  exact ah3
open Go.RowKit Go.Shelf
theorem do0 (l pb po b off len cap:Nat) (elm:Nat->Value) (hreach:len * 8<=140737488351232) (K:Nat->World->Prop) (Kx:World->Prop)
  (hr:∀ i W,i<=len->K i W->W.cell? ⟨pb,po,none⟩=some (.slice (some ⟨b,off,none⟩) len cap)/\∀ j,j<len->W.cell? ⟨b,off+j,none⟩=some (elm j))
  (hY:∀ (i:Nat) W,i<len->K (i+1) W->YieldAt Fence.wide (0 - 1) Tryz.prog l #[.int .i64 (i:Int),elm i] W fun e W'=>(e=.returned (.bool true)/\K i W')\/(e=.returned (.bool false)/\Kx W'))
  (W:World) (h0:K len W) :
  CallsIn Fence.wide 0 Tryz.prog 292 #[.func (.yield l) #[] #[],.pointer (some ⟨pb,po,none⟩)] W fun e W'=>(∃ v,e=.returned v)/\(K 0 W'\/Kx W'):=by
 refine aG7 Tryz.func292 rfl trivial ?_ rfl;simp only [Tryz.ntmps292,aG4,J1,S0,Nat.reduceAdd,Nat.reduceSub,aG1,aG0,aG5,aG3,Q3,R9];obtain ⟨hBs,hc⟩:=hr _ _ (w7 _) h0
 gi_wp2
 gi_loopw [3] (fun i wr=>∃ k:Nat,k<=len/\i=.int .i64 ((k:Int) - 1)/\K k wr) (fun i _=>(intOf i+1).toNat)
 case atStart=>exact ⟨len,w7 _,rfl,h0⟩
 case round =>
  obtain ⟨k,hk,rfl,hJs⟩:=hrel;obtain ⟨hBs',hc'⟩:=hr _ _ hk hJs;rcases k with _|k
  ·gi_wp2
   go_end0
   exact ⟨⟨_,rfl⟩,.inl hJs⟩
  ·have hcx:=hc' k a_
   obtain ⟨fn,tmps,assign,body,hy,hR⟩:=hY k wr a_ hJs;rw [show (((k+1:Nat):Int) - 1)=(k:Int) by omega]
   gi_wp2
   refine ⟨rfl,hR.mono ?_⟩;rintro e W3 (⟨rfl,hJ3⟩|⟨rfl,hJx3⟩)
   ·gi_wp2
    go_roundw
    case rel=>exact ⟨k,a_,rfl,hJ3⟩
    case measure=>simp [intOf]
   ·gi_wp2
    refine aW5 (aL9 rfl _ _ _) rfl ?_;exact ⟨⟨_,rfl⟩,.inr hJx3⟩
theorem cV0 (l pb po:Nat) (a:Option Addr) (cap:Nat) (W:World) (Q:World->Prop) (hBs:W.cell? ⟨pb,po,none⟩=some (.slice a 0 cap)) (h0:Q W) :
  CallsIn Fence.wide 0 Tryz.prog 292 #[.func (.yield l) #[] #[],.pointer (some ⟨pb,po,none⟩)] W fun e W'=>(∃ v,e=.returned v)/\Q W':=by
 refine aG7 Tryz.func292 rfl trivial ?_ rfl;simp only [Tryz.ntmps292,aG4,J1,S0,Nat.reduceAdd,Nat.reduceSub,aG1,aG0,aG5,aG3,Q3,R9]
 gi_wp2
 gi_loopw [3] (fun i wr=>i=.int .i64 (-1)/\Q wr) (fun _ _=>0)
 case atStart=>exact ⟨rfl,h0⟩
 case round =>
  obtain ⟨rfl,hJs⟩:=hrel
  gi_wp2
  go_end0
  exact ⟨⟨_,rfl⟩,hJs⟩
theorem do1:cj4 Tryz.prog 292 where
 call:=⟨_,Tryz.func292,rfl,by kernel_rfl⟩
 go:=fun l pb po a len cap elm K Kx aP3 ha hr hY W h0=>by
  by_cases hl:len=0
  ·subst hl
   exact (cV0 l pb po a cap W (K 0) (hr 0 W (w7 _) h0).1 h0).mono fun e w' h=>⟨h.1,.inl h.2⟩
  ·obtain ⟨b,off,rfl⟩:=ha hl
   exact do0 l pb po b off len cap elm aP3 K Kx (fun i W hi hK=>⟨(hr i W hi hK).1,fun j hj=>(hr i W hi hK).2 b off rfl j hj⟩) hY W h0
theorem cl7 {c:Cap} {es:List (List V)}:c_ env 291 [.sl c es] (.fn (.func 292) [] [.el [.sl .any es] 0]):=by
 refine aY5 (ty:=319) ⟨_,Tryz.func291,rfl,by kernel_rfl⟩ fun a len cap w=>callsIn_wide.1 (?_:CallsIn Fence.wide 0 _ _ _ _ _);refine aG7 (n:=0) Tryz.func291 rfl trivial ?_ rfl;simp only [Tryz.ntmps291,aG4,J1,S0,Nat.reduceAdd,Nat.reduceSub,aG1,aG0,aG5,aG3,Q3,R9]
 gi_wp2
 go_ret
 exact ⟨rfl,rfl⟩
open Go.RowKit Go.Shelf
theorem dg0 (l pb po cap:Nat) (a:Option Addr) (K:Nat->World->Prop) (Kx:World->Prop)
  (hal:∀ i W o,K i W->K i (W.alloc o)) (hdr:∀ i W,K i W->K i W.drew)
  (hr:∀ i W,K i W->W.cell? ⟨pb,po,none⟩=some (.int .i64 1)/\W.cell? ⟨pb,po+1,none⟩=some (.slice a 0 cap))
  (hY:∀ W,K 1 W->YieldAt Fence.wide (0 - 1) Tryz.prog l #[.agg #[.int .i64 1,.slice a 0 cap]] W fun e W'=>(e=.returned (.bool true)/\K 0 W')\/(e=.returned (.bool false)/\Kx W'))
  (W:World) (h0:K 1 W) :
  CallsIn Fence.wide 0 Tryz.prog 156 #[.func (.yield l) #[] #[],.pointer (some ⟨pb,po,none⟩)] W fun e W'=>(∃ v,e=.returned v)/\(K 0 W'\/Kx W'):=by
 refine aG7 Tryz.func156 rfl trivial ?_ rfl;simp only [Tryz.ntmps156,aG4,J1,S0,Nat.reduceAdd,Nat.reduceSub,aG1,aG0,aG5,aG3,Q3,R9];obtain ⟨c0,c1⟩:=hr _ _ h0
 gi_wp2
 gi_loopw [3] (fun s wr=>(s=.slice (some ⟨W.heap.size,0,none⟩) 1 1/\K 1 wr/\wr.cell? ⟨W.heap.size,0,none⟩=some (.int .i64 1)/\wr.cell? ⟨W.heap.size,1,none⟩=some (.slice a 0 cap)) \/
  (s=.slice (some ⟨W.heap.size,0,none⟩) 0 1/\K 0 wr)) (fun s _=>match s with | .slice _ n _=>n|_=>0)
 case atStart=>exact .inl ⟨rfl,hal _ _ _ h0,by simp [aW2],by simp [aW2]⟩
 case round =>
  rcases hrel with ⟨rfl,hJs,d0,d1⟩|⟨rfl,hJs⟩
  ·cases a with
   | none =>
    gi_wp2
    gi_region
    obtain ⟨fn,tmps,assign,body,hy,hR⟩:=hY _ (hdr _ _ (hal _ wr (.cells #[.int .i64 1,.slice none 0 cap] 29) hJs))
    gi_wp2
    refine ⟨rfl,hR.mono ?_⟩;rintro e W3 (⟨rfl,hJ3⟩|⟨rfl,hJx3⟩)
    ·gi_wp2
     go_roundw
     case rel=>exact .inr ⟨rfl,hJ3⟩
     case measure=>simp
    ·gi_wp2
     refine aW5 (aL9 rfl _ _ _) rfl ?_;exact ⟨⟨_,rfl⟩,.inr hJx3⟩
   | some ad =>
    gi_wp2
    gi_region
    obtain ⟨fn,tmps,assign,body,hy,hR⟩:=hY _ (hdr _ _ (hal _ wr (.cells #[.int .i64 1,.slice (some ad) 0 cap] 29) hJs))
    gi_wp2
    refine ⟨rfl,hR.mono ?_⟩;rintro e W3 (⟨rfl,hJ3⟩|⟨rfl,hJx3⟩)
    ·gi_wp2
     go_roundw
     case rel=>exact .inr ⟨rfl,hJ3⟩
     case measure=>simp
    ·gi_wp2
     refine aW5 (aL9 rfl _ _ _) rfl ?_;exact ⟨⟨_,rfl⟩,.inr hJx3⟩
  ·gi_wp2
   go_end0
   exact ⟨⟨_,rfl⟩,.inl hJs⟩
theorem dx7:cS7 Tryz.prog 156 where
 call:=⟨_,Tryz.func156,rfl,by kernel_rfl⟩
 go:=fun l pb po a cap K Kx hal hdr hr hY W h0=>dg0 l pb po cap a K Kx hal hdr hr hY W h0
theorem cK4:c_ env 97 [.agg c8.cells] (.fn (.func 156) [] [.el [.int .i64 1,.sl .any []] 0]):=by
 refine cg0 (ty:=29) ⟨_,Tryz.func97,rfl,by kernel_rfl⟩ (cs:=[.int .i64 1,.sl .any []]) fun vs hvs w=>callsIn_wide.1 (?_:CallsIn Fence.wide 0 _ _ _ _ _);obtain ⟨x,y,rfl⟩:∃ x y,vs=#[x,y]:=by
  refine ⟨vs[0]'(by rw [hvs];simp),vs[1]'(by rw [hvs];simp),?_⟩;apply Array.ext
  ·simpa using hvs
  ·intro i h1 h2
   match i with
   | 0=>rfl
   | 1=>rfl
   | i+2=>exact absurd h2 b_
 refine aG7 (n:=0) Tryz.func97 rfl trivial ?_ rfl;simp only [Tryz.ntmps97,aG4,J1,S0,Nat.reduceAdd,Nat.reduceSub,aG1,aG0,aG5,aG3,Q3,R9]
 gi_wp2
 go_ret
 exact ⟨rfl,rfl⟩
theorem dI2:c_ env 57 [.agg c8.cells] (.tup [.bool true,.int .i64 0]):=by
 intro h;have hc:=ag7 c8 TyG.nat.1.W;rw [TyG.nat.err] at hc;have hn:=cK4;have ec:c8.cells=[.int .i64 1,.sl .any []]:=by rw [R8];rfl
 rw [ec] at hc hn ⊢;have n0:((0:Int) != 0)=false:=rfl;clear ec;refine M8 Tryz.func57 rfl h_ fun g0 w0 gen g9 hfr=>?_;have e9:∀ r i,h ⟨gen,r,i⟩=none:=o0 hfr;have n8:Tryz.f57.results.toList=[.cell 2 4,.cell 3 44]:=rfl;have hl0:∀ b,w0.heap.size<=b->g0.lim b=0:=g9.B3;refine ae9 ?_;simp only [ag9,W8,aa5,ak0,aj2,aC4,R9,Q3,E0,B7,ae7];refine aj7 (J:=fun σ=>σ.tm 2=.ptr ⟨gen,0,1⟩ 0/\σ.tm 3=.ptr ⟨gen,0,2⟩ 0/\σ.tm 12=.fn (.func 156) [] [.el [.int .i64 1,.sl .any []] 0]/\m8 h σ.h /\
  σ.h ⟨gen,0,1⟩=some (.box [.bool false])/\σ.h ⟨gen,0,2⟩=some (.box [.int .i64 0])) [_,_,_,_,_] h_ follows ?_ ?_
 ·simp only [E0,B7,R9,Q3]
  refine e_ ?_;exact f_
 ·rintro σ ⟨j2,j3,j12,jA,jb1,jb2⟩
  refine x6 ?_;refine cR9 dx7 j12 (ah5 h_)
   (fun i hi=>m8 h hi/\hi ⟨gen,0,1⟩=some (.box [.bool false])/\hi ⟨gen,0,2⟩=some (.box [.int .i64 0])) (fun _ _=>False) ⟨jA,jb1,jb2⟩ ?_ ?_ (fun _ _ _ h=>h.elim)
  ·intro xa xb gr hi oka okb hgr ⟨jA,jb1,jb2⟩ mid fin _
   refine al0 (fun gm hgm=>?_);have hgf:∀ r i,hi ⟨gm,r,i⟩=none:=o0 hgm;have l6:=fun r i=>F3 jA (hgf r i);have hg1:gen<gm:=hgm ⟨gen,0,1⟩ (by simp [jb1]);have e1:=o7 hg1;have e2:=n6 hg1;clear hgm;refine o6 oka follows h_ ?_;simp only [go_sem, *];refine mid _ _ ?_;clear mid;refine u_ ?_;exact fin _ _ ⟨by repeat (first|exact jA|refine m8.new ?_ (l6 _ _)),j_,j_⟩
  ·rintro D h' ⟨jA,jb1,jb2⟩
   have okD:=bM5 ⟨Tryz.prog,env,Tryz.f57.ntmps,Tryz.f57,g0,w0,h,.tup [.bool true,.int .i64 0],h⟩ D
   repeat' (first
    |(refine ⟨?_,?_⟩;focus ((repeat' (first|refine ⟨?_,?_⟩|refine .inr ?_));all_goals kernel_rfl))
    |exact agf l_
    | (first|refine A4 ?_|refine o6 okD follows h_ ?_|refine u7 ?_|refine x6 ?_|refine N2 ?_|refine E1 ?_|refine K6 ?_|refine s7 ?_|refine F9 (by decide) ?_|refine C7 ?_|refine E3 ?_|refine spt rfl ?_|refine spf rfl ?_|refine ag4 follows hl0 ?_|refine Y7 g9 ?_ ?_ ?_)<;>try simp only [go_sem, *])
end Go.Proofs.YtmfhhhhnokhggaaGreatDoor
