/-
 Walks: the iterators that go through rows of numbers and of terms from their ends.
-/
import Derived.Test.YteaijonkbbkkjaaGreatDoorMa
import Derived.Test.YteaijonkbbkkjaaGreatDoorAbsDb
import Derived.Shelf.Abstract
import Derived.OwnWalkIn
import Derived.TacticsInMore
import Derived.LoopNIn
import Derived.LoopIn
set_option linter.unusedSimpArgs false
set_option linter.unusedVariables false
set_option maxRecDepth 100000
set_option maxHeartbeats 4000000
namespace Go.Proofs.YteaijonkbbkkjaaGreatDoor
open Go GoAbs Go.Proofs
open Go.RowKit Go.Shelf
theorem ci3 (l pb po b off len cap:Nat) (elm:Nat→Value) (hreach:len * 8≤140737488351232) (K:Nat→World→Prop) (Kx:World→Prop)
  (hr:∀ i W,i≤len→K i W→W.cell? ⟨pb,po,none⟩=some (.slice (some ⟨b,off,none⟩) len cap)∧∀ j,j<len→W.cell? ⟨b,off+j,none⟩=some (elm j))
  (hY:∀ (i:Nat) W,i<len→K (i+1) W→YieldAt Fence.wide (0 - 1) Tryz.prog l #[.int .i64 (i:Int),elm i] W fun e W'=>(e=.returned (.bool true)∧K i W')∨(e=.returned (.bool false)∧Kx W'))
  (W:World) (h0:K len W) :
  CallsIn Fence.wide 0 Tryz.prog 198 #[.func (.yield l) #[] #[],.pointer (some ⟨pb,po,none⟩)] W fun e W'=>(∃ v,e=.returned v)∧(K 0 W'∨Kx W'):=by
 refine callsIn_of_wp Tryz.func198 rfl trivial ?_ rfl;simp only [Tryz.ntmps198,List.size_toArray,List.length_cons,List.length_nil,Nat.reduceAdd,Nat.reduceSub,Array.replicate_succ,Array.replicate_zero,List.push_toArray,List.append_toArray,List.nil_append,List.cons_append];obtain ⟨hBs,hc⟩:=hr _ _ (Nat.le_refl _) h0
 gi_wp2
 gi_loopw [3] (fun i wr=>∃ k:Nat,k≤len∧i=.int .i64 ((k:Int) - 1)∧K k wr) (fun i _=>(intOf i+1).toNat)
 case atStart=>exact ⟨len,Nat.le_refl _,rfl,h0⟩
 case round =>
  obtain ⟨k,hk,rfl,hJs⟩:=hrel;obtain ⟨hBs',hc'⟩:=hr _ _ hk hJs;rcases k with _|k
  ·gi_wp2
   go_end0
   exact ⟨⟨_,rfl⟩,.inl hJs⟩
  ·have hcx:=hc' k om_
   obtain ⟨fn,tmps,assign,body,hy,hR⟩:=hY k wr om_ hJs;rw [show (((k+1:Nat):Int) - 1)=(k:Int) by omega]
   gi_wp2
   refine ⟨rfl,hR.mono ?_⟩;rintro e W3 (⟨rfl,hJ3⟩|⟨rfl,hJx3⟩)
   ·gi_wp2
    go_roundw
    case rel=>exact ⟨k,om_,rfl,hJ3⟩
    case measure=>simp [intOf]
   ·gi_wp2
    refine bodyPost_ret (results_none rfl _ _ _) rfl ?_;exact ⟨⟨_,rfl⟩,.inr hJx3⟩
theorem bY4 (l pb po:Nat) (a:Option Addr) (cap:Nat) (W:World) (Q:World→Prop) (hBs:W.cell? ⟨pb,po,none⟩=some (.slice a 0 cap)) (h0:Q W) :
  CallsIn Fence.wide 0 Tryz.prog 198 #[.func (.yield l) #[] #[],.pointer (some ⟨pb,po,none⟩)] W fun e W'=>(∃ v,e=.returned v)∧Q W':=by
 refine callsIn_of_wp Tryz.func198 rfl trivial ?_ rfl;simp only [Tryz.ntmps198,List.size_toArray,List.length_cons,List.length_nil,Nat.reduceAdd,Nat.reduceSub,Array.replicate_succ,Array.replicate_zero,List.push_toArray,List.append_toArray,List.nil_append,List.cons_append]
 gi_wp2
 gi_loopw [3] (fun i wr=>i=.int .i64 (-1)∧Q wr) (fun _ _=>0)
 case atStart=>exact ⟨rfl,h0⟩
 case round =>
  obtain ⟨rfl,hJs⟩:=hrel
  gi_wp2
  go_end0
  exact ⟨⟨_,rfl⟩,hJs⟩
theorem ct0:bD6 Tryz.prog 198 where
 call:=⟨_,Tryz.func198,rfl,by kernel_rfl⟩
 go:=fun l pb po a len cap elm K Kx ay8 ha hr hY W h0=>by
  by_cases hl:len=0
  ·subst hl
   exact (bY4 l pb po a cap W (K 0) (hr 0 W (Nat.le_refl _) h0).1 h0).mono fun e w' h=>⟨h.1,.inl h.2⟩
  ·obtain ⟨b,off,rfl⟩:=ha hl
   exact ci3 l pb po b off len cap elm ay8 K Kx (fun i W hi hK=>⟨(hr i W hi hK).1,fun j hj=>(hr i W hi hK).2 b off rfl j hj⟩) hY W h0
theorem bu7 {c:Cap} {es:List (List V)}:Pure Tryz.prog env 167 [.sl c es] (.fn (.func 198) [] [.el [.sl .any es] 0]):=by
 refine aG8 (ty:=22) ⟨_,Tryz.func167,rfl,by kernel_rfl⟩ fun a len cap w=>callsIn_wide.1 (?_:CallsIn Fence.wide 0 _ _ _ _ _);refine callsIn_of_wp (n:=0) Tryz.func167 rfl trivial ?_ rfl;simp only [Tryz.ntmps167,List.size_toArray,List.length_cons,List.length_nil,Nat.reduceAdd,Nat.reduceSub,Array.replicate_succ,Array.replicate_zero,List.push_toArray,List.append_toArray,List.nil_append,List.cons_append]
 gi_wp2
 go_ret
 exact ⟨rfl,rfl⟩
theorem cg1 (l pb po b off len cap:Nat) (elm:Nat→Value) (hreach:len * 8≤140737488351232) (K:Nat→World→Prop) (Kx:World→Prop)
  (hr:∀ i W,i≤len→K i W→W.cell? ⟨pb,po,none⟩=some (.slice (some ⟨b,off,none⟩) len cap)∧∀ j,j<len * 5→W.cell? ⟨b,off+j,none⟩=some (elm j))
  (hY:∀ (i:Nat) W,i<len→K (i+1) W→YieldAt Fence.wide (0 - 1) Tryz.prog l #[.int .i64 (i:Int),.agg #[elm (i * 5),elm (i * 5+1),elm (i * 5+2),elm (i * 5+3),elm (i * 5+4)]] W fun e W'=>(e=.returned (.bool true)∧K i W')∨(e=.returned (.bool false)∧Kx W'))
  (W:World) (h0:K len W) :
  CallsIn Fence.wide 0 Tryz.prog 121 #[.func (.yield l) #[] #[],.pointer (some ⟨pb,po,none⟩)] W fun e W'=>(∃ v,e=.returned v)∧(K 0 W'∨Kx W'):=by
 refine callsIn_of_wp Tryz.func121 rfl trivial ?_ rfl;simp only [Tryz.ntmps121,List.size_toArray,List.length_cons,List.length_nil,Nat.reduceAdd,Nat.reduceSub,Array.replicate_succ,Array.replicate_zero,List.push_toArray,List.append_toArray,List.nil_append,List.cons_append];obtain ⟨hBs,hc⟩:=hr _ _ (Nat.le_refl _) h0
 gi_wp2
 gi_loopw [3] (fun i wr=>∃ k:Nat,k≤len∧i=.int .i64 ((k:Int) - 1)∧K k wr) (fun i _=>(intOf i+1).toNat)
 case atStart=>exact ⟨len,Nat.le_refl _,rfl,h0⟩
 case round =>
  obtain ⟨k,hk,rfl,hJs⟩:=hrel;obtain ⟨hBs',hc'⟩:=hr _ _ hk hJs;rcases k with _|k
  ·gi_wp2
   go_end0
   exact ⟨⟨_,rfl⟩,.inl hJs⟩
  ·have hc0:=hc' (k * 5) om_
   have hc1:=hc' (k * 5+1) om_;rw [← Nat.add_assoc] at hc1;have hc2:=hc' (k * 5+2) om_;rw [← Nat.add_assoc] at hc2;have hc3:=hc' (k * 5+3) om_;rw [← Nat.add_assoc] at hc3;have hc4:=hc' (k * 5+4) om_;rw [← Nat.add_assoc] at hc4;obtain ⟨fn,tmps,assign,body,hy,hR⟩:=hY k wr om_ hJs;rw [show (((k+1:Nat):Int) - 1)=(k:Int) by omega]
   gi_wp2
   refine ⟨rfl,hR.mono ?_⟩;rintro e W3 (⟨rfl,hJ3⟩|⟨rfl,hJx3⟩)
   ·gi_wp2
    go_roundw
    case rel=>exact ⟨k,om_,rfl,hJ3⟩
    case measure=>simp [intOf]
   ·gi_wp2
    refine bodyPost_ret (results_none rfl _ _ _) rfl ?_;exact ⟨⟨_,rfl⟩,.inr hJx3⟩
theorem cd0 (l pb po:Nat) (a:Option Addr) (cap:Nat) (W:World) (Q:World→Prop) (hBs:W.cell? ⟨pb,po,none⟩=some (.slice a 0 cap)) (h0:Q W) :
  CallsIn Fence.wide 0 Tryz.prog 121 #[.func (.yield l) #[] #[],.pointer (some ⟨pb,po,none⟩)] W fun e W'=>(∃ v,e=.returned v)∧Q W':=by
 refine callsIn_of_wp Tryz.func121 rfl trivial ?_ rfl;simp only [Tryz.ntmps121,List.size_toArray,List.length_cons,List.length_nil,Nat.reduceAdd,Nat.reduceSub,Array.replicate_succ,Array.replicate_zero,List.push_toArray,List.append_toArray,List.nil_append,List.cons_append]
 gi_wp2
 gi_loopw [3] (fun i wr=>i=.int .i64 (-1)∧Q wr) (fun _ _=>0)
 case atStart=>exact ⟨rfl,h0⟩
 case round =>
  obtain ⟨rfl,hJs⟩:=hrel
  gi_wp2
  go_end0
  exact ⟨⟨_,rfl⟩,hJs⟩
theorem cf6:bQ8 Tryz.prog 121 where
 call:=⟨_,Tryz.func121,rfl,by kernel_rfl⟩
 go:=fun l pb po a len cap elm K Kx ay8 ha hr hY W h0=>by
  by_cases hl:len=0
  ·subst hl
   exact (cd0 l pb po a cap W (K 0) (hr 0 W (Nat.le_refl _) h0).1 h0).mono fun e w' h=>⟨h.1,.inl h.2⟩
  ·obtain ⟨b,off,rfl⟩:=ha hl
   exact cg1 l pb po b off len cap elm ay8 K Kx (fun i W hi hK=>⟨(hr i W hi hK).1,fun j hj=>(hr i W hi hK).2 b off rfl j hj⟩) hY W h0
theorem aP3 {c:Cap} {es:List (List V)}:Pure Tryz.prog env 74 [.sl c es] (.fn (.func 121) [] [.el [.sl .any es] 0]):=by
 refine aG8 (ty:=42) ⟨_,Tryz.func74,rfl,by kernel_rfl⟩ fun a len cap w=>callsIn_wide.1 (?_:CallsIn Fence.wide 0 _ _ _ _ _);refine callsIn_of_wp (n:=0) Tryz.func74 rfl trivial ?_ rfl;simp only [Tryz.ntmps74,List.size_toArray,List.length_cons,List.length_nil,Nat.reduceAdd,Nat.reduceSub,Array.replicate_succ,Array.replicate_zero,List.push_toArray,List.append_toArray,List.nil_append,List.cons_append]
 gi_wp2
 go_ret
 exact ⟨rfl,rfl⟩
end Go.Proofs.YteaijonkbbkkjaaGreatDoor
