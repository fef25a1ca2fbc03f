/-
 Walks: several parts in one text.
-/
import Derived.Test.YtmnplkmphgkooaaGreatDoorMt
import Derived.Test.YtmnplkmphgkooaaGreatDoorMa
import Derived.Test.YtmnplkmphgkooaaGreatDoorAbsDc
import Derived.Test.YtmnplkmphgkooaaGreatDoorAbsDd
set_option linter.unusedSimpArgs false
set_option linter.unusedVariables false
set_option maxRecDepth 100000
set_option maxHeartbeats 4000000
set_option maxRecDepth 20000
namespace Go.Proofs.YtmnplkmphgkooaaGreatDoor
open Go GoAbs Go.Proofs
open Go.RowKit Go.Shelf
theorem nodes_pair (l pb po ab ao cap ca cb:Nat) (k ka kb:Int) (a b:Option Addr) (K:Nat→Option Nat→World→Prop) (Kx:World→Prop)
  (hal:∀ i p W o,K i p W→K i p (W.alloc o)) (hdr:∀ i p W,K i p W→K i p W.drew)
  (hnew:∀ i W arr ty,K i none W→arr[0]? = some (.int .i64 ka)→arr[1]? = some (.slice a 0 ca)→arr[2]? = some (.int .i64 kb)→arr[3]? = some (.slice b 0 cb)→K i (some W.heap.size) (W.alloc (.cells arr ty)))
  (hr:∀ i p W,K i p W→W.cell? ⟨pb,po,none⟩=some (.int .i64 k)∧W.cell? ⟨pb,po+1,none⟩=some (.slice (some ⟨ab,ao,none⟩) 2 cap)∧W.cell? ⟨ab,ao,none⟩=some (.int .i64 ka)∧W.cell? ⟨ab,ao+1,none⟩=some (.slice a 0 ca)∧W.cell? ⟨ab,ao+2,none⟩=some (.int .i64 kb)∧W.cell? ⟨ab,ao+3,none⟩=some (.slice b 0 cb))
  (hb:∀ i g W,K i (some g) W→W.cell? ⟨g,0,none⟩=some (.int .i64 ka)∧W.cell? ⟨g,1,none⟩=some (.slice a 0 ca)∧W.cell? ⟨g,2,none⟩=some (.int .i64 kb)∧W.cell? ⟨g,3,none⟩=some (.slice b 0 cb))
  (hY:∀ i p W x,K i p W→(i=0∧x=.agg #[.int .i64 k,.slice (some ⟨ab,ao,none⟩) 2 cap]∨i=1∧x=.agg #[.int .i64 kb,.slice b 0 cb]∨i=2∧x=.agg #[.int .i64 ka,.slice a 0 ca])→YieldAt Fence.wide (0 - 1) Tryz.prog l #[x] W fun e W'=>(e=.returned (.bool true)∧K (i+1) p W')∨(e=.returned (.bool false)∧Kx W'))
  (W:World) (h0:K 0 none W) :
  CallsIn Fence.wide 0 Tryz.prog 106 #[.func (.yield l) #[] #[],.pointer (some ⟨pb,po,none⟩)] W fun e W'=>(∃ v,e=.returned v)∧((∃ p,K 3 p W')∨Kx W'):=by
 refine callsIn_of_wp Tryz.func106 rfl trivial ?_ rfl
 simp only [Tryz.ntmps106,List.size_toArray,List.length_cons,List.length_nil,Nat.reduceAdd,Nat.reduceSub,Array.replicate_succ,Array.replicate_zero,List.push_toArray,List.append_toArray,List.nil_append,List.cons_append]
 obtain ⟨i0,hi0,hs0,hb0,z0,hz0⟩:∃ i,Tryz.prog.info? 29=some i∧i.size=2∧i.bytes≤1000∧∃ z,i.zero=some z:=⟨_,rfl,rfl,by decide,_,rfl⟩
 have hw0:IntKind.i64.wrap 0=0:=rfl
 have hw1:IntKind.i64.wrap 1=1:=rfl
 obtain ⟨c0,c1,c2,c3,c4,c5⟩:=hr _ _ _ h0
 gi_wp2
 gi_loopw [3] (fun s wr=>(s=.slice (some ⟨W.heap.size,0,none⟩) 1 1∧K 0 none wr∧wr.cell? ⟨W.heap.size,0,none⟩=some (.int .i64 k)∧wr.cell? ⟨W.heap.size,1,none⟩=some (.slice (some ⟨ab,ao,none⟩) 2 cap)) ∨
  (∃ g c,s=.slice (some ⟨g,0,none⟩) 2 c∧2≤c∧K 1 (some g) wr)∨(∃ g c,s=.slice (some ⟨g,0,none⟩) 1 c∧2≤c∧K 2 (some g) wr)∨(∃ g c,s=.slice (some ⟨g,0,none⟩) 0 c∧K 3 (some g) wr)) (fun s _=>match s with | .slice _ n c=>if c=1 then 3 else n|_=>0)
 case atStart=>exact .inl ⟨rfl,hal _ _ _ _ h0,by simp [World.cell?_alloc_new],by simp [World.cell?_alloc_new]⟩
 case round =>
  rcases hrel with ⟨rfl,hJs,d0,d1⟩|⟨g,c,rfl,hc,hJs⟩|⟨g,c,rfl,hc,hJs⟩|⟨g,c,rfl,hJs⟩
  ·obtain ⟨c0,c1,c2,c3,c4,c5⟩:=hr _ _ _ hJs
   gi_wp2
   refine wpIn_region_any (by kernel_rfl) ?_
   change wpAnyIn _ _ _ _ _ _ _ _ _ (World.drew _)
   refine wpAnyIn_take (i:=0) (v:=?v1) rfl rfl (by kernel_rfl) (by kernel_rfl) (by kernel_rfl) (fun _ _ _ h=>h) ⟨Or.inl ⟨by rfl,?hy1⟩,fun _=>rfl⟩ ?_
   case hy1=>((intro w;go_simp);all_goals with_reducible rfl)
   refine wpAnyIn_take (i:=1) (v:=?v2) rfl rfl (by kernel_rfl) (by kernel_rfl) (by kernel_rfl) (fun _ _ _ h=>h) ⟨Or.inl ⟨by rfl,?hy2⟩,fun _=>rfl⟩ ?_
   case hy2=>((intro w;go_simp);all_goals with_reducible rfl)
   refine wpAnyIn_take (i:=2) (v:=?v3) rfl rfl (by kernel_rfl) (by kernel_rfl) (by kernel_rfl) (fun _ _ _ h=>h) ⟨Or.inl ⟨by rfl,?hy3⟩,fun _=>rfl⟩ ?_
   case hy3=>((intro w;go_simp);all_goals with_reducible rfl)
   refine wpAnyIn_take (i:=3) (v:=?v4) rfl rfl (by kernel_rfl) (by kernel_rfl) (by kernel_rfl) (fun _ _ _ h=>h) ⟨Or.inl ⟨by rfl,?hy4⟩,fun _=>rfl⟩ ?_
   case hy4=>((intro w;go_simp);all_goals with_reducible rfl)
   refine wpAnyIn_take (i:=4) (v:=?v5) rfl rfl (by kernel_rfl) (by kernel_rfl) (by kernel_rfl) (fun _ _ _ h=>h) ⟨Or.inl ⟨by rfl,?hy5⟩,fun _=>rfl⟩ ?_
   case hy5=>((intro w;go_simp);all_goals with_reducible rfl)
   refine wpAnyIn_take (i:=5) (v:=?v6) rfl rfl (by kernel_rfl) (by kernel_rfl) (by kernel_rfl) (fun _ _ _ h=>h) ⟨Or.inl ⟨by rfl,?hy6⟩,fun _=>rfl⟩ ?_
   case hy6=>((intro w;go_simp);all_goals with_reducible rfl)
   refine wpAnyIn_ready (rs:=[6]) (by kernel_rfl) (by simp) ?_
   refine AllReadyIn.cons rfl (fun K' hK'=>?_) AllReadyIn.nil
   go_simp
   refine hK' _ _ ?_
   clear hK' K'
   refine wpAnyIn_ready (rs:=[7]) (by kernel_rfl) (by simp) ?_
   refine AllReadyIn.cons rfl (fun K' hK'=>?_) AllReadyIn.nil
   refine stepIn_grow rfl (.tmp 20) (.tmp 22) _ rfl _ i0 z0 (by kernel_rfl) hi0 hz0 ⟨W.heap.size,0,none⟩ 1 (by simp [Act.eval,Act.put]) ⟨ab,ao,none⟩ 2 cap [.int .i64 ka,.slice a 0 ca,.int .i64 kb,.slice b 0 cb] (by simp [Act.eval,Act.put]) (by simp [hs0]) ?cells (by omega) (by omega) hb0 (fun c' arr hc' harr=>?_)
   case cells =>
    have hq:=hr 0 none _ (hdr _ _ _ (hal 0 none wr (.cells #[.int .i64 k,.slice (some ⟨ab,ao,none⟩) 2 cap] 29) hJs))
    intro j u hj
    match j with
    | 0=>simp at hj;subst hj;exact hq.2.2.1
    | 1=>simp at hj;subst hj;exact hq.2.2.2.1
    | 2=>simp at hj;subst hj;exact hq.2.2.2.2.1
    | 3=>simp at hj;subst hj;exact hq.2.2.2.2.2
    | j+4=>simp at hj
   refine hK' _ _ ?_
   clear hK' K'
   refine wpAnyIn_take (i:=8) (v:=?v7) rfl rfl (by kernel_rfl) (by kernel_rfl) (by kernel_rfl) (fun _ _ _ h=>h) ⟨Or.inl ⟨by rfl,?hy7⟩,fun _=>rfl⟩ ?_
   case hy7=>((intro w;go_simp);all_goals with_reducible rfl)
   refine wpAnyIn_done (by kernel_rfl) ?_ _
   have hJ2:K 0 (some (wr.heap.size+1)) (((wr.alloc (.cells #[.int .i64 k,.slice (some ⟨ab,ao,none⟩) 2 cap] 29)).alloc (.cells arr 29)).drew.drew):=by
    have:=hnew 0 _ arr 29 (hdr _ _ _ (hdr _ _ _ (hal 0 none wr (.cells #[.int .i64 k,.slice (some ⟨ab,ao,none⟩) 2 cap] 29) hJs))) (harr 0 _ rfl) (harr 1 _ rfl) (harr 2 _ rfl) (harr 3 _ rfl)
    have e:((wr.alloc (.cells #[.int .i64 k,.slice (some ⟨ab,ao,none⟩) 2 cap] 29)).drew.drew).heap.size=wr.heap.size+1:=by simp
    rw [e] at this
    exact this
   obtain ⟨fn,tmps,assign,body,hy,hR⟩:=hY 0 _ _ _ (hJ2) (.inl ⟨rfl,rfl⟩)
   gi_wp2
   refine ⟨rfl,hR.mono ?_⟩
   rintro e W3 (⟨rfl,hJ3⟩|⟨rfl,hJx3⟩)
   ·gi_wp2
    go_roundw
    case rel=>exact .inr (.inl ⟨_,c',rfl,hc',hJ3⟩)
    case measure=>simp [show c'≠1 by omega]
   ·gi_wp2
    refine bodyPost_ret (results_none rfl _ _ _) rfl ?_
    exact ⟨⟨_,rfl⟩,.inr hJx3⟩
  ·obtain ⟨d0,d1,d2,d3⟩:=hb _ _ _ hJs
   have hc1:(1:Int)≤(c:Int):=by omega
   gi_wp2
   refine wpIn_region_any (by kernel_rfl) ?_
   change wpAnyIn _ _ _ _ _ _ _ _ _ (World.drew _)
   refine wpAnyIn_take (i:=0) (v:=?v8) rfl rfl (by kernel_rfl) (by kernel_rfl) (by kernel_rfl) (fun _ _ _ h=>h) ⟨Or.inl ⟨by rfl,?hy8⟩,fun _=>rfl⟩ ?_
   case hy8=>((intro w;go_simp);all_goals with_reducible rfl)
   refine wpAnyIn_take (i:=1) (v:=?v9) rfl rfl (by kernel_rfl) (by kernel_rfl) (by kernel_rfl) (fun _ _ _ h=>h) ⟨Or.inl ⟨by rfl,?hy9⟩,fun _=>rfl⟩ ?_
   case hy9=>((intro w;go_simp);all_goals with_reducible rfl)
   refine wpAnyIn_take (i:=2) (v:=?v10) rfl rfl (by kernel_rfl) (by kernel_rfl) (by kernel_rfl) (fun _ _ _ h=>h) ⟨Or.inl ⟨by rfl,?hy10⟩,fun _=>rfl⟩ ?_
   case hy10=>((intro w;go_simp);all_goals with_reducible rfl)
   refine wpAnyIn_take (i:=3) (v:=?v11) rfl rfl (by kernel_rfl) (by kernel_rfl) (by kernel_rfl) (fun _ _ _ h=>h) ⟨Or.inl ⟨by rfl,?hy11⟩,fun _=>rfl⟩ ?_
   case hy11=>((intro w;go_simp);all_goals with_reducible rfl)
   refine wpAnyIn_take (i:=4) (v:=?v12) rfl rfl (by kernel_rfl) (by kernel_rfl) (by kernel_rfl) (fun _ _ _ h=>h) ⟨Or.inl ⟨by rfl,?hy12⟩,fun _=>rfl⟩ ?_
   case hy12=>((intro w;go_simp);all_goals with_reducible rfl)
   refine wpAnyIn_take (i:=5) (v:=?v13) rfl rfl (by kernel_rfl) (by kernel_rfl) (by kernel_rfl) (fun _ _ _ h=>h) ⟨Or.inl ⟨by rfl,?hy13⟩,fun _=>rfl⟩ ?_
   case hy13=>((intro w;go_simp);all_goals with_reducible rfl)
   refine wpAnyIn_ready (rs:=[6]) (by kernel_rfl) (by simp) ?_
   refine AllReadyIn.cons rfl (fun K' hK'=>?_) AllReadyIn.nil
   go_simp
   refine hK' _ _ ?_
   clear hK' K'
   refine wpAnyIn_ready (rs:=[7]) (by kernel_rfl) (by simp) ?_
   refine AllReadyIn.cons rfl (fun K' hK'=>?_) AllReadyIn.nil
   refine stepIn_nothing rfl (.tmp 20) (.tmp 22) _ rfl _ i0 (by kernel_rfl) hi0 (some ⟨g,0,none⟩) 1 c (by simp [Act.eval,Act.put]) (by omega) b cb (by simp [Act.eval,Act.put]) ?_
   refine hK' _ _ ?_
   clear hK' K'
   refine wpAnyIn_take (i:=8) (v:=?v14) rfl rfl (by kernel_rfl) (by kernel_rfl) (by kernel_rfl) (fun _ _ _ h=>h) ⟨Or.inl ⟨by rfl,?hy14⟩,fun _=>rfl⟩ ?_
   case hy14=>((intro w;go_simp);all_goals with_reducible rfl)
   refine wpAnyIn_done (by kernel_rfl) ?_ _
   obtain ⟨fn,tmps,assign,body,hy,hR⟩:=hY 1 _ _ _ (hdr _ _ _ (hal 1 (some g) wr (.cells #[.int .i64 kb,.slice b 0 cb] 29) hJs)) (.inr (.inl ⟨rfl,rfl⟩))
   gi_wp2
   refine ⟨rfl,hR.mono ?_⟩
   rintro e W3 (⟨rfl,hJ3⟩|⟨rfl,hJx3⟩)
   ·gi_wp2
    go_roundw
    case rel=>exact .inr (.inr (.inl ⟨_,c,rfl,hc,hJ3⟩))
    case measure=>simp [show c≠1 by omega]
   ·gi_wp2
    refine bodyPost_ret (results_none rfl _ _ _) rfl ?_
    exact ⟨⟨_,rfl⟩,.inr hJx3⟩
  ·obtain ⟨d0,d1,d2,d3⟩:=hb _ _ _ hJs
   have hc1:(1:Int)≤(c:Int):=by omega
   gi_wp2
   refine wpIn_region_any (by kernel_rfl) ?_
   change wpAnyIn _ _ _ _ _ _ _ _ _ (World.drew _)
   refine wpAnyIn_take (i:=0) (v:=?v15) rfl rfl (by kernel_rfl) (by kernel_rfl) (by kernel_rfl) (fun _ _ _ h=>h) ⟨Or.inl ⟨by rfl,?hy15⟩,fun _=>rfl⟩ ?_
   case hy15=>((intro w;go_simp);all_goals with_reducible rfl)
   refine wpAnyIn_take (i:=1) (v:=?v16) rfl rfl (by kernel_rfl) (by kernel_rfl) (by kernel_rfl) (fun _ _ _ h=>h) ⟨Or.inl ⟨by rfl,?hy16⟩,fun _=>rfl⟩ ?_
   case hy16=>((intro w;go_simp);all_goals with_reducible rfl)
   refine wpAnyIn_take (i:=2) (v:=?v17) rfl rfl (by kernel_rfl) (by kernel_rfl) (by kernel_rfl) (fun _ _ _ h=>h) ⟨Or.inl ⟨by rfl,?hy17⟩,fun _=>rfl⟩ ?_
   case hy17=>((intro w;go_simp);all_goals with_reducible rfl)
   refine wpAnyIn_take (i:=3) (v:=?v18) rfl rfl (by kernel_rfl) (by kernel_rfl) (by kernel_rfl) (fun _ _ _ h=>h) ⟨Or.inl ⟨by rfl,?hy18⟩,fun _=>rfl⟩ ?_
   case hy18=>((intro w;go_simp);all_goals with_reducible rfl)
   refine wpAnyIn_take (i:=4) (v:=?v19) rfl rfl (by kernel_rfl) (by kernel_rfl) (by kernel_rfl) (fun _ _ _ h=>h) ⟨Or.inl ⟨by rfl,?hy19⟩,fun _=>rfl⟩ ?_
   case hy19=>((intro w;go_simp);all_goals with_reducible rfl)
   refine wpAnyIn_take (i:=5) (v:=?v20) rfl rfl (by kernel_rfl) (by kernel_rfl) (by kernel_rfl) (fun _ _ _ h=>h) ⟨Or.inl ⟨by rfl,?hy20⟩,fun _=>rfl⟩ ?_
   case hy20=>((intro w;go_simp);all_goals with_reducible rfl)
   refine wpAnyIn_ready (rs:=[6]) (by kernel_rfl) (by simp) ?_
   refine AllReadyIn.cons rfl (fun K' hK'=>?_) AllReadyIn.nil
   go_simp
   refine hK' _ _ ?_
   clear hK' K'
   refine wpAnyIn_ready (rs:=[7]) (by kernel_rfl) (by simp) ?_
   refine AllReadyIn.cons rfl (fun K' hK'=>?_) AllReadyIn.nil
   refine stepIn_nothing rfl (.tmp 20) (.tmp 22) _ rfl _ i0 (by kernel_rfl) hi0 (some ⟨g,0,none⟩) 0 c (by simp [Act.eval,Act.put]) (by omega) a ca (by simp [Act.eval,Act.put]) ?_
   refine hK' _ _ ?_
   clear hK' K'
   refine wpAnyIn_take (i:=8) (v:=?v21) rfl rfl (by kernel_rfl) (by kernel_rfl) (by kernel_rfl) (fun _ _ _ h=>h) ⟨Or.inl ⟨by rfl,?hy21⟩,fun _=>rfl⟩ ?_
   case hy21=>((intro w;go_simp);all_goals with_reducible rfl)
   refine wpAnyIn_done (by kernel_rfl) ?_ _
   obtain ⟨fn,tmps,assign,body,hy,hR⟩:=hY 2 _ _ _ (hdr _ _ _ (hal 2 (some g) wr (.cells #[.int .i64 ka,.slice a 0 ca] 29) hJs)) (.inr (.inr ⟨rfl,rfl⟩))
   gi_wp2
   refine ⟨rfl,hR.mono ?_⟩
   rintro e W3 (⟨rfl,hJ3⟩|⟨rfl,hJx3⟩)
   ·gi_wp2
    go_roundw
    case rel=>exact .inr (.inr (.inr ⟨_,c,rfl,hJ3⟩))
    case measure=>simp [show c≠1 by omega]
   ·gi_wp2
    refine bodyPost_ret (results_none rfl _ _ _) rfl ?_
    exact ⟨⟨_,rfl⟩,.inr hJx3⟩
  ·gi_wp2
   go_end0
   exact ⟨⟨_,rfl⟩,.inl ⟨_,hJs⟩⟩
open Go.RowKit Go.Shelf
theorem nodes_leaf (l pb po cap:Nat) (k:Int) (a:Option Addr) (K:Nat→World→Prop) (Kx:World→Prop)
  (hal:∀ i W o,K i W→K i (W.alloc o)) (hdr:∀ i W,K i W→K i W.drew)
  (hr:∀ i W,K i W→W.cell? ⟨pb,po,none⟩=some (.int .i64 k)∧W.cell? ⟨pb,po+1,none⟩=some (.slice a 0 cap))
  (hY:∀ W,K 1 W→YieldAt Fence.wide (0 - 1) Tryz.prog l #[.agg #[.int .i64 k,.slice a 0 cap]] W fun e W'=>(e=.returned (.bool true)∧K 0 W')∨(e=.returned (.bool false)∧Kx W'))
  (W:World) (h0:K 1 W) :
  CallsIn Fence.wide 0 Tryz.prog 106 #[.func (.yield l) #[] #[],.pointer (some ⟨pb,po,none⟩)] W fun e W'=>(∃ v,e=.returned v)∧(K 0 W'∨Kx W'):=by
 refine callsIn_of_wp Tryz.func106 rfl trivial ?_ rfl
 simp only [Tryz.ntmps106,List.size_toArray,List.length_cons,List.length_nil,Nat.reduceAdd,Nat.reduceSub,Array.replicate_succ,Array.replicate_zero,List.push_toArray,List.append_toArray,List.nil_append,List.cons_append]
 obtain ⟨c0,c1⟩:=hr _ _ h0
 gi_wp2
 gi_loopw [3] (fun s wr=>(s=.slice (some ⟨W.heap.size,0,none⟩) 1 1∧K 1 wr∧wr.cell? ⟨W.heap.size,0,none⟩=some (.int .i64 k)∧wr.cell? ⟨W.heap.size,1,none⟩=some (.slice a 0 cap)) ∨
  (s=.slice (some ⟨W.heap.size,0,none⟩) 0 1∧K 0 wr)) (fun s _=>match s with | .slice _ n _=>n|_=>0)
 case atStart=>exact .inl ⟨rfl,hal _ _ _ h0,by simp [World.cell?_alloc_new],by simp [World.cell?_alloc_new]⟩
 case round =>
  rcases hrel with ⟨rfl,hJs,d0,d1⟩|⟨rfl,hJs⟩
  ·cases a with
   | none =>
    gi_wp2
    gi_region
    obtain ⟨fn,tmps,assign,body,hy,hR⟩:=hY _ (hdr _ _ (hal _ wr (.cells #[.int .i64 k,.slice none 0 cap] 29) hJs))
    gi_wp2
    refine ⟨rfl,hR.mono ?_⟩
    rintro e W3 (⟨rfl,hJ3⟩|⟨rfl,hJx3⟩)
    ·gi_wp2
     go_roundw
     case rel=>exact .inr ⟨rfl,hJ3⟩
     case measure=>simp
    ·gi_wp2
     refine bodyPost_ret (results_none rfl _ _ _) rfl ?_
     exact ⟨⟨_,rfl⟩,.inr hJx3⟩
   | some ad =>
    gi_wp2
    gi_region
    obtain ⟨fn,tmps,assign,body,hy,hR⟩:=hY _ (hdr _ _ (hal _ wr (.cells #[.int .i64 k,.slice (some ad) 0 cap] 29) hJs))
    gi_wp2
    refine ⟨rfl,hR.mono ?_⟩
    rintro e W3 (⟨rfl,hJ3⟩|⟨rfl,hJx3⟩)
    ·gi_wp2
     go_roundw
     case rel=>exact .inr ⟨rfl,hJ3⟩
     case measure=>simp
    ·gi_wp2
     refine bodyPost_ret (results_none rfl _ _ _) rfl ?_
     exact ⟨⟨_,rfl⟩,.inr hJx3⟩
  ·gi_wp2
   go_end0
   exact ⟨⟨_,rfl⟩,.inl hJs⟩
theorem it_leaf (k:Int):Iter Tryz.prog env (.fn (.func 106) [] [.el [.int .i64 k,.sl .any []] 0]) [[.agg [.int .i64 k,.sl .any []]]]:=by
 refine iter_of_raw ⟨_,Tryz.func106,rfl,by kernel_rfl⟩ fun g w x hx=>?_
 cases hx with
 | el b off cs o cell hl hrun hr =>
  have hz:=hrun 0 (by simp)
  have hz1:=hrun 1 (by simp)
  have hrz:=hr 0 _ rfl
  have hrz1:=hr 1 _ rfl
  generalize cell 0=c0 at hz hrz
  generalize cell 1=c1 at hz1 hrz1
  cases hrz
  cases hrz1 with
  | sl ao cap _ _ kk cell2 hk hcap hrun2 hr2 hc =>
   simp only [List.length_nil] at hz1
   simp only [List.length_cons,List.length_nil] at hl
   refine ⟨fun _=>.agg #[.int .i64 k,.slice ao 0 cap],[],fun i v hv=>?_,?_⟩
   ·match i with
    | 0 =>
     simp at hv
     subst hv
     refine ⟨_,rfl,.agg _ _ rfl fun j x v hx hv=>?_⟩
     match j with
     | 0=>simp at hx hv;subst hx;subst hv;exact .int _ _
     | 1=>simp at hx hv;subst hx;subst hv;exact .sl ao cap .any [] 0 (fun _=>undef) (by simp) (by simp) (by simp) (by simp) trivial
     | j+2=>simp at hx
    | i+1=>simp at hv
   ·intro l K Kx hal hdr hnew hcell hprot hY W h0
    refine (nodes_leaf l b (off+0) cap k ao (fun i W=>K (1 - i) none W) Kx (fun i W o h=>hal _ _ _ _ h) (fun i W h=>hdr _ _ _ h) (fun i W hK=>⟨(hcell _ _ _ hK b (off+0) (by omega)).trans hz,(hcell _ _ _ hK b (off+0+1) (by omega)).trans hz1⟩) (fun W hK=>hY 0 none W (by simp) hK) W h0).mono ?_
    rintro e W' ⟨hv,h|h⟩
    ·exact ⟨hv,.inl ⟨none,h⟩⟩
    ·exact ⟨hv,.inr h⟩
theorem it_pairs (k ka kb:Int):Iter Tryz.prog env (.fn (.func 106) [] [.el [.int .i64 k,.sl .any [[.int .i64 ka,.sl .any []],[.int .i64 kb,.sl .any []]]] 0])
  [[.agg [.int .i64 k,.sl .any [[.int .i64 ka,.sl .any []],[.int .i64 kb,.sl .any []]]]],[.agg [.int .i64 kb,.sl .any []]],[.agg [.int .i64 ka,.sl .any []]]]:=by
 refine iter_of_raw ⟨_,Tryz.func106,rfl,by kernel_rfl⟩ fun g w x hx=>?_
 cases hx with
 | el b off cs o cell hl hrun hr =>
  have hz:=hrun 0 (by simp)
  have hz1:=hrun 1 (by simp)
  have hrz:=hr 0 _ rfl
  have hrz1:=hr 1 _ rfl
  generalize cell 0=c0 at hz hrz
  generalize cell 1=c1 at hz1 hrz1
  cases hrz
  have hsl:=hrz1
  cases hrz1 with
  | sl ao cap _ _ kk cell2 hk hcap hrun2 hr2 hc =>
   have hkk:kk=2:=(hk [.int .i64 ka,.sl .any []] (by simp)).symm
   subst hkk
   obtain ⟨ab,ao',rfl,hl2,hrun3⟩:=hrun2 (by simp)
   simp only [List.length_cons,List.length_nil] at hz1 hl hl2 hrun3 hsl
   have q0:=hrun3 0 (by omega)
   have q1:=hrun3 1 (by omega)
   have q2:=hrun3 2 (by omega)
   have q3:=hrun3 3 (by omega)
   have r0:=hr2 0 _ rfl
   have r1:=hr2 1 _ rfl
   have r2:=hr2 2 _ rfl
   have r3:=hr2 3 _ rfl
   generalize cell2 0=d0 at q0 r0
   generalize cell2 1=d1 at q1 r1
   generalize cell2 2=d2 at q2 r2
   generalize cell2 3=d3 at q3 r3
   cases r0
   cases r2
   have s1:=r1
   have s3:=r3
   cases r1 with
   | sl a1 ca _ _ k1 e1 hk1 hcap1 hrun1 hr1 hc1 =>
   cases r3 with
   | sl a3 cb _ _ k3 e3 hk3 hcap3 hrun3' hr3 hc3 =>
   simp only [List.length_nil] at q1 q3 s1 s3
   refine ⟨fun i=>match i with | 0=>.agg #[.int .i64 k,.slice (some ⟨ab,ao',none⟩) 2 cap] | 1=>.agg #[.int .i64 kb,.slice a3 0 cb]|_=>.agg #[.int .i64 ka,.slice a1 0 ca],[.int .i64 ka,.slice a1 0 ca,.int .i64 kb,.slice a3 0 cb],fun i v hv=>?_,?_⟩
   ·have two:∀ {x:Value} {y:V} {n:Int},RV g w x y→RV g w (.agg #[.int .i64 n,x]) (.agg [.int .i64 n,y]):=fun {x y n} h=>by
     refine .agg _ _ rfl fun j x' v' hx hv=>?_
     match j with
     | 0=>simp at hx hv;subst hx;subst hv;exact .int _ _
     | 1=>simp at hx hv;subst hx;subst hv;exact h
     | j+2=>simp at hx
    match i with
    | 0=>simp at hv;subst hv;exact ⟨_,rfl,two hsl⟩
    | 1=>simp at hv;subst hv;exact ⟨_,rfl,two s3⟩
    | 2=>simp at hv;subst hv;exact ⟨_,rfl,two s1⟩
    | i+3=>simp at hv
   ·intro l K Kx hal hdr hnew hcell hprot hY W h0
    have hh:=nodes_pair l b (off+0) ab (ao'+0) cap ca cb k ka kb a1 a3 K Kx hal hdr (fun i W arr ty hK e0 e1 e2 e3=>hnew i W arr ty hK (fun j u hu=>by
      match j with
      | 0=>simp at hu;subst hu;exact e0
      | 1=>simp at hu;subst hu;exact e1
      | 2=>simp at hu;subst hu;exact e2
      | 3=>simp at hu;subst hu;exact e3
      | j+4=>simp at hu))
     (fun i p W hK=>⟨(hcell _ _ _ hK b (off+0) (by omega)).trans hz,(hcell _ _ _ hK b (off+0+1) (by omega)).trans hz1,(hcell _ _ _ hK ab (ao'+0) (by omega)).trans q0,(hcell _ _ _ hK ab (ao'+0+1) (by omega)).trans q1,
      (hcell _ _ _ hK ab (ao'+0+2) (by omega)).trans q2,(hcell _ _ _ hK ab (ao'+0+3) (by omega)).trans q3⟩)
     (fun i g' W hK=>⟨hprot _ _ _ hK 0 _ rfl,hprot _ _ _ hK 1 _ rfl,hprot _ _ _ hK 2 _ rfl,hprot _ _ _ hK 3 _ rfl⟩)
     (fun i p W x hK hi=>by
      rcases hi with ⟨rfl,rfl⟩|⟨rfl,rfl⟩|⟨rfl,rfl⟩
      ·exact hY 0 p W (by simp) hK
      ·exact hY 1 p W (by simp) hK
      ·exact hY 2 p W (by simp) hK) W h0
    exact hh
theorem c_nodesOf (t:Ty):Pure Tryz.prog env 60 [.agg t.cells] (.fn (.func 106) [] [.el t.cells 0]):=by
 intro h
 refine en_ Tryz.func60 [.tmp 2] fun g0 w0 gen hrel hfr hfr' hres=>?_
 refine AR_seq ?_
 refine AR_region ?_
 simp only [go_sem, *]
 refine AR_freezePL ⟨gen,0,0⟩ [(1,.el t.cells 0),(2,.nilf)] [] (cs:=t.cells) rfl rfl hrel (by simp only [go_sem, *]) (hfr' 0 0) (by simp) (Agree.new (Agree.refl _) (hfr' 0 0)) (by simp only [go_sem, *]) (by simp) (by
  intro p hp
  simp only [List.mem_cons,List.not_mem_nil,or_false] at hp
  rcases hp with rfl|rfl
  ·exact ⟨.inr (.inr ⟨0,by simp only [go_sem, *],rfl⟩),by simp only [go_sem, *]⟩
  ·exact ⟨.inr (.inl (by simp only [go_sem, *])),by simp [InV]⟩) ?_
 simp only [List.foldr]
 exact wk_
theorem dataOf {t:Ty} (hc:Pure Tryz.prog env 59 [.agg t.cells] (.int .i64 0)) {vs:List (List V)} (hit:Iter Tryz.prog env (.fn (.func 106) [] [.el t.cells 0]) vs)
  (hv:∀ v∈vs,∃ k rs,v=[.agg [.int .i64 k,.sl .any rs]]∧(k==4)=false):Pure Tryz.prog env 26 [.agg t.cells] (.tup [.bool true,.int .i64 0]):=by
 intro h
 have hn:=c_nodesOf t
 have n0:((0:Int) != 0)=false:=rfl
 refine ret_of_walkX Tryz.func26 rfl (by kernel_rfl) fun g0 w0 gen hrel hfr=>?_
 have hfr':∀ r i,h ⟨gen,r,i⟩=none:=fresh_of hfr
 have hres:Tryz.f26.results.toList=[.cell 2 4,.cell 3 49]:=rfl
 have hl0:∀ b,w0.heap.size≤b→g0.lim b=0:=hrel.limnew
 refine ARX_pieces ?_
 simp only [flatC_seq,flatC_region,flatC_block,flatC_ret,flatC_cond,List.append_assoc,List.cons_append,List.nil_append,List.map_cons,List.map_nil,List.append_nil]
 refine ARX_of_AR (J:=fun σ=>σ.tm 2=.ptr ⟨gen,0,1⟩ 0∧σ.tm 3=.ptr ⟨gen,0,2⟩ 0∧σ.tm 12=.fn (.func 106) [] [.el t.cells 0]∧Agree h σ.h ∧
  σ.h ⟨gen,0,1⟩=some (.box [.bool false])∧σ.h ⟨gen,0,2⟩=some (.box [.int .i64 0])) [_,_,_,_,_] (by kernel_rfl) follows ?_ ?_
 ·simp only [List.map_cons,List.map_nil,List.cons_append,List.nil_append]
  clear hit hv
  refine wq_ ?_
  exact ag_
 ·rintro σ ⟨j2,j3,j12,jA,jb1,jb2⟩
  clear hc hn
  refine ARX_O ?_
  refine ARX_block ?_
  refine ARX_iter (yO_ok _) (ps:=[13]) (vs:=vs) (by intro p hp;simp at hp;subst hp;exact of_decide_eq_true (by kernel_rfl)) (fun v hh=>by obtain ⟨k,c,rfl,_⟩:=hv v hh;rfl) (fun _=>False) (fun _ h=>h.elim)
   (fun _ X hh=>X=xT∧Agree h hh∧hh ⟨gen,0,1⟩=some (.box [.bool false])∧hh ⟨gen,0,2⟩=some (.box [.int .i64 0])) (fun _ _ _=>False)
   (by rintro i X hh ⟨rfl,_⟩;exact xT_st) (fun _ _ _ h=>h.elim)
   (by
    rintro i X h1 h2 e ⟨q0,q1,q2,q3⟩
    exact ⟨q0,fun id hid=>(e id (by rw [jA id hid];exact hid)).trans (q1 id hid),(e _ (by rw [jb1];simp)).trans q2,(e _ (by rw [jb2];simp)).trans q3⟩)
   (fun _ _ _ _ _ h=>h.elim) hl0 ?_ (by rw [j12];exact hit) ⟨rfl,jA,jb1,jb2⟩ rfl rfl ?_ (fun _ _ _ _ _ _ h=>h.elim)
  ·rintro ya yb gn i vv hi X oa ob ⟨l,f1,f2,f3⟩ d1 d2 lo1 lo2 hXS hbd1 hbd2 hgn hvv ⟨rfl,jA,jb1,jb2⟩ hnn toB fin finx
   obtain ⟨k,c,rfl,hk⟩:=hv vv (List.mem_of_getElem? hvv)
   refine ARX_gen (fun gm hgm=>?_)
   have hgf:∀ r i,hi ⟨gm,r,i⟩=none:=fresh_of hgm
   have hgf0:=fun r i=>agree_fresh jA (hgf r i)
   have hg1:gen<gm:=hgm ⟨gen,0,1⟩ (by simp [jb1])
   have e1:=gen_lt hg1
   have e2:=gen_lt' hg1
   have xa:XOk Tryz.prog (ya.at xT):=oa.x hXS
   have xb:XOk Tryz.prog (yb.at xT):=ob.x hXS
   clear hgm hit hnn hvv finx
   simp only [updL]
   refine ARX_region xa follows (by kernel_rfl) ?_
   simp only [go_sem, *]
   refine toB _ _ _ hXS ?_
   clear toB
   repeat' (first
    |(refine ⟨?_,?_⟩;focus ((repeat' (first|refine ⟨?_,?_⟩|refine .inr ?_));all_goals kernel_rfl))
    | (first|refine ARX_seq ?_|refine ARX_region xb follows (by kernel_rfl) ?_|refine ARX_condP ?_|refine ARX_block ?_|refine ARX_skip ?_|refine ARX_block_end ?_|refine spf rfl ?_)<;>try simp only [go_sem, *])
   refine fin _ _ _ ⟨rfl,by repeat (first|exact jA|refine Agree.new ?_ (hgf0 _ _)),by simp only [go_sem, *],by simp only [go_sem, *]⟩ (fun id _ q=>?_)
   simp only
   rw [hset_other]
   rintro rfl
   exact q (hgf _ _)
  ·rintro D X' h' hD ok ⟨rfl,jA,jb1,jb2⟩ hsame
   have okD:=ok.x (xT_st (bd:=0))
   repeat' (first
    |(refine ⟨?_,?_⟩;focus ((repeat' (first|refine ⟨?_,?_⟩|refine .inr ?_));all_goals kernel_rfl))
    |exact agf (by assumption)
    | (first|refine ARX_seq ?_|refine ARX_region okD follows (by kernel_rfl) ?_|refine ARX_condP ?_|refine ARX_block ?_|refine ARX_exit ?_|refine ARX_skip ?_|refine ARX_ret ?_|refine ARX_block_end ?_|refine spt rfl ?_|refine spf rfl ?_|refine ARX_oendM follows hl0 hD ?_|refine finF hrel ?_ ?_ ?_)<;>try simp only [go_sem, *])
theorem nat_cells:tNat.cells=[.int .i64 1,.sl .any []]:=by rw [ty_cells];rfl
theorem list_cells:tList.cells=[.int .i64 2,.sl .any []]:=by rw [ty_cells];rfl
theorem unit_cells:tUnit.cells=[.int .i64 5,.sl .any []]:=by rw [ty_cells];rfl
theorem pair_cells (a b:Ty):(tPair a b).cells=[.int .i64 3,.sl .any [a.cells,b.cells]]:=by rw [ty_cells];rfl
theorem c_plainData {t:Ty} (h:PlainTy t):Pure Tryz.prog env 26 [.agg t.cells] (.tup [.bool true,.int .i64 0]):=by
 have hc:=c_typesCheck t h.G.1.W
 rw [h.G.err] at hc
 rcases h with rfl|rfl|rfl|rfl|rfl
 ·exact dataOf hc (by rw [nat_cells];exact it_leaf 1) (by intro v hv;simp only [List.mem_cons,List.not_mem_nil,or_false] at hv;subst hv;exact ⟨_,_,rfl,rfl⟩)
 ·exact dataOf hc (by rw [list_cells];exact it_leaf 2) (by intro v hv;simp only [List.mem_cons,List.not_mem_nil,or_false] at hv;subst hv;exact ⟨_,_,rfl,rfl⟩)
 ·exact dataOf hc (by rw [unit_cells];exact it_leaf 5) (by intro v hv;simp only [List.mem_cons,List.not_mem_nil,or_false] at hv;subst hv;exact ⟨_,_,rfl,rfl⟩)
 ·exact dataOf hc (by rw [pair_cells,nat_cells,list_cells];exact it_pairs 3 1 2) (by intro v hv;simp only [List.mem_cons,List.not_mem_nil,or_false] at hv;rcases hv with rfl|rfl|rfl<;>exact ⟨_,_,rfl,rfl⟩)
 ·exact dataOf hc (by rw [pair_cells,nat_cells];exact it_pairs 3 1 1) (by intro v hv;simp only [List.mem_cons,List.not_mem_nil,or_false] at hv;rcases hv with rfl|rfl|rfl<;>exact ⟨_,_,rfl,rfl⟩)
end Go.Proofs.YtmnplkmphgkooaaGreatDoor
