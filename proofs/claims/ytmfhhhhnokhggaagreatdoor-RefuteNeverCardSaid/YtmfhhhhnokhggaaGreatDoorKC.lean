/-
 Walks: several parts in one text.
-/
import Derived.Test.YtmfhhhhnokhggaaGreatDoorKA
import Derived.Test.YtmfhhhhnokhggaaGreatDoorK9
set_option linter.unusedSimpArgs false
set_option linter.unusedVariables false
set_option maxRecDepth 100000
set_option maxHeartbeats 4000000
set_option maxRecDepth 20000
namespace Go.Proofs.YtmfhhhhnokhggaaGreatDoor
open Go GoAbs Go.Proofs
open Go.RowKit Go.Shelf
theorem cr9 (l pb po ab ao cap ca cb:Nat) (k ka kb:Int) (a b:Option Addr) (K:Nat->Option Nat->World->Prop) (Kx:World->Prop)
  (hal:∀ i p W o,K i p W->K i p (W.alloc o)) (hdr:∀ i p W,K i p W->K i p W.drew)
  (hnew:∀ i W arr ty,K i none W->arr[0]? = some (.int .i64 ka)->arr[1]? = some (.slice a 0 ca)->arr[2]? = some (.int .i64 kb)->arr[3]? = some (.slice b 0 cb)->K i (some W.heap.size) (W.alloc (.cells arr ty)))
  (hr:∀ i p W,K i p W->W.cell? ⟨pb,po,none⟩=some (.int .i64 k)/\W.cell? ⟨pb,po+1,none⟩=some (.slice (some ⟨ab,ao,none⟩) 2 cap)/\W.cell? ⟨ab,ao,none⟩=some (.int .i64 ka)/\W.cell? ⟨ab,ao+1,none⟩=some (.slice a 0 ca)/\W.cell? ⟨ab,ao+2,none⟩=some (.int .i64 kb)/\W.cell? ⟨ab,ao+3,none⟩=some (.slice b 0 cb))
  (hb:∀ i g W,K i (some g) W->W.cell? ⟨g,0,none⟩=some (.int .i64 ka)/\W.cell? ⟨g,1,none⟩=some (.slice a 0 ca)/\W.cell? ⟨g,2,none⟩=some (.int .i64 kb)/\W.cell? ⟨g,3,none⟩=some (.slice b 0 cb))
  (hY:∀ i p W x,K i p W->(i=0/\x=.agg #[.int .i64 k,.slice (some ⟨ab,ao,none⟩) 2 cap]\/i=1/\x=.agg #[.int .i64 kb,.slice b 0 cb]\/i=2/\x=.agg #[.int .i64 ka,.slice a 0 ca])->YieldAt Fence.wide (0 - 1) Tryz.prog l #[x] W fun e W'=>(e=.returned (.bool true)/\K (i+1) p W')\/(e=.returned (.bool false)/\Kx W'))
  (W:World) (h0:K 0 none W) :
  CallsIn Fence.wide 0 Tryz.prog 156 #[.func (.yield l) #[] #[],.pointer (some ⟨pb,po,none⟩)] W fun e W'=>(∃ v,e=.returned v)/\((∃ p,K 3 p W')\/Kx W'):=by
 refine aG7 Tryz.func156 rfl trivial ?_ rfl;simp only [Tryz.ntmps156,aG4,J1,S0,Nat.reduceAdd,Nat.reduceSub,aG1,aG0,aG5,aG3,Q3,R9];obtain ⟨i0,hi0,hs0,hb0,z0,hz0⟩:∃ i,Tryz.prog.info? 29=some i/\i.size=2/\i.bytes<=1000/\∃ z,i.zero=some z:=⟨_,rfl,rfl,by decide,_,rfl⟩;have hw0:IntKind.i64.wrap 0=0:=rfl;have hw1:IntKind.i64.wrap 1=1:=rfl;obtain ⟨c0,c1,c2,c3,c4,c5⟩:=hr _ _ _ h0
 gi_wp2
 gi_loopw [3] (fun s wr=>(s=.slice (some ⟨W.heap.size,0,none⟩) 1 1/\K 0 none wr/\wr.cell? ⟨W.heap.size,0,none⟩=some (.int .i64 k)/\wr.cell? ⟨W.heap.size,1,none⟩=some (.slice (some ⟨ab,ao,none⟩) 2 cap)) \/
  (∃ g c,s=.slice (some ⟨g,0,none⟩) 2 c/\2<=c/\K 1 (some g) wr)\/(∃ g c,s=.slice (some ⟨g,0,none⟩) 1 c/\2<=c/\K 2 (some g) wr)\/(∃ g c,s=.slice (some ⟨g,0,none⟩) 0 c/\K 3 (some g) wr)) (fun s _=>match s with | .slice _ n c=>if c=1 then 3 else n|_=>0)
 case atStart=>exact .inl ⟨rfl,hal _ _ _ _ h0,by simp [aW2],by simp [aW2]⟩
 case round =>
  rcases hrel with ⟨rfl,hJs,d0,d1⟩|⟨g,c,rfl,hc,hJs⟩|⟨g,c,rfl,hc,hJs⟩|⟨g,c,rfl,hJs⟩
  ·obtain ⟨c0,c1,c2,c3,c4,c5⟩:=hr _ _ _ hJs
   gi_wp2
   refine wpIn_region_any h_ ?_;change wpAnyIn _ _ _ _ _ _ _ _ _ (World.drew _);refine wpAnyIn_take (i:=0) (v:=?v1) rfl rfl h_ h_ h_ (fun _ _ _ h=>h) ⟨Or.inl ⟨by rfl,?hy1⟩,fun _=>rfl⟩ ?_
   case hy1=>((intro w;go_simp);all_goals with_reducible rfl)
   refine wpAnyIn_take (i:=1) (v:=?v2) rfl rfl h_ h_ h_ (fun _ _ _ h=>h) ⟨Or.inl ⟨by rfl,?hy2⟩,fun _=>rfl⟩ ?_
   case hy2=>((intro w;go_simp);all_goals with_reducible rfl)
   refine wpAnyIn_take (i:=2) (v:=?v3) rfl rfl h_ h_ h_ (fun _ _ _ h=>h) ⟨Or.inl ⟨by rfl,?hy3⟩,fun _=>rfl⟩ ?_
   case hy3=>((intro w;go_simp);all_goals with_reducible rfl)
   refine wpAnyIn_take (i:=3) (v:=?v4) rfl rfl h_ h_ h_ (fun _ _ _ h=>h) ⟨Or.inl ⟨by rfl,?hy4⟩,fun _=>rfl⟩ ?_
   case hy4=>((intro w;go_simp);all_goals with_reducible rfl)
   refine wpAnyIn_take (i:=4) (v:=?v5) rfl rfl h_ h_ h_ (fun _ _ _ h=>h) ⟨Or.inl ⟨by rfl,?hy5⟩,fun _=>rfl⟩ ?_
   case hy5=>((intro w;go_simp);all_goals with_reducible rfl)
   refine wpAnyIn_take (i:=5) (v:=?v6) rfl rfl h_ h_ h_ (fun _ _ _ h=>h) ⟨Or.inl ⟨by rfl,?hy6⟩,fun _=>rfl⟩ ?_
   case hy6=>((intro w;go_simp);all_goals with_reducible rfl)
   refine wpAnyIn_ready (rs:=[6]) h_ b_ ?_;refine AllReadyIn.cons rfl (fun K' hK'=>?_) AllReadyIn.nil
   go_simp
   refine hK' _ _ ?_;clear hK' K';refine wpAnyIn_ready (rs:=[7]) h_ b_ ?_;refine AllReadyIn.cons rfl (fun K' hK'=>?_) AllReadyIn.nil;refine ch7 rfl (.tmp 20) (.tmp 22) _ rfl _ i0 z0 h_ hi0 hz0 ⟨W.heap.size,0,none⟩ 1 (by simp [Act.eval,Act.put]) ⟨ab,ao,none⟩ 2 cap [.int .i64 ka,.slice a 0 ca,.int .i64 kb,.slice b 0 cb] (by simp [Act.eval,Act.put]) (by simp [hs0]) ?cells a_ a_ hb0 (fun c' arr hc' harr=>?_)
   case cells =>
    have hq:=hr 0 none _ (hdr _ _ _ (hal 0 none wr (.cells #[.int .i64 k,.slice (some ⟨ab,ao,none⟩) 2 cap] 29) hJs));intro j u hj
    match j with
    | 0=>simp at hj;subst hj;exact hq.2.2.1
    | 1=>simp at hj;subst hj;exact hq.2.2.2.1
    | 2=>simp at hj;subst hj;exact hq.2.2.2.2.1
    | 3=>simp at hj;subst hj;exact hq.2.2.2.2.2
    | j+4=>simp at hj
   refine hK' _ _ ?_;clear hK' K';refine wpAnyIn_take (i:=8) (v:=?v7) rfl rfl h_ h_ h_ (fun _ _ _ h=>h) ⟨Or.inl ⟨by rfl,?hy7⟩,fun _=>rfl⟩ ?_
   case hy7=>((intro w;go_simp);all_goals with_reducible rfl)
   refine wpAnyIn_done h_ ?_ _;have hJ2:K 0 (some (wr.heap.size+1)) (((wr.alloc (.cells #[.int .i64 k,.slice (some ⟨ab,ao,none⟩) 2 cap] 29)).alloc (.cells arr 29)).drew.drew):=by
    have:=hnew 0 _ arr 29 (hdr _ _ _ (hdr _ _ _ (hal 0 none wr (.cells #[.int .i64 k,.slice (some ⟨ab,ao,none⟩) 2 cap] 29) hJs))) (harr 0 _ rfl) (harr 1 _ rfl) (harr 2 _ rfl) (harr 3 _ rfl);have e:((wr.alloc (.cells #[.int .i64 k,.slice (some ⟨ab,ao,none⟩) 2 cap] 29)).drew.drew).heap.size=wr.heap.size+1:=by simp
    rw [e] at this;exact this
   obtain ⟨fn,tmps,assign,body,hy,hR⟩:=hY 0 _ _ _ (hJ2) (.inl ⟨rfl,rfl⟩)
   gi_wp2
   refine ⟨rfl,hR.mono ?_⟩;rintro e W3 (⟨rfl,hJ3⟩|⟨rfl,hJx3⟩)
   ·gi_wp2
    go_roundw
    case rel=>exact .inr (.inl ⟨_,c',rfl,hc',hJ3⟩)
    case measure=>simp [show c'≠1 by omega]
   ·gi_wp2
    refine aW5 (aL9 rfl _ _ _) rfl ?_;exact ⟨⟨_,rfl⟩,.inr hJx3⟩
  ·obtain ⟨d0,d1,d2,d3⟩:=hb _ _ _ hJs
   have hc1:(1:Int)<=(c:Int):=by omega
   gi_wp2
   refine wpIn_region_any h_ ?_;change wpAnyIn _ _ _ _ _ _ _ _ _ (World.drew _);refine wpAnyIn_take (i:=0) (v:=?v8) rfl rfl h_ h_ h_ (fun _ _ _ h=>h) ⟨Or.inl ⟨by rfl,?hy8⟩,fun _=>rfl⟩ ?_
   case hy8=>((intro w;go_simp);all_goals with_reducible rfl)
   refine wpAnyIn_take (i:=1) (v:=?v9) rfl rfl h_ h_ h_ (fun _ _ _ h=>h) ⟨Or.inl ⟨by rfl,?hy9⟩,fun _=>rfl⟩ ?_
   case hy9=>((intro w;go_simp);all_goals with_reducible rfl)
   refine wpAnyIn_take (i:=2) (v:=?v10) rfl rfl h_ h_ h_ (fun _ _ _ h=>h) ⟨Or.inl ⟨by rfl,?hy10⟩,fun _=>rfl⟩ ?_
   case hy10=>((intro w;go_simp);all_goals with_reducible rfl)
   refine wpAnyIn_take (i:=3) (v:=?v11) rfl rfl h_ h_ h_ (fun _ _ _ h=>h) ⟨Or.inl ⟨by rfl,?hy11⟩,fun _=>rfl⟩ ?_
   case hy11=>((intro w;go_simp);all_goals with_reducible rfl)
   refine wpAnyIn_take (i:=4) (v:=?v12) rfl rfl h_ h_ h_ (fun _ _ _ h=>h) ⟨Or.inl ⟨by rfl,?hy12⟩,fun _=>rfl⟩ ?_
   case hy12=>((intro w;go_simp);all_goals with_reducible rfl)
   refine wpAnyIn_take (i:=5) (v:=?v13) rfl rfl h_ h_ h_ (fun _ _ _ h=>h) ⟨Or.inl ⟨by rfl,?hy13⟩,fun _=>rfl⟩ ?_
   case hy13=>((intro w;go_simp);all_goals with_reducible rfl)
   refine wpAnyIn_ready (rs:=[6]) h_ b_ ?_;refine AllReadyIn.cons rfl (fun K' hK'=>?_) AllReadyIn.nil
   go_simp
   refine hK' _ _ ?_;clear hK' K';refine wpAnyIn_ready (rs:=[7]) h_ b_ ?_;refine AllReadyIn.cons rfl (fun K' hK'=>?_) AllReadyIn.nil;refine aP9 rfl (.tmp 20) (.tmp 22) _ rfl _ i0 h_ hi0 (some ⟨g,0,none⟩) 1 c (by simp [Act.eval,Act.put]) a_ b cb (by simp [Act.eval,Act.put]) ?_;refine hK' _ _ ?_;clear hK' K';refine wpAnyIn_take (i:=8) (v:=?v14) rfl rfl h_ h_ h_ (fun _ _ _ h=>h) ⟨Or.inl ⟨by rfl,?hy14⟩,fun _=>rfl⟩ ?_
   case hy14=>((intro w;go_simp);all_goals with_reducible rfl)
   refine wpAnyIn_done h_ ?_ _;obtain ⟨fn,tmps,assign,body,hy,hR⟩:=hY 1 _ _ _ (hdr _ _ _ (hal 1 (some g) wr (.cells #[.int .i64 kb,.slice b 0 cb] 29) hJs)) (.inr (.inl ⟨rfl,rfl⟩))
   gi_wp2
   refine ⟨rfl,hR.mono ?_⟩;rintro e W3 (⟨rfl,hJ3⟩|⟨rfl,hJx3⟩)
   ·gi_wp2
    go_roundw
    case rel=>exact .inr (.inr (.inl ⟨_,c,rfl,hc,hJ3⟩))
    case measure=>simp [show c≠1 by omega]
   ·gi_wp2
    refine aW5 (aL9 rfl _ _ _) rfl ?_;exact ⟨⟨_,rfl⟩,.inr hJx3⟩
  ·obtain ⟨d0,d1,d2,d3⟩:=hb _ _ _ hJs
   have hc1:(1:Int)<=(c:Int):=by omega
   gi_wp2
   refine wpIn_region_any h_ ?_;change wpAnyIn _ _ _ _ _ _ _ _ _ (World.drew _);refine wpAnyIn_take (i:=0) (v:=?v15) rfl rfl h_ h_ h_ (fun _ _ _ h=>h) ⟨Or.inl ⟨by rfl,?hy15⟩,fun _=>rfl⟩ ?_
   case hy15=>((intro w;go_simp);all_goals with_reducible rfl)
   refine wpAnyIn_take (i:=1) (v:=?v16) rfl rfl h_ h_ h_ (fun _ _ _ h=>h) ⟨Or.inl ⟨by rfl,?hy16⟩,fun _=>rfl⟩ ?_
   case hy16=>((intro w;go_simp);all_goals with_reducible rfl)
   refine wpAnyIn_take (i:=2) (v:=?v17) rfl rfl h_ h_ h_ (fun _ _ _ h=>h) ⟨Or.inl ⟨by rfl,?hy17⟩,fun _=>rfl⟩ ?_
   case hy17=>((intro w;go_simp);all_goals with_reducible rfl)
   refine wpAnyIn_take (i:=3) (v:=?v18) rfl rfl h_ h_ h_ (fun _ _ _ h=>h) ⟨Or.inl ⟨by rfl,?hy18⟩,fun _=>rfl⟩ ?_
   case hy18=>((intro w;go_simp);all_goals with_reducible rfl)
   refine wpAnyIn_take (i:=4) (v:=?v19) rfl rfl h_ h_ h_ (fun _ _ _ h=>h) ⟨Or.inl ⟨by rfl,?hy19⟩,fun _=>rfl⟩ ?_
   case hy19=>((intro w;go_simp);all_goals with_reducible rfl)
   refine wpAnyIn_take (i:=5) (v:=?v20) rfl rfl h_ h_ h_ (fun _ _ _ h=>h) ⟨Or.inl ⟨by rfl,?hy20⟩,fun _=>rfl⟩ ?_
   case hy20=>((intro w;go_simp);all_goals with_reducible rfl)
   refine wpAnyIn_ready (rs:=[6]) h_ b_ ?_;refine AllReadyIn.cons rfl (fun K' hK'=>?_) AllReadyIn.nil
   go_simp
   refine hK' _ _ ?_;clear hK' K';refine wpAnyIn_ready (rs:=[7]) h_ b_ ?_;refine AllReadyIn.cons rfl (fun K' hK'=>?_) AllReadyIn.nil;refine aP9 rfl (.tmp 20) (.tmp 22) _ rfl _ i0 h_ hi0 (some ⟨g,0,none⟩) 0 c (by simp [Act.eval,Act.put]) a_ a ca (by simp [Act.eval,Act.put]) ?_;refine hK' _ _ ?_;clear hK' K';refine wpAnyIn_take (i:=8) (v:=?v21) rfl rfl h_ h_ h_ (fun _ _ _ h=>h) ⟨Or.inl ⟨by rfl,?hy21⟩,fun _=>rfl⟩ ?_
   case hy21=>((intro w;go_simp);all_goals with_reducible rfl)
   refine wpAnyIn_done h_ ?_ _;obtain ⟨fn,tmps,assign,body,hy,hR⟩:=hY 2 _ _ _ (hdr _ _ _ (hal 2 (some g) wr (.cells #[.int .i64 ka,.slice a 0 ca] 29) hJs)) (.inr (.inr ⟨rfl,rfl⟩))
   gi_wp2
   refine ⟨rfl,hR.mono ?_⟩;rintro e W3 (⟨rfl,hJ3⟩|⟨rfl,hJx3⟩)
   ·gi_wp2
    go_roundw
    case rel=>exact .inr (.inr (.inr ⟨_,c,rfl,hJ3⟩))
    case measure=>simp [show c≠1 by omega]
   ·gi_wp2
    refine aW5 (aL9 rfl _ _ _) rfl ?_;exact ⟨⟨_,rfl⟩,.inr hJx3⟩
  ·gi_wp2
   go_end0
   exact ⟨⟨_,rfl⟩,.inl ⟨_,hJs⟩⟩
def ba2 (l:List Nat):V:=.iface 300 (Z9 l)
def aQ0:List Nat->List V
 | []=>[]
 | x::l=>Z9 (x::l)::aQ0 l
theorem aF2:∀ l,(aQ0 l).length=l.length
 | []=>rfl
 | x::l=>by simp [aQ0,aF2 l]
theorem bA4:∀ (l:List Nat) (i:Nat),i<l.length->(aQ0 l)[i]? = some (Z9 (l.drop i))
 | [],i,h=>by simp at h
 | x::l,0,_=>rfl
 | x::l,i+1,h=>by exact bA4 l i (by simpa using h)
theorem dj8:∀ l,B1 (aQ0 l)=aQ0 l
 | []=>rfl
 | x::l=>by simp [aQ0,B1,aj0,dj8 l]
theorem cQ5 (l:List Nat):A7 ((aQ0 l).map fun v=>[v])=(aQ0 l).map fun v=>[v]:=by
 have h:=dj8 l;rw [aF9] at h;rw [J0,aR3]
 conv=>rhs;rw [<- h]
 simp [B1]
variable {l:List Nat}
theorem bv3 {i:Nat} (h:i<l.length):∃ x,l.drop i=x::l.drop (i+1)/\l.getD i 0=x/\Z9 (l.drop i)=.el [.int .i64 x,Z9 (l.drop (i+1))] 0:=by
 grind [List.drop_eq_getElem_cons,Z9]
theorem bZ9 (l:List Nat):Z9 l=.U3\/∃ c,Z9 l=.el c 0/\B1 c=c/\∀ S,InL S c=True:=by
 cases l with
 | nil=>exact .inl rfl
 | cons x l=>exact .inr ⟨_,rfl,by simp [B1,J5,aj0],fun S=>by simp [InL,InV,ba3]⟩
inductive aK8 (d:GoAbs.Id) (most:Nat) (sv:V) (l:List Nat):Nat->Nat->V->Nat->Bool->V->Prop
 | nil {u:Nat} {rv:V}:aK8 d most sv l 0 u rv u false rv
 | stop {i u u':Nat} {rv w:V}:af0 d most u sv [an7 (l.getD i 0),ba2 (l.drop (i+1)),rv] u' true w->aK8 d most sv l (i+1) u rv u' true w
 | step {i u u1 u':Nat} {rv rv1 w:V} {o:Bool}:af0 d most u sv [an7 (l.getD i 0),ba2 (l.drop (i+1)),rv] u1 false rv1->IsI rv1->aK8 d most sv l i u1 rv1 u' o w->aK8 d most sv l (i+1) u rv u' o w
theorem aK8.cons {d:GoAbs.Id} {most i u u':Nat} {sv rv w:V} {l:List Nat} {o:Bool} (h:aK8 d most sv l (i+1) u rv u' o w) :
  (o=true/\af0 d most u sv [an7 (l.getD i 0),ba2 (l.drop (i+1)),rv] u' true w) \/
  ∃ u1 rv1,af0 d most u sv [an7 (l.getD i 0),ba2 (l.drop (i+1)),rv] u1 false rv1/\IsI rv1/\aK8 d most sv l i u1 rv1 u' o w:=by
 cases h<;>grind
variable {d:GoAbs.Id} {most u u':Nat} {o:Bool}
theorem aK8.none {sv rv w:V} (h:aK8 d most sv l 0 u rv u' o w):u'=u/\o=false/\w=rv:=by cases h;grind
theorem dr3 {zv sv w:V} (h0:aK8 d most sv l l.length u zv u' o w) (hz:IsI zv) (hs:IsI sv) (hl:l.length<=100000) :
  m_ env 290 [.ptr d 0,.agg [zv,sv,ba2 l]] d (mb u most) (evR o w) (mb u' most):=by
 intro h hd;unfold mb at hd ⊢;have x0:((0:Int)<((3:Nat):Int))=True:=by simp
 have x1:((1:Int)<((3:Nat):Int))=True:=by simp
 have x2:((2:Int)<((3:Nat):Int))=True:=by simp
 have hsI:=hs;have hzI:=hz;obtain ⟨s1,s2,rfl,ws,is⟩:=hs;obtain ⟨z1,z2,rfl,wz,iz⟩:=hz;unfold ba2;refine M8 Tryz.func290 rfl h_ fun g0 w0 gen g9 hfr=>?_;have e9:∀ r i,h ⟨gen,r,i⟩=none:=o0 hfr;have n8:Tryz.f290.results.toList=[.tmp 4,.tmp 5]:=rfl;have hl0:∀ b,w0.heap.size<=b->g0.lim b=0:=g9.B3;have f1:=n9 hfr hd;have f2:=p6 hfr hd;refine ae9 ?_;simp only [ag9,W8,aa5,ak0,aC4,R9,Q3,E0,B7,ae7];refine aj7 (J:=fun σ=>∃ gn,gen<gn/\σ.tm 2=.ptr ⟨gen,0,0⟩ 0/\σ.tm 3=.ptr ⟨gen,0,1⟩ 0/\σ.tm 8=.ptr ⟨gn,6,2⟩ 0/\σ.tm 9=.ptr ⟨gn,6,3⟩ 0 /\
  σ.tm 28=.fn (.func 292) [] [.el [.sl .any ((aQ0 l).map fun v=>[v])] 0]/\a6 d h σ.h/\σ.h d=some (.box [.int .i64 u,.int .i64 most]) /\
  σ.h ⟨gen,0,0⟩=some (.box [.ptr d 0])/\σ.h ⟨gen,0,1⟩=some (.box [.iface z1 z2,.iface s1 s2,.iface 300 (Z9 l)])/\σ.h ⟨gn,6,2⟩=some (.box [.iface z1 z2])/\σ.h ⟨gn,6,3⟩=some (.box [.bool true]))
  [_,_,_,_,_,_] h_ follows ?_ ?_
 ·clear h0 hsI hzI
  simp only [E0,B7,R9,Q3];have hcl:=bZ9 l;refine e_ ?_;refine E6 (fun i σ=>σ.tm 2=.ptr ⟨gen,0,0⟩ 0/\σ.tm 3=.ptr ⟨gen,0,1⟩ 0/\σ.tm 7=Z9 (l.drop i)/\i<=l.length/\a6 d h σ.h/\σ.h d=some (.box [.int .i64 u,.int .i64 most]) /\
   σ.h ⟨gen,0,0⟩=some (.box [.ptr d 0])/\σ.h ⟨gen,0,1⟩=some (.box [.iface z1 z2,.iface s1 s2,.iface 300 (Z9 l)])/\Q4 h σ.h (σ.tm 6) 1 (((aQ0 l).take i).map fun v=>[v])) l.length ?_ ?_
  ·simp only [go_sem, *]
   exact ⟨by repeat (first|exact a6.refl _ _|refine a6.new ?_ (e9 _ _)),.inl rfl⟩
  intro i σ hi ⟨j2,j3,j7,ji,jA,jd,jb0,jb1,j6⟩;refine ai4 (fun gn hgl hgn=>?_);have hgf:=o0 hgn;have l6:=p5 hd jA hgf (fun r i e=>by have:=hfr d (by rw [hd];simp);rw [e] at this;simp at this;omega);have fd:=u5 hfr hd hgl;rcases R0 i l.length with hlt|hge
  ·obtain ⟨x,hx1,hx2,hx3⟩:=bv3 hlt
   rw [hx3] at j7;have hse:((aQ0 l).take (i+1)).map (fun v=>[v])=((aQ0 l).take i).map (fun v=>[v])++[[.el [.int .i64 x,Z9 (l.drop (i+1))] 0]]:=by
    rw [bC8,bA4 l i hlt,hx3];simp
   generalize hes:((aQ0 l).take i).map (fun v=>[v])=es at j6 hse;have hel:es.length=i:=by rw [<- hes];simp [aF2];omega
   have hal:es.all (fun e=>e.length==1)=true:=by rw [<- hes,ad2];intro e he;obtain ⟨v,_,rfl⟩:=G5.1 he;rfl
   repeat' (first
    |(refine ⟨?_,?_⟩;focus ((repeat' (first|refine ⟨?_,?_⟩|refine .inr ?_));all_goals kernel_rfl))
    |(refine X6 j6 t_ rfl r_ s_ j_ (by intro hd;cases hd) ?_;intro v' h' log' jO jK jAg jAb jF;simp only [go_sem, *])
    | (first|refine wp rfl ?_|refine spt rfl ?_|refine spf rfl ?_|(refine spl (fun hc=>?_) fun hc=>?_)<;>(try rw [L1] at hc)<;>try simp only [hc]|(refine gs (fun hb=>?_) fun hb=>?_)<;>try simp only [E7,M9] at hb|refine D3 ?_)<;>try simp only [go_sem, *])
   exact hlt
  ·rw [show l.drop i=[] from List.drop_eq_nil_of_le hge] at j7
   have hse:((aQ0 l).take i).map (fun v=>[v])=(aQ0 l).map (fun v=>[v]):=by rw [ak6 (by rw [aF2];exact hge)]
   obtain ⟨cO,j6⟩:=j6.val;have hsr:=cQ5 l
   repeat' (first
    |(refine ⟨?_,?_⟩;focus ((repeat' (first|refine ⟨?_,?_⟩|refine .inr ?_));all_goals kernel_rfl))
    | (first|refine wp rfl ?_|refine spt rfl ?_|refine spf rfl ?_|(refine spl (fun hc=>?_) fun hc=>?_)<;>(try rw [L1] at hc)<;>try simp only [hc]|(refine gs (fun hb=>?_) fun hb=>?_)<;>try simp only [E7,M9] at hb|refine cp cl7 ?_|refine D3 ?_)<;>try simp only [go_sem, *])
   exact ⟨gn,hgl,rfl,rfl,by repeat (first|exact jA|refine a6.new ?_ (l6 _ _)|refine a6.set ?_),b_,b_⟩
 ·clear x0 x2
  rintro σ ⟨gn,hgl,j2,j3,j8,j9,j28,jA,jd,jb0,jb1,jb2,jb3⟩;have eg1:=o7 hgl;have fd:=u5 hfr hd hgl;have fe:=D4 hfr hd hgl;have hgn:∀ r i,h ⟨gn,r,i⟩=none:=fun r i=>Classical.byContradiction fun e=>by have:=hfr _ e;simp at this;omega
  refine x6 ?_;refine bW0 (vs:=aQ0 l) do1 j28 (by rw [aF2];omega) (ah5 h_) (ah5 h_)
   (fun i hi=>a6 d h hi/\hi ⟨gen,0,0⟩=some (.box [.ptr d 0])/\hi ⟨gen,0,1⟩=some (.box [.iface z1 z2,.iface s1 s2,.iface 300 (Z9 l)])/\i<=l.length /\
    ∃ (uj:Nat) (rj:V) (oj:Bool),hi d=some (.box [.int .i64 uj,.int .i64 most])/\hi ⟨gn,6,2⟩=some (.box [rj])/\hi ⟨gn,6,3⟩=some (.box [.bool (!oj)])/\(oj=true->rj=.L3/\u'=uj/\o=true) /\
     (oj=false->IsI rj/\aK8 d most (.iface s1 s2) l i uj rj u' o w))
   (fun id hi=>id=some 2/\a6 d h hi/\hi d=some (.box [.int .i64 u',.int .i64 most])/\hi ⟨gn,6,2⟩=some (.box [.L3])/\hi ⟨gn,6,3⟩=some (.box [.bool false])/\o=true) ?_ ?_ ?_ ?_
  ·rw [aF2]
   exact ⟨jA,jb0,jb1,w7 _,u,_,false,jd,jb2,jb3,(fun e=>by cases e),fun _=>⟨hzI,h0⟩⟩
  ·
   intro xa xb gr i v hi oka okb hgr hlt hv ⟨jA,jb0,jb1,ji,uj,rj,oj,jd,jb2,jb3,jt,jf⟩ mid fin finx;rw [aF2] at hlt;obtain ⟨x,hx1,hx2,hx3⟩:=bv3 hlt;have hv':=bA4 l i hlt;rw [hv',hx3] at hv;cases hv;refine o6 oka follows h_ ?_;simp only [go_sem, *];refine mid _ _ ?_;clear mid;refine al0 (fun gm hgm=>?_);have hgf:∀ r i,hi ⟨gm,r,i⟩=none:=o0 hgm;cases oj with
   | true =>
    obtain ⟨rfl,rfl,rfl⟩:=jt rfl;simp only [E7] at jb3;replace finx:=fun gn' σ' h=>finx gn' (some 2) σ' ⟨rfl,h⟩;simp only [ao1] at finx;exact ei7
   | false =>
    obtain ⟨jI,jk⟩:=jf rfl;simp only [M9] at jb3;have hcw:=aj0 (l.drop (i+1));obtain ⟨r1,r2,rfl,wr,ir⟩:=id jI;rcases jk.cons with ⟨rfl,hk⟩|⟨u1,rv1,hk,hI1,hr1⟩
    ·have hT:=ay0 hk b_ (fun e=>by cases e) hsI
     rw [hx2] at hT;unfold evR ak9 mb an7 ba2 at hT
     repeat' (first
      |(refine ⟨?_,?_⟩;focus ((repeat' (first|refine ⟨?_,?_⟩|refine .inr ?_));all_goals kernel_rfl))
      |exact agb l_
      | (first|refine A4 ?_|refine o6 okb follows h_ ?_|refine u7 ?_|refine x6 ?_|refine N2 ?_|refine E1 ?_|refine K6 ?_|refine s7 ?_|refine F9 (by decide) ?_|refine C7 ?_|refine E3 ?_|refine spt rfl ?_|refine spf rfl ?_|(refine ct (hT) ?_ ?_;focus ((simp only [go_sem, *]<;>rfl);done)))<;>try simp only [go_sem, *])
     refine fin _ _ ⟨by repeat (first|exact jA|refine a6.new ?_ (l6 _ _)|refine a6.new ?_ (hgn _ _)|refine a6.set ?_),j_,j_,a_,u',_,true,j_,by simp only [go_sem, *]<;>rfl,by simp only [go_sem, *]<;>rfl,(fun _=>⟨rfl,rfl,rfl⟩),fun e=>by cases e⟩
    ·have hT:=ay0 hk b_ (fun _=>hI1) hsI
     rw [hx2] at hT;unfold evR ak9 mb an7 ba2 at hT;obtain ⟨q1,q2,rfl,wq,iq⟩:=id hI1
     repeat' (first
      |(refine ⟨?_,?_⟩;focus ((repeat' (first|refine ⟨?_,?_⟩|refine .inr ?_));all_goals kernel_rfl))
      |exact agb l_
      | (first|refine A4 ?_|refine o6 okb follows h_ ?_|refine u7 ?_|refine x6 ?_|refine N2 ?_|refine E1 ?_|refine K6 ?_|refine s7 ?_|refine F9 (by decide) ?_|refine C7 ?_|refine E3 ?_|refine spt rfl ?_|refine spf rfl ?_|(refine ct (hT) ?_ ?_;focus ((simp only [go_sem, *]<;>rfl);done)))<;>try simp only [go_sem, *])
     refine fin _ _ ⟨by repeat (first|exact jA|refine a6.new ?_ (l6 _ _)|refine a6.new ?_ (hgn _ _)|refine a6.set ?_),j_,j_,a_,u1,_,false,j_,by simp only [go_sem, *]<;>rfl,by simp only [go_sem, *]<;>rfl,(fun e=>by cases e),fun _=>⟨hI1,hr1⟩⟩
  ·rintro D h' ⟨jA,jb0,jb1,ji,uj,rj,oj,jd,jb2,jb3,jt,jf⟩
   have okD:=bM5 ⟨Tryz.prog,env,Tryz.f290.ntmps,Tryz.f290,g0,w0,h,evR o w,p8 h d (.box [.int .i64 u',.int .i64 most])⟩ D;cases oj with
   | true =>
    obtain ⟨rfl,rfl,rfl⟩:=jt rfl;simp only [E7] at jb3;unfold evR ak9
    repeat' (first
     |(refine ⟨?_,?_⟩;focus ((repeat' (first|refine ⟨?_,?_⟩|refine .inr ?_));all_goals kernel_rfl))
     |exact agb l_
     | (first|refine A4 ?_|refine o6 okD follows h_ ?_|refine u7 ?_|refine x6 ?_|refine N2 ?_|refine E1 ?_|refine K6 ?_|refine s7 ?_|refine F9 (by decide) ?_|refine C7 ?_|refine E3 ?_|refine spt rfl ?_|refine spf rfl ?_|refine ag4 follows hl0 ?_|refine aX7 g9 hd ?_ ?_ ?_ ?_ ?_)<;>try simp only [go_sem, *])
   | false =>
    obtain ⟨jI,jk⟩:=jf rfl;simp only [M9] at jb3;obtain ⟨rfl,rfl,rfl⟩:=jk.none;obtain ⟨r1,r2,rfl,wr,ir⟩:=id jI;unfold evR ak9
    repeat' (first
     |(refine ⟨?_,?_⟩;focus ((repeat' (first|refine ⟨?_,?_⟩|refine .inr ?_));all_goals kernel_rfl))
     |exact agb l_
     | (first|refine A4 ?_|refine o6 okD follows h_ ?_|refine u7 ?_|refine x6 ?_|refine N2 ?_|refine E1 ?_|refine K6 ?_|refine s7 ?_|refine F9 (by decide) ?_|refine C7 ?_|refine E3 ?_|refine spt rfl ?_|refine spf rfl ?_|refine ag4 follows hl0 ?_|refine aX7 g9 hd ?_ ?_ ?_ ?_ ?_)<;>try simp only [go_sem, *])
  ·rintro D id' h' ⟨rfl,jA,jd,jb2,jb3,rfl⟩
   simp only [ao1];have okD:=bM5 ⟨Tryz.prog,env,Tryz.f290.ntmps,Tryz.f290,g0,w0,h,evR true w,p8 h d (.box [.int .i64 u',.int .i64 most])⟩ D;unfold evR ak9
   repeat' (first
    |(refine ⟨?_,?_⟩;focus ((repeat' (first|refine ⟨?_,?_⟩|refine .inr ?_));all_goals kernel_rfl))
    |exact agb l_
    | (first|refine A4 ?_|refine o6 okD follows h_ ?_|refine u7 ?_|refine x6 ?_|refine N2 ?_|refine E1 ?_|refine K6 ?_|refine s7 ?_|refine F9 (by decide) ?_|refine C7 ?_|refine E3 ?_|refine spt rfl ?_|refine spf rfl ?_|refine ag4 follows hl0 ?_|refine aX7 g9 hd ?_ ?_ ?_ ?_ ?_)<;>try simp only [go_sem, *])
def dm5 (K most:Nat) (E:Evl):Prop:=∀ (d:GoAbs.Id) (c u:Nat) (t:Tm) (e:List Res) (ve:V) (G:List Ty) (s:Ty) (r:Res) (u':Nat) (o:Bool),E u t e=some (r,u',o)->c<=u->u<=most->TmW t ->
 e.length<=u+K - c->(∀ x∈e,J8 (u+K - c) x)->l7 TyG G t s->aM7 kt G e ve->∃ v,ag5 d most u u' o t ve v/\(o=false->ThV kt s r v)
theorem cd8 (n:Nat):IsI (an7 n):=(ThV.num (K:=kt) (n:=n)).isI
theorem cn3 (l:List Nat):IsI (ba2 l):=(ThV.list (K:=kt) (l:=l)).isI
section
variable {K most:Nat} {E:Evl} (hE:EvW K most E) (hC:dm5 K most E) {d:GoAbs.Id}
include hE hC
variable {r:Res} {t:Ty}
theorem ax2 {c:Nat} {f a:Res} {s:Ty} {fv av:V} (h:aa0 E u f a=some (r,u',o)) (hc:c+1<=u) (hu:u<=most) (hf:J8 (u+K - c - 1) f) (ha:J8 (u+K - c - 1) a)
  (tf:ThV kt (x9 s t) f fv) (ta:ThV kt s a av):∃ b ve v,fv=cn6 b ve/\IsE ve/\ag5 d most u u' o b (.el [av,ve] 0) v/\(o=false->ThV kt t r v)/\u<=u'/\u'<=most/\(o=false->u<u'/\J8 (u'+K - c - 1) r):=by
 have hW:=ay4 hE h hc hu hf ha;cases tf with
 | clo he hb =>
  rename_i g b e ve;have hel:=hf.el;simp only [bQ5,Res.env] at hel;obtain ⟨v,h1,h2⟩:=hC d c u b (e++[a]) (.el [av,ve] 0) _ _ r u' o h a_ hu hf.bd (by simp;omega) (fun x hx=>by
   rcases Q8.1 hx with hx|hx
   ·exact (hf.es x hx).up a_
   ·simp at hx;subst hx;exact ha.up a_) hb (.snoc he ta)
  exact ⟨b,ve,v,rfl,he.isE,h1,h2,hW⟩
theorem bH8 {e:List Res} {G:List Ty} {ve:V} (hve:aM7 kt G e ve):∀ {l:List Tm} {ts:List Ty} {c u u':Nat} {l':List Res} {o:Bool},Y6 E e u l=some (l',u',o)->c<=u->u<=most->(∀ t∈l,TmW t) ->
  e.length<=u+K - c->(∀ x∈e,J8 (u+K - c) x)->l.length=ts.length->(∀ (i:Nat) x a,l[i]? = some x->ts[i]? = some a->l7 TyG G x a) ->
  ∃ vs,bp1 d most ve u l u' o vs/\vs.length<=l.length/\(o=true->vs.length<l.length)/\(∀ v∈vs,IsI v) /\
   (o=false->vs.length=l.length/\l'.length=l.length/\∀ (i:Nat) r v a,l'[i]? = some r->vs[i]? = some v->ts[i]? = some a->ThV kt a r v)
 | [],ts,c,u,u',l',o,h,hc,hu,ht,hel,he,hl,hty=>by
  simp only [Y6,S6,aA5] at h;obtain ⟨rfl,rfl,rfl⟩:=h;exact ⟨[],.nil,b_,(fun e=>by cases e),b_,fun _=>⟨rfl,rfl,b_⟩⟩
 | t::l,[],c,u,u',l',o,h,hc,hu,ht,hel,he,hl,hty=>by simp at hl
 | t :: l,a::ts,c,u,u',l',o,h,hc,hu,ht,hel,he,hl,hty=>by
  rw [Y6] at h;cases h1:E u t e with
  | none=>rw [h1] at h;cases h
  | some p =>
   obtain ⟨r,u1,o1⟩:=p;obtain ⟨w1,w2,w3⟩:=hE c u t e r u1 o1 h1 hc hu (ht t b_) hel he;obtain ⟨v,c1,c2⟩:=hC d c u t e ve G a r u1 o1 h1 hc hu (ht t b_) hel he (hty 0 t a rfl rfl) hve;rw [h1] at h;cases o1 with
   | true =>
    simp only [S6,aA5] at h;obtain ⟨rfl,rfl,rfl⟩:=h;exact ⟨[],.stop c1,b_,(fun _=>by simp),b_,fun e=>by cases e⟩
   | false =>
    simp only at h;cases h2:Y6 E e u1 l with
    | none=>rw [h2] at h;cases h
    | some q =>
     obtain ⟨l2,u2,o2⟩:=q;rw [h2] at h;simp only [S6,aA5] at h;obtain ⟨rfl,rfl,rfl⟩:=h;obtain ⟨w3,w4⟩:=w3 rfl;have tv:=c2 rfl;obtain ⟨vs,q1,q2,q3,q4,q5⟩:=bH8 hve h2 (by omega:c<=u1) w2 (fun x hx=>ht x (by simp [hx])) a_ (fun x hx=>(he x hx).up a_) (by simpa using hl)
      (fun i x b hx hb=>hty (i+1) x b (by simpa using hx) (by simpa using hb))
     refine ⟨v::vs,.step c1 tv.isI q1,by simp;omega,(fun e=>by have:=q3 e;simp;omega),?_,fun ho=>?_⟩
     ·intro x hx
      rcases D9.1 hx with rfl|hx
      ·exact tv.isI
      ·exact q4 x hx
     ·obtain ⟨p1,p2,p3⟩:=q5 ho
      refine ⟨by simp [p1],by simp [p2],fun i r' v' a' hr hv ha=>?_⟩;cases i with
      | zero=>simp at hr hv ha;subst hr;subst hv;subst ha;exact tv
      | succ i=>exact p3 i r' v' a' (by simpa using hr) (by simpa using hv) (by simpa using ha)
theorem ca7 {c:Nat} {s:Res} {sv:V} {t:Ty} (ts:ThV kt (x9 c8 (x9 t t)) s sv):∀ {n k u u':Nat} {r r':Res} {o:Bool} {rv:V},ay5 E s n k u r=some (r',u',o)->c+1<=u->u<=most->k+n<=u+K - c - 1 ->
  J8 (u+K - c - 1) s->J8 (u+K - c - 1) r->ThV kt t r rv->∃ w,bp2 d most sv k n u rv u' o w/\(o=false->ThV kt t r' w)
 | 0,k,u,u',r,r',o,rv,h,hc,hu,hk,hs,hr,tr=>by
  simp only [ay5,S6,aA5] at h;obtain ⟨rfl,rfl,rfl⟩:=h;exact ⟨rv,.nil,fun _=>tr⟩
 | n + 1,k,u,u',r,r',o,rv,h,hc,hu,hk,hs,hr,tr=>by
  rw [ay5] at h;cases h1:aa0 E u s (aM3 k) with
  | none=>rw [h1] at h;cases h
  | some p =>
   obtain ⟨f,u1,o1⟩:=p;obtain ⟨b,ve,v,e1,e2,e3,e4,e5,e6,e7⟩:=ax2 hE hC (d:=d) h1 hc hu hs (J8.num a_) ts (ThV.num (n:=k));subst e1;rw [h1] at h;cases o1 with
   | true =>
    simp only [S6,aA5] at h;obtain ⟨rfl,rfl,rfl⟩:=h;exact ⟨v,.stop (.stop e3 (cd8 _) e2),fun e=>by cases e⟩
   | false =>
    simp only at h;obtain ⟨e7,e8⟩:=e7 rfl;have tf:=e4 rfl;cases h2:aa0 E u1 f r with
    | none=>rw [h2] at h;cases h
    | some q =>
     obtain ⟨r1,u2,o2⟩:=q;obtain ⟨b2,ve2,v2,g1,g2,g3,g4,g5,g6,g7⟩:=ax2 hE hC (d:=d) h2 a_ e6 e8 (hr.up a_) tf tr;rw [h2] at h;cases o2 with
     | true =>
      simp only [S6,aA5] at h;obtain ⟨rfl,rfl,rfl⟩:=h;rw [g1] at tf e3;exact ⟨v2,.stop (.step e3 (cd8 _) e2 (by rw [<- g1];rw [g1];exact tf.wk) (.stop g3 tr.isI g2)),fun e=>by cases e⟩
     | false =>
      simp only at h;obtain ⟨g7,g8⟩:=g7 rfl;have tr1:=g4 rfl;obtain ⟨w,k1,k2⟩:=ca7 ts h a_ g6 a_ (hs.up a_) g8 tr1;rw [g1] at tf e3;exact ⟨w,.step (.step e3 (cd8 _) e2 tf.wk (.step g3 tr.isI g2 tr1.wk .nil)) tr1.isI k1,k2⟩
theorem bH9 {c:Nat} {s:Res} {sv:V} {t:Ty} {l:List Nat} (ts:ThV kt (x9 c8 (x9 r5 (x9 t t))) s sv):∀ {n u u':Nat} {r r':Res} {o:Bool} {rv:V},aj1 E s l n u r=some (r',u',o)->c+1<=u->u<=most ->
  n<=l.length->l.length<=u+K - c - 1->(∀ x∈l,x<=u+K - c - 1)->J8 (u+K - c - 1) s->J8 (u+K - c - 1) r->ThV kt t r rv->∃ w,aK8 d most sv l n u rv u' o w/\(o=false->ThV kt t r' w)
 | 0,u,u',r,r',o,rv,h,hc,hu,hn,hll,hlx,hs,hr,tr=>by
  simp only [aj1,S6,aA5] at h;obtain ⟨rfl,rfl,rfl⟩:=h;exact ⟨rv,.nil,fun _=>tr⟩
 | n + 1,u,u',r,r',o,rv,h,hc,hu,hn,hll,hlx,hs,hr,tr=>by
  rw [aj1] at h;have hx:l.getD n 0<=u+K - c - 1:=by
   have hlt:n<l.length:=by omega
   have:l.getD n 0=l[n]:=by simp [hlt]
   rw [this];exact hlx _ (bo8 hlt)
  cases h1:aa0 E u s (aM3 (l.getD n 0)) with
  | none=>rw [h1] at h;cases h
  | some p =>
   obtain ⟨f,u1,o1⟩:=p;obtain ⟨b,ve,v,e1,e2,e3,e4,e5,e6,e7⟩:=ax2 hE hC (d:=d) h1 hc hu hs (J8.num hx) ts (ThV.num (n:=l.getD n 0));subst e1;rw [h1] at h;cases o1 with
   | true =>
    simp only [S6,aA5] at h;obtain ⟨rfl,rfl,rfl⟩:=h;exact ⟨v,.stop (.stop e3 (cd8 _) e2),fun e=>by cases e⟩
   | false =>
    simp only at h;obtain ⟨e7,e8⟩:=e7 rfl;have tf:=e4 rfl;have hdl:J8 (u1+K - c - 1) (aE5 (l.drop (n+1))):=J8.list (fun x hx=>by have:=hlx x (List.mem_of_mem_drop hx);omega) (by simp;omega);cases h2:aa0 E u1 f (aE5 (l.drop (n+1))) with
    | none=>rw [h2] at h;cases h
    | some q =>
     obtain ⟨f2,u2,o2⟩:=q;obtain ⟨b2,ve2,v2,g1,g2,g3,g4,g5,g6,g7⟩:=ax2 hE hC (d:=d) h2 a_ e6 e8 hdl tf (ThV.list (l:=l.drop (n+1)));rw [h2] at h;rw [g1] at tf e3;cases o2 with
     | true =>
      simp only [S6,aA5] at h;obtain ⟨rfl,rfl,rfl⟩:=h;exact ⟨v2,.stop (.step e3 (cd8 _) e2 tf.wk (.stop g3 (cn3 _) g2)),fun e=>by cases e⟩
     | false =>
      simp only at h;obtain ⟨g7,g8⟩:=g7 rfl;have tf2:=g4 rfl;cases h3:aa0 E u2 f2 r with
      | none=>rw [h3] at h;cases h
      | some q =>
       obtain ⟨r1,u3,o3⟩:=q;obtain ⟨b3,ve3,v3,k1,k2,k3,k4,k5,k6,k7⟩:=ax2 hE hC (d:=d) h3 a_ g6 g8 (hr.up a_) tf2 tr;rw [h3] at h;rw [k1] at tf2 g3;cases o3 with
       | true =>
        simp only [S6,aA5] at h;obtain ⟨rfl,rfl,rfl⟩:=h;exact ⟨v3,.stop (.step e3 (cd8 _) e2 tf.wk (.step g3 (cn3 _) g2 tf2.wk (.stop k3 tr.isI k2))),fun e=>by cases e⟩
       | false =>
        simp only at h;obtain ⟨k7,k8⟩:=k7 rfl;have tr1:=k4 rfl;obtain ⟨w,m1,m2⟩:=bH9 ts h a_ k6 a_ a_ (fun x hx=>by have:=hlx x hx;omega) (hs.up a_) k8 tr1;exact ⟨w,.step (.step e3 (cd8 _) e2 tf.wk (.step g3 (cn3 _) g2 tf2.wk (.step k3 tr.isI k2 tr1.wk .nil))) tr1.isI m1,m2⟩
end
section
variable {K most:Nat} {E:Evl} (hE:EvW K most E) (hC:dm5 K most E) {d:GoAbs.Id}
include hE hC
variable {ts:List Ty} {t:Tm} {r:Res}
theorem dt6 (hm:most<=65536) (hK:K<=9000) {c u1:Nat} {k:Int} {ty s:Ty} {ve:V} {l:List Res} {vs:List V} (hT:P5 TyG k ty ts s) (hk:t.kind=k) (h:ag8 E k u1 l=some (r,u',o))
  (hu:u<most) (hu1:u1<=most) (hc:c+1<=u1) (hI:IsE ve) (hr:∀ x∈l,J8 (u1+K - c - 1) x) (hl:l.length=ts.length) (hlv:vs.length=ts.length)
  (hV:∀ (i:Nat) r v a,l[i]? = some r->vs[i]? = some v->ts[i]? = some a->ThV kt a r v)
  (hA:m_ env 288 [.ptr d 0,.sl .any (t.args.map Tm.cells),ve] d (mb (u+1) most) (.tup [.agg (cf2 vs),.bool true]) (mb u1 most)) :
  ∃ v,ag5 d most u u' o t ve v/\(o=false->ThV kt s r v):=by
 have l0:ts.length=0->l=[]/\vs=[]:=fun h=>by rw [h] at hl hlv;exact ⟨aR1.1 hl,aR1.1 hlv⟩
 have l1:ts.length=1->∃ x v,l=[x]/\vs=[v]:=fun h=>by
  rw [h] at hl hlv;obtain ⟨x,h1⟩:=bV1.1 hl;obtain ⟨v,h2⟩:=bV1.1 hlv;exact ⟨x,v,h1,h2⟩
 have l2:ts.length=2->∃ x y v w,l=[x,y]/\vs=[v,w]:=fun h=>by
  rw [h] at hl hlv;obtain ⟨x,y,h1⟩:=cq9 hl;obtain ⟨v,w,h2⟩:=cq9 hlv;exact ⟨x,y,v,w,h1,h2⟩
 have l3:ts.length=3->∃ x y z v w q,l=[x,y,z]/\vs=[v,w,q]:=fun h=>by
  rw [h] at hl hlv;obtain ⟨x,y,z,h1⟩:=cN9 hl;obtain ⟨v,w,q,h2⟩:=cN9 hlv;exact ⟨x,y,z,v,w,q,h1,h2⟩
 cases hT with
 | app =>
  obtain ⟨x,y,v,w,rfl,rfl⟩:=l2 rfl;simp only [ag8,BEq.rfl,p7] at h;have tx:=hV 0 x v _ rfl rfl rfl;have ty:=hV 1 y w _ rfl rfl rfl;obtain ⟨b,be,q,g1,g2,g3,g4,_⟩:=ax2 hE hC (d:=d) h hc hu1 (hr x b_) (hr y b_) tx ty;refine ⟨q,cX1 (c:=.L3) hu hm hI tx.isI ty.isI hA (fun ho=>(g4 ho).isI) (.inl ⟨hk,rfl,?_⟩),g4⟩;subst g1;cases o with
  | true=>exact ay0 (l:=[w]) (.stop g3 ty.isI g2) b_ (fun e=>by cases e) tx.isI
  | false=>exact ay0 (l:=[w]) (.step g3 ty.isI g2 (g4 rfl).wk .nil) b_ (fun _=>(g4 rfl).isI) tx.isI
 | zero =>
  obtain ⟨rfl,rfl⟩:=l0 rfl;simp [ag8] at h;obtain ⟨rfl,rfl,rfl⟩:=h;exact ⟨_,bt9 hu hm hI hk .c4 hA,fun _=>.num⟩
 | succ =>
  obtain ⟨x,v,rfl,rfl⟩:=l1 rfl;simp [ag8] at h;obtain ⟨rfl,rfl,rfl⟩:=h;have tx:=hV 0 x v _ rfl rfl rfl;have hn:=(hr x b_).n1;cases tx with
  | num=>exact ⟨_,bt9 hu hm hI hk (.c5 (by simp only [aM3,Res.num] at hn;omega)) hA,fun _=>.num⟩
 | V8 =>
  obtain ⟨x,y,z,v,w,q,rfl,rfl⟩:=l3 rfl;have e:ag8 E 6 u1 [x,y,z]=ay5 E y z.num 0 u1 x:=by simp [ag8]
  rw [e] at h;have tx:=hV 0 x v _ rfl rfl rfl;have ty:=hV 1 y w _ rfl rfl rfl;have tz:=hV 2 z q _ rfl rfl rfl;have hn:=(hr z b_).n1;obtain ⟨p,g1,g2⟩:=ca7 hE hC (d:=d) ty h hc hu1 a_ (hr y b_) (hr x b_) tx;refine ⟨p,cX1 hu hm hI tx.isI ty.isI hA (fun ho=>(g2 ho).isI) (.inr ⟨tz.isI,.inl ⟨hk,?_⟩⟩),g2⟩;cases tz with
  | num =>
   simp only [aM3,Res.num] at g1 hn;exact dJ5 g1 tx.isI ty.isI a_
 | nil =>
  obtain ⟨rfl,rfl⟩:=l0 rfl;simp [ag8] at h;obtain ⟨rfl,rfl,rfl⟩:=h;exact ⟨_,bt9 hu hm hI hk .c7 hA,fun _=>.list (l:=[])⟩
 | cons =>
  obtain ⟨x,y,v,w,rfl,rfl⟩:=l2 rfl;simp [ag8] at h;obtain ⟨rfl,rfl,rfl⟩:=h;have tx:=hV 0 x v _ rfl rfl rfl;have ty:=hV 1 y w _ rfl rfl rfl;cases tx with
  | num =>
   cases ty with
   | list=>exact ⟨_,dT0 (w:=.L3) (a:=.L3) (b:=.L3) (c:=.L3) hu hm hk hI hA,fun _=>.list⟩
 | fold =>
  obtain ⟨x,y,z,v,w,q,rfl,rfl⟩:=l3 rfl;have e:ag8 E 9 u1 [x,y,z]=aj1 E y z.list z.list.length u1 x:=by simp [ag8]
  rw [e] at h;have tx:=hV 0 x v _ rfl rfl rfl;have ty:=hV 1 y w _ rfl rfl rfl;have tz:=hV 2 z q _ rfl rfl rfl;have hz:=hr z b_;have hn:=hz.ll;obtain ⟨p,g1,g2⟩:=bH9 hE hC (d:=d) ty h hc hu1 (w7 _) hn hz.ls (hr y b_) (hr x b_) tx;refine ⟨p,cX1 hu hm hI tx.isI ty.isI hA (fun ho=>(g2 ho).isI) (.inr ⟨tz.isI,.inr ⟨hk,?_⟩⟩),g2⟩;cases tz with
  | list =>
   simp only [aE5,Res.list] at g1 hn;exact dr3 g1 tx.isI ty.isI a_
 | pair hq =>
  obtain ⟨x,y,v,w,rfl,rfl⟩:=l2 rfl;simp [ag8] at h;obtain ⟨rfl,rfl,rfl⟩:=h;have tx:=hV 0 x v _ rfl rfl rfl;have ty:=hV 1 y w _ rfl rfl rfl;exact ⟨_,bt9 hu hm hI hk (.c10 tx.isI ty.isI) hA,fun _=>.pair tx ty⟩
 | fst =>
  obtain ⟨x,v,rfl,rfl⟩:=l1 rfl;have tx:=hV 0 x v _ rfl rfl rfl;cases tx with
  | pair t1 t2 =>
   simp [ag8,aV6,Res.pair] at h;obtain ⟨rfl,rfl,rfl⟩:=h;exact ⟨_,bt9 hu hm hI hk (.c11 t1.isI t2.isI) hA,fun _=>t1⟩
 | snd =>
  obtain ⟨x,v,rfl,rfl⟩:=l1 rfl;have tx:=hV 0 x v _ rfl rfl rfl;cases tx with
  | pair t1 t2 =>
   simp [ag8,aV6,Res.pair] at h;obtain ⟨rfl,rfl,rfl⟩:=h;exact ⟨_,bt9 hu hm hI hk (.c12 t1.isI t2.isI) hA,fun _=>t2⟩
 | unit =>
  obtain ⟨rfl,rfl⟩:=l0 rfl;simp [ag8] at h;obtain ⟨rfl,rfl,rfl⟩:=h;exact ⟨_,bt9 hu hm hI hk .c13 hA,fun _=>.unit⟩
theorem cL2 (hm:most<=65536) (hK:K<=9000):dm5 K most (ay6 most E):=by
 intro d c u t e ve G s r u' o h hc hu ht hel he hty hve;unfold ay6 at h;split at h
 ·simp only [S6,aA5] at h
  obtain ⟨rfl,rfl,rfl⟩:=h;rename_i hum;subst hum;exact ⟨.L3,dq9,fun e=>by cases e⟩
 rename_i hne;have hlt:u<most:=by omega
 have node:∀ {k:Int} {ty:Ty} {l:List Tm} {ts:List Ty},t=tmT k ty l->P5 TyG k ty ts s->l.length=ts.length->l.length<=3->(∀ (i:Nat) x a,l[i]? = some x->ts[i]? = some a->l7 TyG G x a)->(k==1)=false->(k==2)=false ->
   ∃ v,ag5 d most u u' o t ve v/\(o=false->ThV kt s r v):=by
  intro k ty l ts et hT hl h3 hx k1 k2;have hk:t.kind=k:=by rw [et];rfl
  have ha:t.args=l:=by rw [et];rfl
  have htl:∀ x∈l,TmW x:=fun x hx=>ht.arg (by rw [ha];exact hx);rw [hk,ha] at h;simp only [k1,k2,B2,r6] at h;cases h1:Y6 E e (u+1) l with
  | none=>rw [h1] at h;cases h
  | some p =>
   obtain ⟨l',u1,o1⟩:=p;obtain ⟨a1,a2,a3⟩:=ca4 (c:=c+1) hE h1 a_ a_ htl a_ (fun x hx=>(he x hx).up a_);obtain ⟨vs,q1,q2,q3,q4,q5⟩:=bH8 hE hC (d:=d) hve (c:=c+1) h1 a_ a_ htl a_ (fun x hx=>(he x hx).up a_) hl hx;have hA:=dI9 q1 h3 hve.isE;rw [h1] at h;rw [<- ha] at hA;cases o1 with
   | true =>
    simp only [S6,aA5] at h;obtain ⟨rfl,rfl,rfl⟩:=h;exact ⟨.L3,cX0 hlt hm (by rw [hk];exact k1) (by rw [hk];exact k2) hve.isE (by have:=q3 rfl;omega) q4 hA,fun e=>by cases e⟩
   | false =>
    simp only at h;obtain ⟨p1,p2,p3⟩:=q5 rfl;obtain ⟨a3,a4,a5⟩:=a3 rfl;exact dt6 hE hC hm hK (c:=c) hT hk h hlt a2 a_ hve.isE (fun x hx=>(a5 x hx).up a_) a_ a_ p3 hA
 have nk:∀ {k:Int} {ty:Ty} {ts:List Ty},P5 TyG k ty ts s->(k==1)=false/\(k==2)=false:=by
  intro k ty ts h;cases h<;>exact ⟨rfl,rfl⟩
 cases hty with
 | @var _ i _ hi hg =>
  clear node nk;have hlen:=hve.len;have e1:((e.length:Int) - 1 - (i:Int)).toNat=e.length - 1 - i:=by omega
  have h0:0<=(e.length:Int) - 1 - (i:Int):=by omega
  simp only [a9,Tm.kind,Tm.index,BEq.rfl,p7,B8 h0,e1] at h;obtain ⟨v,a,r1,g1,g2,g3,g4,g5⟩:=hve.get i a_;rw [g2] at h;simp only [bo9,S6,aA5] at h;obtain ⟨rfl,rfl,rfl⟩:=h;rw [hlen] at g3;rw [g3] at hg;cases hg;exact ⟨v,dr0 hlt hm rfl rfl g4.isI (dq7 i a_ g1 g4.wk (fun S=>g4.ins)) hve.isE,fun _=>g4⟩
 | @lam _ a b b0 hq hb =>
  clear node nk;simp only [tmT,Tm.kind,Tm.args] at h;simp at h;obtain ⟨rfl,rfl,rfl⟩:=h;exact ⟨_,dq8 hlt hm rfl rfl hve.isE,fun _=>.clo hve hb⟩
 | n0 hT=>exact node rfl hT rfl b_ b_ (nk hT).1 (nk hT).2
 | n1 hT h1 =>
  refine node rfl hT rfl b_ (fun i x a hx ha=>?_) (nk hT).1 (nk hT).2
  match i with
  | 0=>simp at hx ha;subst hx;subst ha;exact h1
  | i+1=>simp at hx
 | n2 hT h1 h2 =>
  refine node rfl hT rfl b_ (fun i x a hx ha=>?_) (nk hT).1 (nk hT).2
  match i with
  | 0=>simp at hx ha;subst hx;subst ha;exact h1
  | 1=>simp at hx ha;subst hx;subst ha;exact h2
  | i+2=>simp at hx
 | n3 hT h1 h2 h3 =>
  refine node rfl hT rfl b_ (fun i x a hx ha=>?_) (nk hT).1 (nk hT).2
  match i with
  | 0=>simp at hx ha;subst hx;subst ha;exact h1
  | 1=>simp at hx ha;subst hx;subst ha;exact h2
  | 2=>simp at hx ha;subst hx;subst ha;exact h3
  | i+3=>simp at hx
end
theorem dD5 {K most:Nat} (hm:most<=65536) (hK:K<=9000):∀ f,dm5 K most (ev most f)
 | 0=>fun d c u t e ve G s r u' o h=>by simp [ev] at h
 | f+1=>by rw [bq3];exact cL2 (dK8 a_ f) (dD5 hm hK f) hm hK
def bi1 (n:Nat):List V:=[.int .i64 1,.int .i64 n,.sl .any [],.sl .any []]
def cC5:List V:=[.int .i64 0,.int .i64 0,.sl .any [],.sl .any []]
theorem cm4 (n:Nat):c_ env 284 [an7 n] (.agg (bi1 n)):=by
 intro h;unfold an7 bi1;exact d_ Tryz.func284 [.cell 2 55]
variable {f:Nat} {t:Tm} {r:Res}
theorem dK9 (hm:most<=65536) (h:ev most f 0 t []=some (r,u',o)) (ht:TmW t) (hty:l7 TyG [] t c8) (d:GoAbs.Id) :
  ag5 d most 0 u' o t .U3 (an7 r.num)/\(o=false->r=aM3 r.num):=by
 obtain ⟨v,h1,h2⟩:=dD5 (K:=0) hm a_ f d 0 0 t [] .U3 [] c8 r u' o h (w7 _) a_ ht b_ b_ hty .nil;cases o with
 | true=>exact ⟨h1,fun e=>by cases e⟩
 | false =>
  have:=h2 rfl;cases this with
  | num=>exact ⟨h1,fun _=>rfl⟩
def bg3 (x:Nat × Nat × Bool):V:=if x.2.2 then .tup [.agg cC5,.int .i64 0,.int .i64 5] else .tup [.agg (bi1 x.1),.int .i64 x.2.1,.int .i64 0]
theorem cm0 (hm:most<=65536) (hev:ev most f 0 t []=some (r,u',o)) (ht:TmW t) (hty:l7 TyG [] t c8) (he:ag1 t=0) (hb:a8 t<=1000000) :
  c_ env 278 [.agg t.cells,.sl .any [],.int .i64 most] (bg3 (r.num,u',o)):=by
 intro h;have h1:=bE0 t c8 hty ht he hb;have h2:=dI2;have hT:=fun d=>(dK9 hm hev ht hty d).1;have h4:=cm4 r.num;have h3:∀ (d:GoAbs.Id) (v:V),IsI v->m_ env 283 [.ptr d 0,v,.sl .any []] d (mb u' most) (evR false v) (mb u' most):=fun d v hv=>ay0 (l:=[]) .nil b_ (fun _=>hv) hv;have h5:∀ d,m_ env 283 [.ptr d 0,an7 r.num,.sl .any []] d (mb u' most) (evR false (an7 r.num)) (mb u' most):=fun d=>h3 d _ (cd8 _);have ec:c8.cells=[.int .i64 1,.sl .any []]:=by rw [R8];rfl
 rw [ec] at h1 h2;have d1:decide ((most:Int)<0)=false:=by simp
 have d2:decide ((most:Int)>65536)=false:=by simp;omega
 have n0:((0:Int) != 0)=false:=rfl;clear hm hev ht hty he hb h3 ec;unfold ag5 at hT;unfold bg3;unfold evR mb at *;unfold ak9 at *;simp only [show ((0:Nat):Int)=0 from rfl] at hT;simp only [B2,r6,M9] at h5;cases o with
 | true =>
  simp only [p7,E7] at hT ⊢;unfold cC5 an7 at *;refine g_ Tryz.func278 [.cell 6 55,.tmp 7,.tmp 8] fun g0 w0 gen g9 hfr e9 n8=>?_;refine e_ ?_;refine k_ [2,3,6,9,30] [⟨gen,0,0⟩,⟨gen,0,1⟩] (fun i σ=>σ.h ⟨gen,1,5⟩=some (.box [.int .i64 1,.sl .any []])/\σ.tm 11=.sl .full []) (([]:List Int)) ?_ ?_ ?_
  ·simp only [go_sem, *]
   exact f_
  ·
   intro i x σ gr0 o5 hgf l6 l9 m6 hx hxm hm hlt jI jN jT jA ⟨jb,jt⟩;exact absurd hlt b_
  ·
   intro σ ga0 q9 hgf l6 l8 m5 jT jA ⟨jb,jt⟩
   repeat' (first
    |(refine ⟨?_,?_⟩;focus ((repeat' (first|refine ⟨?_,?_⟩|refine .inr ?_));all_goals kernel_rfl))
    |exact hin _|exact agf l_
    | (first|refine wp rfl ?_|refine spt rfl ?_|refine spf rfl ?_|(refine spl (fun hc=>?_) fun hc=>?_)<;>(try rw [L1] at hc)<;>try simp only [hc]|(refine gs (fun hb=>?_) fun hb=>?_)<;>try simp only [E7,M9] at hb|refine cp h2 ?_|(refine ct (hT _) ?_ ?_;focus ((simp only [go_sem, *]<;>rfl);done))|refine Y7 g9 ?_ ?_ ?_)<;>try simp only [go_sem, *])
 | false =>
  simp only [B2,r6,M9] at hT ⊢;unfold bi1 an7 at *;refine g_ Tryz.func278 [.cell 6 55,.tmp 7,.tmp 8] fun g0 w0 gen g9 hfr e9 n8=>?_;refine e_ ?_;refine k_ [2,3,6,9,30] [⟨gen,0,0⟩,⟨gen,0,1⟩] (fun i σ=>σ.h ⟨gen,1,5⟩=some (.box [.int .i64 1,.sl .any []])/\σ.tm 11=.sl .full []) (([]:List Int)) ?_ ?_ ?_
  ·simp only [go_sem, *]
   exact f_
  ·
   intro i x σ gr0 o5 hgf l6 l9 m6 hx hxm hm hlt jI jN jT jA ⟨jb,jt⟩;exact absurd hlt b_
  ·
   intro σ ga0 q9 hgf l6 l8 m5 jT jA ⟨jb,jt⟩
   repeat' (first
    |(refine ⟨?_,?_⟩;focus ((repeat' (first|refine ⟨?_,?_⟩|refine .inr ?_));all_goals kernel_rfl))
    |exact hin _|exact agf l_
    | (first|refine wp rfl ?_|refine spt rfl ?_|refine spf rfl ?_|(refine spl (fun hc=>?_) fun hc=>?_)<;>(try rw [L1] at hc)<;>try simp only [hc]|(refine gs (fun hb=>?_) fun hb=>?_)<;>try simp only [E7,M9] at hb|refine cp h2 ?_|(refine ct (hT _) ?_ ?_;focus ((simp only [go_sem, *]<;>rfl);done))|(refine ct (h5 _) ?_ ?_;focus ((simp only [go_sem, *]<;>rfl);done))|refine cp h4 ?_|refine Y7 g9 ?_ ?_ ?_)<;>try simp only [go_sem, *])
theorem cm1 (hm:most<=65536) (hev:ev most f 0 t []=some (r,u',o)) (ht:TmW t) (hty:l7 TyG [] t c8) (he:ag1 t=0) (hb:a8 t<=1000000) :
  c_ env 277 [.agg t.cells,.int .i64 most] (bg3 (r.num,u',o)):=by
 intro h;have h1:=cm0 hm hev ht hty he hb;clear hm hev ht hty he hb;unfold bg3 bi1 cC5 at *;cases o with
 | true =>
  simp only [p7] at h1 ⊢;exact d_ Tryz.func277 [.cell 4 55,.tmp 5,.tmp 6]
 | false =>
  simp only [B2,r6] at h1 ⊢;exact d_ Tryz.func277 [.cell 4 55,.tmp 5,.tmp 6]
def eb (w lim:Nat) (e:Int):GoAbs.Obj:=.box [.int .i64 w,.int .i64 lim,.int .i64 e]
theorem bp8 (d:GoAbs.Id) (w lim:Nat) (e:Int):m_ env 274 [.ptr d 0,.int .i64 e] d (eb w lim 0) (.bool false) (eb w lim e):=by
 intro h hd;unfold eb at *;exact n_ Tryz.func274 [.tmp 4]
def bF9 (m:Nat) (t:Tm) (x:Nat × Nat × Bool):Prop:=c_ env 277 [.agg t.cells,.int .i64 m] (bg3 x)
theorem bf1 (d:GoAbs.Id) (w lim:Nat) (t:Tm) (x:Nat × Nat × Bool) (hw:w<=lim) (hl:lim<=65536) (hx:x.2.1<=65536) (hn:bF9 (lim - w) t x) :
  m_ env 276 [.ptr d 0,.agg t.cells] d (eb w lim 0) (.tup [.int .i64 (if x.2.2 then 0 else (x.1:Int)),.bool (!x.2.2)]) (if x.2.2 then eb w lim 5 else eb (w+x.2.1) lim 0):=by
 intro h hd;obtain ⟨n,u,o⟩:=x;unfold bF9 bg3 at hn;simp only at hn hx ⊢;have w1:IntKind.i64.wrap ((lim:Int) - (w:Int))=((lim - w:Nat):Int):=x7 a_ a_ a_;have w2:IntKind.i64.wrap ((w:Int)+(u:Int))=((w+u:Nat):Int):=x7 a_ a_ a_;have hf:=bp8 d w lim 5;have n0:((0:Int) != 0)=false:=rfl;have n5:((5:Int) != 0)=true:=rfl;unfold eb at *;clear hw hl hx;generalize lim - w=q at *;generalize w+u=w' at *;unfold bi1 cC5 at hn;cases o with
 | true =>
  simp only [p7,E7] at hn ⊢;exact n_ Tryz.func276 [.tmp 4,.tmp 5]
 | false =>
  simp only [B2,r6,M9] at hn ⊢;exact n_ Tryz.func276 [.tmp 4,.tmp 5]
def TrT (d:GoAbs.Id) (lim:Nat) (f:Fm) (w:Nat) (b:Bool) (w':Nat) (e:Int):Prop :=
 ∃ T u k, c_ env 114 [.agg f.cells] (.iface T u) ∧ J5 u = u ∧ cO2 Tryz.prog T "proofprograms/decide.truth" = some k ∧ m_ env k [u, .ptr d 0] d (eb w lim 0) (.bool b) (eb w' lim e)
theorem dJ3 (x y:Tm):c_ env 114 [.agg (u6 x y).cells] (.iface 210 (.agg (x.cells++y.cells))):=by
 intro h;have e1:(u6 x y).kind=1:=rfl;have e2:(u6 x y).a7=[x,y]:=rfl;have hx:=Tm.l4 x;have hy:=Tm.l4 y;generalize u6 x y=f at *;exact d_ Tryz.func114 [.tmp 2]
theorem cz2 (k:Int) (hk:k=2\/k=3) (x y:Fm):c_ env 114 [.agg (o8 k x y).cells] (.iface (if k=2 then 212 else 214) (.agg (x.cells++y.cells))):=by
 intro h;have e1:(o8 k x y).kind=k:=rfl;have e2:(o8 k x y).args=[x,y]:=rfl;have hx:=Fm.l4 x;have hy:=Fm.l4 y;generalize o8 k x y=f at *;rcases hk with rfl|rfl
 ·simp only [p7]
  exact d_ Tryz.func114 [.tmp 2]
 ·have n2:((3:Int)=2)=False:=by simp
  simp only [n2,r6];exact d_ Tryz.func114 [.tmp 2]
theorem dr8 (all:Bool) (q:Tm) (wq:TmW q) (hc:q.count 0=0) (a:Fm) (ha:FmW a) (hb:FmW (ac5 all q a)) (he:Q0 (ac5 all q a)=0) :
  c_ env 114 [.agg (ac5 all q a).cells] (.iface 218 (.agg (.bool all::((ac0 q 0 I4).cells++a.cells)))):=by
 intro h;have e1:(ac5 all q a).kind=if all then 4 else 5:=rfl
 have h1:=bY5 all q wq hc a ha hb he;have hx:=Tm.l4 (ac0 q 0 I4);have hy:=Fm.l4 a;clear wq hc hb he;generalize ac5 all q a=f at *;generalize ac0 q 0 I4=t at *;cases all
 all_goals
  simp only [B2,r6,p7] at e1;exact d_ Tryz.func114 [.tmp 2]
open Go.RowKit Go.Shelf
theorem cr8 (l pb po cap:Nat) (k:Int) (a:Option Addr) (K:Nat->World->Prop) (Kx:World->Prop)
  (hal:∀ i W o,K i W->K i (W.alloc o)) (hdr:∀ i W,K i W->K i W.drew)
  (hr:∀ i W,K i W->W.cell? ⟨pb,po,none⟩=some (.int .i64 k)/\W.cell? ⟨pb,po+1,none⟩=some (.slice a 0 cap))
  (hY:∀ W,K 1 W->YieldAt Fence.wide (0 - 1) Tryz.prog l #[.agg #[.int .i64 k,.slice a 0 cap]] W fun e W'=>(e=.returned (.bool true)/\K 0 W')\/(e=.returned (.bool false)/\Kx W'))
  (W:World) (h0:K 1 W) :
  CallsIn Fence.wide 0 Tryz.prog 156 #[.func (.yield l) #[] #[],.pointer (some ⟨pb,po,none⟩)] W fun e W'=>(∃ v,e=.returned v)/\(K 0 W'\/Kx W'):=by
 refine aG7 Tryz.func156 rfl trivial ?_ rfl;simp only [Tryz.ntmps156,aG4,J1,S0,Nat.reduceAdd,Nat.reduceSub,aG1,aG0,aG5,aG3,Q3,R9];obtain ⟨c0,c1⟩:=hr _ _ h0
 gi_wp2
 gi_loopw [3] (fun s wr=>(s=.slice (some ⟨W.heap.size,0,none⟩) 1 1/\K 1 wr/\wr.cell? ⟨W.heap.size,0,none⟩=some (.int .i64 k)/\wr.cell? ⟨W.heap.size,1,none⟩=some (.slice a 0 cap)) \/
  (s=.slice (some ⟨W.heap.size,0,none⟩) 0 1/\K 0 wr)) (fun s _=>match s with | .slice _ n _=>n|_=>0)
 case atStart=>exact .inl ⟨rfl,hal _ _ _ h0,by simp [aW2],by simp [aW2]⟩
 case round =>
  rcases hrel with ⟨rfl,hJs,d0,d1⟩|⟨rfl,hJs⟩
  ·cases a with
   | none =>
    gi_wp2
    gi_region
    obtain ⟨fn,tmps,assign,body,hy,hR⟩:=hY _ (hdr _ _ (hal _ wr (.cells #[.int .i64 k,.slice none 0 cap] 29) hJs))
    gi_wp2
    refine ⟨rfl,hR.mono ?_⟩;rintro e W3 (⟨rfl,hJ3⟩|⟨rfl,hJx3⟩)
    ·gi_wp2
     go_roundw
     case rel=>exact .inr ⟨rfl,hJ3⟩
     case measure=>simp
    ·gi_wp2
     refine aW5 (aL9 rfl _ _ _) rfl ?_;exact ⟨⟨_,rfl⟩,.inr hJx3⟩
   | some ad =>
    gi_wp2
    gi_region
    obtain ⟨fn,tmps,assign,body,hy,hR⟩:=hY _ (hdr _ _ (hal _ wr (.cells #[.int .i64 k,.slice (some ad) 0 cap] 29) hJs))
    gi_wp2
    refine ⟨rfl,hR.mono ?_⟩;rintro e W3 (⟨rfl,hJ3⟩|⟨rfl,hJx3⟩)
    ·gi_wp2
     go_roundw
     case rel=>exact .inr ⟨rfl,hJ3⟩
     case measure=>simp
    ·gi_wp2
     refine aW5 (aL9 rfl _ _ _) rfl ?_;exact ⟨⟨_,rfl⟩,.inr hJx3⟩
  ·gi_wp2
   go_end0
   exact ⟨⟨_,rfl⟩,.inl hJs⟩
theorem aT2 (k:Int):Iter Tryz.prog env (.fn (.func 156) [] [.el [.int .i64 k,.sl .any []] 0]) [[.agg [.int .i64 k,.sl .any []]]]:=by
 refine bl9 ⟨_,Tryz.func156,rfl,by kernel_rfl⟩ fun g w x hx=>?_;cases hx with
 | el b off cs o cell hl F5 hr =>
  have hz:=F5 0 b_;have hz1:=F5 1 b_;have hrz:=hr 0 _ rfl;have bS0:=hr 1 _ rfl;generalize cell 0=c0 at hz hrz;generalize cell 1=c1 at hz1 bS0;cases hrz;cases bS0 with
  | sl ao cap _ _ kk bl0 hk aa3 cB1 hr2 hc =>
   simp only [S0] at hz1;simp only [J1,S0] at hl;refine ⟨fun _=>.agg #[.int .i64 k,.slice ao 0 cap],[],fun i v hv=>?_,?_⟩
   ·match i with
    | 0 =>
     simp at hv;subst hv;refine ⟨_,rfl,.agg _ _ rfl fun j x v hx hv=>?_⟩
     match j with
     | 0=>simp at hx hv;subst hx;subst hv;exact .int _ _
     | 1=>simp at hx hv;subst hx;subst hv;exact .sl ao cap .any [] 0 (fun _=>undef) b_ b_ b_ b_ trivial
     | j+2=>simp at hx
    | i+1=>simp at hv
   ·intro l K Kx hal hdr bb6 ac8 cd1 hY W h0
    refine (cr8 l b (off+0) cap k ao (fun i W=>K (1 - i) none W) Kx (fun i W o h=>hal _ _ _ _ h) (fun i W h=>hdr _ _ _ h) (fun i W hK=>⟨(ac8 _ _ _ hK b (off+0) a_).trans hz,(ac8 _ _ _ hK b (off+0+1) a_).trans hz1⟩) (fun W hK=>hY 0 none W b_ hK) W h0).mono ?_;rintro e W' ⟨hv,h|h⟩
    ·exact ⟨hv,.inl ⟨none,h⟩⟩
    ·exact ⟨hv,.inr h⟩
theorem bc0 (k ka kb:Int):Iter Tryz.prog env (.fn (.func 156) [] [.el [.int .i64 k,.sl .any [[.int .i64 ka,.sl .any []],[.int .i64 kb,.sl .any []]]] 0])
  [[.agg [.int .i64 k,.sl .any [[.int .i64 ka,.sl .any []],[.int .i64 kb,.sl .any []]]]],[.agg [.int .i64 kb,.sl .any []]],[.agg [.int .i64 ka,.sl .any []]]]:=by
 refine bl9 ⟨_,Tryz.func156,rfl,by kernel_rfl⟩ fun g w x hx=>?_;cases hx with
 | el b off cs o cell hl F5 hr =>
  have hz:=F5 0 b_;have hz1:=F5 1 b_;have hrz:=hr 0 _ rfl;have bS0:=hr 1 _ rfl;generalize cell 0=c0 at hz hrz;generalize cell 1=c1 at hz1 bS0;cases hrz;have hsl:=bS0;cases bS0 with
  | sl ao cap _ _ kk bl0 hk aa3 cB1 hr2 hc =>
   have hkk:kk=2:=(hk [.int .i64 ka,.sl .any []] b_).symm;subst hkk;obtain ⟨ab,ao',rfl,hl2,cd5⟩:=cB1 b_;simp only [J1,S0] at hz1 hl hl2 cd5 hsl;have q0:=cd5 0 a_;have q1:=cd5 1 a_;have q2:=cd5 2 a_;have q3:=cd5 3 a_;have r0:=hr2 0 _ rfl;have r1:=hr2 1 _ rfl;have r2:=hr2 2 _ rfl;have r3:=hr2 3 _ rfl;generalize bl0 0=d0 at q0 r0;generalize bl0 1=d1 at q1 r1;generalize bl0 2=d2 at q2 r2;generalize bl0 3=d3 at q3 r3;cases r0;cases r2;have s1:=r1;have s3:=r3;cases r1 with
   | sl a1 ca _ _ k1 e1 hk1 ei9 ej5 hr1 hc1 =>
   cases r3 with
   | sl a3 cb _ _ k3 e3 hk3 ej1 ef5 hr3 hc3 =>
   simp only [S0] at q1 q3 s1 s3;refine ⟨fun i=>match i with | 0=>.agg #[.int .i64 k,.slice (some ⟨ab,ao',none⟩) 2 cap] | 1=>.agg #[.int .i64 kb,.slice a3 0 cb]|_=>.agg #[.int .i64 ka,.slice a1 0 ca],[.int .i64 ka,.slice a1 0 ca,.int .i64 kb,.slice a3 0 cb],fun i v hv=>?_,?_⟩
   ·have two:∀ {x:Value} {y:V} {n:Int},RV g w x y->RV g w (.agg #[.int .i64 n,x]) (.agg [.int .i64 n,y]):=fun {x y n} h=>by
     refine .agg _ _ rfl fun j x' v' hx hv=>?_
     match j with
     | 0=>simp at hx hv;subst hx;subst hv;exact .int _ _
     | 1=>simp at hx hv;subst hx;subst hv;exact h
     | j+2=>simp at hx
    match i with
    | 0=>simp at hv;subst hv;exact ⟨_,rfl,two hsl⟩
    | 1=>simp at hv;subst hv;exact ⟨_,rfl,two s3⟩
    | 2=>simp at hv;subst hv;exact ⟨_,rfl,two s1⟩
    | i+3=>simp at hv
   ·intro l K Kx hal hdr bb6 ac8 cd1 hY W h0
    have hh:=cr9 l b (off+0) ab (ao'+0) cap ca cb k ka kb a1 a3 K Kx hal hdr (fun i W arr ty hK e0 e1 e2 e3=>bb6 i W arr ty hK (fun j u hu=>by
      match j with
      | 0=>simp at hu;subst hu;exact e0
      | 1=>simp at hu;subst hu;exact e1
      | 2=>simp at hu;subst hu;exact e2
      | 3=>simp at hu;subst hu;exact e3
      | j+4=>simp at hu))
     (fun i p W hK=>⟨(ac8 _ _ _ hK b (off+0) a_).trans hz,(ac8 _ _ _ hK b (off+0+1) a_).trans hz1,(ac8 _ _ _ hK ab (ao'+0) a_).trans q0,(ac8 _ _ _ hK ab (ao'+0+1) a_).trans q1,
      (ac8 _ _ _ hK ab (ao'+0+2) a_).trans q2,(ac8 _ _ _ hK ab (ao'+0+3) a_).trans q3⟩)
     (fun i g' W hK=>⟨cd1 _ _ _ hK 0 _ rfl,cd1 _ _ _ hK 1 _ rfl,cd1 _ _ _ hK 2 _ rfl,cd1 _ _ _ hK 3 _ rfl⟩)
     (fun i p W x hK hi=>by
      rcases hi with ⟨rfl,rfl⟩|⟨rfl,rfl⟩|⟨rfl,rfl⟩
      ·exact hY 0 p W b_ hK
      ·exact hY 1 p W b_ hK
      ·exact hY 2 p W b_ hK) W h0
    exact hh
def eqR (w:Nat) (px py:Nat × Nat × Bool):Bool × Nat × Int:=if px.2.2 then (false,w,5) else if py.2.2 then (false,w+px.2.1,5) else (px.1==py.1,w+px.2.1+py.2.1,0)
theorem dJ7 (d:GoAbs.Id) (lim w:Nat) (x y:Tm) (px py:Nat × Nat × Bool) (hl:lim<=65536) (hw:w<=lim) (hx:bF9 (lim - w) x px) (bx:px.2.1<=lim - w)
  (hy:px.2.2=false->bF9 (lim - (w+px.2.1)) y py/\py.2.1<=65536):TrT d lim (u6 x y) w (eqR w px py).1 (eqR w px py).2.1 (eqR w px py).2.2:=by
 refine ⟨_,_,275,dJ3 x y,by rw [J5,az8];simp [aQ5],by kernel_rfl,?_⟩;have hA:=bf1 d w lim x px hw hl a_ hx;have hB:px.2.2=false->_:=fun h=>bf1 d (w+px.2.1) lim y py a_ hl (hy h).2 (hy h).1;clear hx hy;obtain ⟨n1,u1,o1⟩:=px;obtain ⟨n2,u2,o2⟩:=py;have cx:=Tm.l4 x;have cy:=Tm.l4 y;unfold eqR;cases o1 with
 | true =>
  simp only [p7,E7] at hA ⊢;clear hB;rw [cx] at hA;rw [cx,cy];intro h hd;unfold eb at *;clear bx hw hl;exact n_ Tryz.func275 [.tmp 4]
 | false =>
  replace hB:=hB rfl;simp only [B2,r6,M9] at hA hB ⊢;have hq:((n1:Int)==(n2:Int))=(n1==n2):=by
   by_cases h:n1=n2
   ·subst h;simp
   ·rw [beq_eq_false_iff_ne.2 h,beq_eq_false_iff_ne.2 a_]
  clear bx hw hl;generalize w+u1=w1 at *;rw [cx] at hA;rw [cx,cy];cases o2 with
  | true =>
   simp only [p7,E7] at hB ⊢;rw [cy] at hB;intro h hd;unfold eb at *;exact n_ Tryz.func275 [.tmp 4]
  | false =>
   simp only [B2,r6,M9] at hB ⊢;generalize w1+u2=w2 at *;rw [cy] at hB;intro h hd;unfold eb at *;exact n_ Tryz.func275 [.tmp 4]
theorem ds4 (d:GoAbs.Id) (lim w:Nat) (x y:Fm) (a b:Bool × Nat × Int) (hx:TrT d lim x w a.1 a.2.1 a.2.2) (he:a.1=true->a.2.2=0) (hy:a.1=true->TrT d lim y a.2.1 b.1 b.2.1 b.2.2) :
  TrT d lim (o8 2 x y) w (if a.1 then b else a).1 (if a.1 then b else a).2.1 (if a.1 then b else a).2.2:=by
 refine ⟨_,_,293,cz2 2 (.inl rfl) x y,by rw [J5,az8];simp [aQ4],by kernel_rfl,?_⟩;obtain ⟨a1,wa,ea⟩:=a;obtain ⟨b1,wb,eb'⟩:=b;obtain ⟨T1,u1,k1,p1,q1,m1,t1⟩:=hx;have cx:=Fm.l4 x;have cy:=Fm.l4 y;cases a1 with
 | true =>
  obtain ⟨T2,u2,k2,p2,q2,m2,t2⟩:=hy rfl;obtain rfl:ea=0:=he rfl;clear hy he;simp only [p7] at *;rw [cx] at p1;rw [cy] at p2;rw [cx,cy];intro h hd;unfold eb at *;refine g_ Tryz.func293 [.tmp 4] fun g0 w0 gen g9 hfr e9 n8=>?_;have f1:=n9 hfr hd;have f2:=p6 hfr hd
  repeat' (first
   |exact agb l_
   | (first|refine wp rfl ?_|(refine gs (fun hb=>?_) fun hb=>?_)<;>try simp only [E7,M9] at hb|refine cp p1 ?_|refine cp p2 ?_|refine Y9 (m1) ?_|refine Y9 (m2) ?_|(refine ct (t1) ?_ ?_;focus ((simp only [go_sem, *]<;>rfl);done))|(refine ct (t2) ?_ ?_;focus ((simp only [go_sem, *]<;>rfl);done))|refine aX7 g9 hd ?_ ?_ ?_ ?_ ?_)<;>try simp only [go_sem, *])
 | false =>
  clear hy he;simp only [B2,r6] at *;rw [cx] at p1;rw [cx,cy];intro h hd;unfold eb at *;refine g_ Tryz.func293 [.tmp 4] fun g0 w0 gen g9 hfr e9 n8=>?_;have f1:=n9 hfr hd;have f2:=p6 hfr hd
  repeat' (first
   |exact agb l_
   | (first|refine wp rfl ?_|(refine gs (fun hb=>?_) fun hb=>?_)<;>try simp only [E7,M9] at hb|refine cp p1 ?_|refine Y9 (m1) ?_|(refine ct (t1) ?_ ?_;focus ((simp only [go_sem, *]<;>rfl);done))|refine aX7 g9 hd ?_ ?_ ?_ ?_ ?_)<;>try simp only [go_sem, *])
def dv9 (a b:Bool × Nat × Int):Bool × Nat × Int:=if a.2.2 != 0||!a.1 then (a.2.2==0,a.2.1,a.2.2) else b
theorem ds5 (d:GoAbs.Id) (lim w:Nat) (x y:Fm) (a b:Bool × Nat × Int) (hx:TrT d lim x w a.1 a.2.1 a.2.2) (hy:a.2.2=0->a.1=true->TrT d lim y a.2.1 b.1 b.2.1 b.2.2) :
  TrT d lim (o8 3 x y) w (dv9 a b).1 (dv9 a b).2.1 (dv9 a b).2.2:=by
 refine ⟨_,_,294,cz2 3 (.inr rfl) x y,by rw [J5,az8];simp [aQ4],by kernel_rfl,?_⟩;obtain ⟨a1,wa,ea⟩:=a;obtain ⟨b1,wb,eb'⟩:=b;obtain ⟨T1,u1,k1,p1,q1,m1,t1⟩:=hx;have cx:=Fm.l4 x;have cy:=Fm.l4 y;unfold dv9;simp only at *;cases h0:(ea != 0) with
 | true =>
  have h1:(ea==0)=false:=by simpa using h0
  clear hy;simp only [aM0,p7,h1];rw [cx] at p1;rw [cx,cy];intro h hd;unfold eb at *;refine g_ Tryz.func294 [.tmp 4] fun g0 w0 gen g9 hfr e9 n8=>?_;have f1:=n9 hfr hd;have f2:=p6 hfr hd
  repeat' (first
   |exact agb l_
   | (first|refine wp rfl ?_|refine spt rfl ?_|refine spf rfl ?_|(refine spl (fun hc=>?_) fun hc=>?_)<;>(try rw [L1] at hc)<;>try simp only [hc]|(refine gs (fun hb=>?_) fun hb=>?_)<;>try simp only [E7,M9] at hb|refine cp p1 ?_|refine Y9 (m1) ?_|(refine ct (t1) ?_ ?_;focus ((simp only [go_sem, *]<;>rfl);done))|refine aX7 g9 hd ?_ ?_ ?_ ?_ ?_)<;>try simp only [go_sem, *])
 | false =>
  obtain rfl:ea=0:=by simpa using h0
  cases a1 with
  | true =>
   obtain ⟨T2,u2,k2,p2,q2,m2,t2⟩:=hy rfl rfl;clear hy;simp only [E7,bj7,B2,r6] at *;rw [cx] at p1;rw [cy] at p2;rw [cx,cy];intro h hd;unfold eb at *;refine g_ Tryz.func294 [.tmp 4] fun g0 w0 gen g9 hfr e9 n8=>?_;have f1:=n9 hfr hd;have f2:=p6 hfr hd
   repeat' (first
    |exact agb l_
    | (first|refine wp rfl ?_|refine spt rfl ?_|refine spf rfl ?_|(refine spl (fun hc=>?_) fun hc=>?_)<;>(try rw [L1] at hc)<;>try simp only [hc]|(refine gs (fun hb=>?_) fun hb=>?_)<;>try simp only [E7,M9] at hb|refine cp p1 ?_|refine cp p2 ?_|refine Y9 (m1) ?_|refine Y9 (m2) ?_|(refine ct (t1) ?_ ?_;focus ((simp only [go_sem, *]<;>rfl);done))|(refine ct (t2) ?_ ?_;focus ((simp only [go_sem, *]<;>rfl);done))|refine aX7 g9 hd ?_ ?_ ?_ ?_ ?_)<;>try simp only [go_sem, *])
  | false =>
   clear hy;have h1:((0:Int)==0)=true:=rfl;simp only [M9,aW7,p7,h1] at *;rw [cx] at p1;rw [cx,cy];intro h hd;unfold eb at *;refine g_ Tryz.func294 [.tmp 4] fun g0 w0 gen g9 hfr e9 n8=>?_;have f1:=n9 hfr hd;have f2:=p6 hfr hd
   repeat' (first
    |exact agb l_
    | (first|refine wp rfl ?_|refine spt rfl ?_|refine spf rfl ?_|(refine spl (fun hc=>?_) fun hc=>?_)<;>(try rw [L1] at hc)<;>try simp only [hc]|(refine gs (fun hb=>?_) fun hb=>?_)<;>try simp only [E7,M9] at hb|refine cp p1 ?_|refine Y9 (m1) ?_|(refine ct (t1) ?_ ?_;focus ((simp only [go_sem, *]<;>rfl);done))|refine aX7 g9 hd ?_ ?_ ?_ ?_ ?_)<;>try simp only [go_sem, *])
def aV0 (d:GoAbs.Id) (lim:Nat) (f:Fm) (k w:Nat) (b:Bool) (w':Nat) (e:Int):Prop :=
 m_ env 296 [.ptr d 0,.agg f.cells,.int .i64 k] d (eb w lim 0) (.bool b) (eb w' lim e)
theorem bQ4 (n:Nat) (hn:4096<=n):c_ env 297 [.int .i64 n] (.tup [.agg I4.cells,.int .i64 4]):=by
 intro h;have d1:decide ((n:Int)<0)=false:=by simp
 have d2:decide ((n:Int)>=4096)=true:=by simp;omega
 have hz:=aC3;clear hn;exact d_ Tryz.func297 [.cell 2 52,.tmp 3]
theorem cK5 (d:GoAbs.Id) (lim:Nat) (f:Fm) (k w:Nat) (hk:4096<=k):aV0 d lim f k w false w 4:=by
 intro h hd;have h1:=bQ4 k hk;have hf:=bp8 d w lim 4;have n4:((4:Int) != 0)=true:=rfl;unfold eb at *;clear hk;exact n_ Tryz.func296 [.tmp 6]
theorem cK6 (d:GoAbs.Id) (lim:Nat) (f:Fm) (k w:Nat) (hk:k<4096) (v:Fm) (e:Int) (he:(e != 0)=true) (hP:c_ env 63 [.agg f.cells,.int .i64 0,.agg (G3 k).cells] (.tup [.agg v.cells,.int .i64 e])) :
  aV0 d lim f k w false w e:=by
 intro h hd;have h1:=bk8 k hk;have hf:=bp8 d w lim e;have n0:((0:Int) != 0)=false:=rfl;unfold eb at *;clear hk;generalize G3 k=t at *;exact n_ Tryz.func296 [.tmp 6]
variable {e:Int}
theorem cZ7 (d:GoAbs.Id) (lim:Nat) (f:Fm) (k w:Nat) (hk:k<4096) (v:Fm) (hP:c_ env 63 [.agg f.cells,.int .i64 0,.agg (G3 k).cells] (.tup [.agg v.cells,.int .i64 0]))
  {b:Bool} {w':Nat} (hT:TrT d lim v w b w' e):aV0 d lim f k w b w' e:=by
 intro h hd;have h1:=bk8 k hk;obtain ⟨T1,u1,k1,p1,q1,m1,t1⟩:=hT;have n0:((0:Int) != 0)=false:=rfl;unfold eb at *;clear hk;generalize G3 k=t at *;refine g_ Tryz.func296 [.tmp 6] fun g0 w0 gen g9 hfr e9 n8=>?_;have f1:=n9 hfr hd;have f2:=p6 hfr hd
 repeat' (first
  |exact agb l_
  | (first|refine wp rfl ?_|refine spt rfl ?_|refine spf rfl ?_|(refine spl (fun hc=>?_) fun hc=>?_)<;>(try rw [L1] at hc)<;>try simp only [hc]|refine cp h1 ?_|refine cp hP ?_|refine cp p1 ?_|refine Y9 (m1) ?_|(refine ct (t1) ?_ ?_;focus ((simp only [go_sem, *]<;>rfl);done))|refine aX7 g9 hd ?_ ?_ ?_ ?_ ?_)<;>try simp only [go_sem, *])
inductive be6 (d:GoAbs.Id) (lim:Nat) (all:Bool) (f:Fm):Nat->Nat->Nat->Bool->Nat->Int->Prop
 | done {k w:Nat}:be6 d lim all f 0 k w all w 0
 | limit {n k w:Nat}:lim<=w->be6 d lim all f (n+1) k w false w 5
 | stop {n k w w':Nat} {b:Bool} {e:Int}:w<lim->aV0 d lim f k (w+1) b w' e->(e != 0||b != all)=true->be6 d lim all f (n+1) k w b w' e
 | step {n k w w1 w':Nat} {b:Bool} {e:Int}:w<lim->aV0 d lim f k (w+1) all w1 0->be6 d lim all f n (k+1) w1 b w' e->be6 d lim all f (n+1) k w b w' e
theorem be6.cons {d:GoAbs.Id} {lim n k w w':Nat} {all b:Bool} {f:Fm} {e:Int} (h:be6 d lim all f (n+1) k w b w' e) :
  (lim<=w/\b=false/\w'=w/\e=5)\/(w<lim/\((aV0 d lim f k (w+1) b w' e/\(e != 0||b != all)=true)\/∃ w1,aV0 d lim f k (w+1) all w1 0/\be6 d lim all f n (k+1) w1 b w' e)):=by
 cases h with
 | limit h=>exact .inl ⟨h,rfl,rfl,rfl⟩
 | stop h1 h2 h3=>exact .inr ⟨h1,.inl ⟨h2,h3⟩⟩
 | step h1 h2 h3=>exact .inr ⟨h1,.inr ⟨_,h2,h3⟩⟩
variable {w:Nat} {f:Fm}
theorem be6.none {lim k w':Nat} {all b:Bool} (h:be6 d lim all f 0 k w b w' e):b=all/\w'=w/\e=0:=by cases h;exact ⟨rfl,rfl,rfl⟩
theorem cI1 (d:GoAbs.Id) (lim w:Nat) (all:Bool) (t:Tm) (a:Fm) (hn:m_ env 276 [.ptr d 0,.agg t.cells] d (eb w lim 0) (.tup [.int .i64 0,.bool false]) (eb w lim 5)) :
  m_ env 295 [.agg (.bool all::(t.cells++a.cells)),.ptr d 0] d (eb w lim 0) (.bool false) (eb w lim 5):=by
 intro h hd;have cx:=Tm.l4 t;have cy:=Fm.l4 a;rw [cx] at hn;rw [cx,cy];unfold eb at *;exact n_ Tryz.func295 [.tmp 4]
theorem dq1 (d:GoAbs.Id) (lim w m w0' w':Nat) (all b:Bool) (e:Int) (t:Tm) (a:Fm) (hm:m<=100000) (S9:lim<=65536)
  (hn:m_ env 276 [.ptr d 0,.agg t.cells] d (eb w lim 0) (.tup [.int .i64 m,.bool true]) (eb w0' lim 0))
  (hS:be6 d lim all a m 0 w0' b w' e) :
  m_ env 295 [.agg (.bool all::(t.cells++a.cells)),.ptr d 0] d (eb w lim 0) (.bool b) (eb w' lim e):=by
 intro h hd;have cx:=Tm.l4 t;have cy:=Fm.l4 a;rw [cx] at hn;rw [cx,cy];have hr0:(List.range m).length=m:=bC1;unfold eb at *;refine g_ Tryz.func295 [.tmp 4] fun g0 w0 gen g9 hfr e9 n8=>?_;have f1:=n9 hfr hd;have f2:=p6 hfr hd;refine e_ ?_;clear hn;refine v_ [1,2] [⟨gen,0,0⟩] (fun i σ=>a6 d h σ.h/\∃ wi:Nat,σ.h d=some (.box [.int .i64 wi,.int .i64 lim,.int .i64 0])/\be6 d lim all a (m - i) i wi b w' e) (List.range m).length ?_ ?_ ?_
 ·simp only [go_sem, *]
  exact ⟨by repeat (first|exact a6.refl _ _|assumption|refine a6.new ?_ (e9 _ _)|refine a6.set ?_),w0',rfl,hS⟩
 ·clear hS
  intro i σ gr0 o5 hgn hlt jI jN jS ⟨jA,wi,js,jk⟩;obtain ⟨jT,jB⟩:=jS;simp only [go_sem] at jT jB;have hgf:=o0 hgn;have l6:=p5 hd jA hgf (fun r i e=>by have:=hfr d (by rw [hd];simp);rw [e] at this;simp at this;omega);have aO3:=u5 hfr hd (show gen<gr0 by omega);have aO5:=D4 hfr hd (show gen<gr0 by omega);have l9:=o7 (show gen<gr0 by omega);have m6:=n6 (show gen<gr0 by omega);obtain ⟨x,hx,hxm,hm⟩:=rnx hlt;clear hgn;rw [hr0] at hlt;rw [show m - i=(m - (i+1))+1 by omega] at jk;have hf:=bp8 d wi lim 5;unfold eb at hf;rcases jk.cons with ⟨hl,rfl,rfl,rfl⟩|⟨hl,⟨hT,hq⟩|⟨w1,hT,hS⟩⟩
  ·have hd1:decide ((w':Int)>=(lim:Int))=true:=by simp;omega
   clear jk hl;exact ah3
  ·have hd1:decide ((wi:Int)>=(lim:Int))=false:=by simp;omega
   have hw1:=E2 (i:=wi) a_;unfold aV0 eb at hT;rw [cy] at hT;clear jk hl hf;generalize wi+1=wj at *;cases he:(e != 0) with
   | true =>
    clear hq;exact ah3
   | false =>
    rw [he,aW4] at hq;exact ah3
  ·have hd1:decide ((wi:Int)>=(lim:Int))=false:=by simp;omega
   have hw1:=E2 (i:=wi) a_;unfold aV0 eb at hT;rw [cy] at hT;clear jk hl hf;generalize wi+1=wj at *;have n0:((0:Int) != 0)=false:=rfl;have na:(all != all)=false:=by cases all<;>rfl
   refine e_ ?_;exact ⟨by repeat (first|exact jA|refine a6.new ?_ (l6 _ _)|refine a6.set ?_),w1,rfl,hS⟩
 ·clear hS
  intro σ ga0 q9 hgn jS ⟨jA,wi,js,jk⟩;obtain ⟨jT,jB⟩:=jS;simp only [go_sem] at jT jB;have hgf:=o0 hgn;have l6:=p5 hd jA hgf (fun r i e=>by have:=hfr d (by rw [hd];simp);rw [e] at this;simp at this;omega);have aO2:=u5 hfr hd (show gen<ga0 by omega);have aO4:=D4 hfr hd (show gen<ga0 by omega);have l8:=o7 (show gen<ga0 by omega);have m5:=n6 (show gen<ga0 by omega);clear hgn;rw [hr0,Nat.sub_self] at jk;obtain ⟨rfl,rfl,rfl⟩:=jk.none;exact ah3
theorem bH2 (t:Ty):c_ env 97 [.agg t.cells] (.fn (.func 156) [] [.el t.cells 0]):=by
 intro h;refine g_ Tryz.func97 [.tmp 2] fun g0 w0 gen g9 hfr e9 n8=>?_;refine K8 ?_;refine D2 ?_;simp only [go_sem, *];refine N3 ⟨gen,0,0⟩ [(1,.el t.cells 0),(2,.V7)] [] (cs:=t.cells) rfl rfl g9 j_ (e9 0 0) b_ (m8.new (m8.refl _) (e9 0 0)) j_ b_ (by
  intro p hp;simp only [D9,K0,D1] at hp;rcases hp with rfl|rfl
  ·exact ⟨.inr (.inr ⟨0,j_,rfl⟩),j_⟩
  ·exact ⟨.inr (.inl j_),by simp [InV]⟩) ?_
 simp only [List.foldr];exact i_
theorem aH8 {t:Ty} (hc:c_ env 56 [.agg t.cells] (.int .i64 0)) {vs:List (List V)} (hit:Iter Tryz.prog env (.fn (.func 156) [] [.el t.cells 0]) vs)
  (hv:∀ v∈vs,∃ k rs,v=[.agg [.int .i64 k,.sl .any rs]]/\(k==4)=false):c_ env 57 [.agg t.cells] (.tup [.bool true,.int .i64 0]):=by
 intro h;have hn:=bH2 t;have n0:((0:Int) != 0)=false:=rfl;refine M8 Tryz.func57 rfl h_ fun g0 w0 gen g9 hfr=>?_;have e9:∀ r i,h ⟨gen,r,i⟩=none:=o0 hfr;have n8:Tryz.f57.results.toList=[.cell 2 4,.cell 3 44]:=rfl;have hl0:∀ b,w0.heap.size<=b->g0.lim b=0:=g9.B3;refine ae9 ?_;simp only [ag9,W8,aa5,ak0,aj2,aC4,R9,Q3,E0,B7,ae7];refine aj7 (J:=fun σ=>σ.tm 2=.ptr ⟨gen,0,1⟩ 0/\σ.tm 3=.ptr ⟨gen,0,2⟩ 0/\σ.tm 12=.fn (.func 156) [] [.el t.cells 0]/\m8 h σ.h /\
  σ.h ⟨gen,0,1⟩=some (.box [.bool false])/\σ.h ⟨gen,0,2⟩=some (.box [.int .i64 0])) [_,_,_,_,_] h_ follows ?_ ?_
 ·simp only [E0,B7,R9,Q3]
  clear hit hv;refine e_ ?_;exact f_
 ·rintro σ ⟨j2,j3,j12,jA,jb1,jb2⟩
  clear hc hn;refine cR7 ?_;refine x6 ?_;refine aD3 (dl6 _) (ps:=[13]) (vs:=vs) (by intro p hp;simp at hp;subst hp;exact ah5 h_) (fun v hh=>by obtain ⟨k,c,rfl,_⟩:=hv v hh;rfl) (fun _=>False) (fun _ h=>h.elim)
   (fun _ X hh=>X=xT/\m8 h hh/\hh ⟨gen,0,1⟩=some (.box [.bool false])/\hh ⟨gen,0,2⟩=some (.box [.int .i64 0])) (fun _ _ _=>False)
   (by rintro i X hh ⟨rfl,_⟩;exact bo1) (fun _ _ _ h=>h.elim)
   (by
    rintro i X h1 h2 e ⟨q0,q1,q2,q3⟩;exact ⟨q0,fun id hid=>(e id (by rw [jA id hid];exact hid)).trans (q1 id hid),(e _ (by rw [jb1];simp)).trans q2,(e _ (by rw [jb2];simp)).trans q3⟩)
   (fun _ _ _ _ _ h=>h.elim) hl0 ?_ (by rw [j12];exact hit) ⟨rfl,jA,jb1,jb2⟩ rfl rfl ?_ (fun _ _ _ _ _ _ h=>h.elim)
  ·rintro ya yb gn i vv hi X oa ob ⟨l,f1,f2,f3⟩ d1 d2 lo1 lo2 hXS cc7 cc8 hgn hvv ⟨rfl,jA,jb1,jb2⟩ hnn toB fin finx
   obtain ⟨k,c,rfl,hk⟩:=hv vv (Q7 hvv);refine al0 (fun gm hgm=>?_);have hgf:∀ r i,hi ⟨gm,r,i⟩=none:=o0 hgm;have l6:=fun r i=>F3 jA (hgf r i);have hg1:gen<gm:=hgm ⟨gen,0,1⟩ (by simp [jb1]);have e1:=o7 hg1;have e2:=n6 hg1;have xa:XOk Tryz.prog (ya.at xT):=oa.x hXS;have xb:XOk Tryz.prog (yb.at xT):=ob.x hXS;clear hgm hit hnn hvv finx;simp only [aQ3];refine o6 xa follows h_ ?_;simp only [go_sem, *];refine toB _ _ _ hXS ?_;clear toB;refine u_ ?_;refine fin _ _ _ ⟨rfl,by repeat (first|exact jA|refine m8.new ?_ (l6 _ _)),j_,j_⟩ (fun id _ q=>?_);simp only;rw [m7];rintro rfl;exact q (hgf _ _)
  ·rintro D X' h' hD ok ⟨rfl,jA,jb1,jb2⟩ ak2
   have okD:=ok.x (bo1 (bd:=0))
   repeat' (first
    |(refine ⟨?_,?_⟩;focus ((repeat' (first|refine ⟨?_,?_⟩|refine .inr ?_));all_goals kernel_rfl))
    |exact agf l_
    | (first|refine A4 ?_|refine o6 okD follows h_ ?_|refine u7 ?_|refine x6 ?_|refine N2 ?_|refine E1 ?_|refine K6 ?_|refine s7 ?_|refine spt rfl ?_|refine spf rfl ?_|refine aR4 follows hl0 hD ?_|refine Y7 g9 ?_ ?_ ?_)<;>try simp only [go_sem, *])
theorem aT5:c8.cells=[.int .i64 1,.sl .any []]:=by rw [R8];rfl
theorem aY2:r5.cells=[.int .i64 2,.sl .any []]:=by rw [R8];rfl
theorem bB2:O7.cells=[.int .i64 5,.sl .any []]:=by rw [R8];rfl
theorem bz2 (a b:Ty):(B6 a b).cells=[.int .i64 3,.sl .any [a.cells,b.cells]]:=by rw [R8];rfl
theorem bZ2 {t:Ty} (h:aq4 t):c_ env 57 [.agg t.cells] (.tup [.bool true,.int .i64 0]):=by
 have hc:=ag7 t h.G.1.W;rw [h.G.err] at hc;rcases h with rfl|rfl|rfl|rfl|rfl
 ·exact aH8 hc (by rw [aT5];exact aT2 1) (by intro v hv;simp only [D9,K0,D1] at hv;subst hv;exact ⟨_,_,rfl,rfl⟩)
 ·exact aH8 hc (by rw [aY2];exact aT2 2) (by intro v hv;simp only [D9,K0,D1] at hv;subst hv;exact ⟨_,_,rfl,rfl⟩)
 ·exact aH8 hc (by rw [bB2];exact aT2 5) (by intro v hv;simp only [D9,K0,D1] at hv;subst hv;exact ⟨_,_,rfl,rfl⟩)
 ·exact aH8 hc (by rw [bz2,aT5,aY2];exact bc0 3 1 2) (by intro v hv;simp only [D9,K0,D1] at hv;rcases hv with rfl|rfl|rfl<;>exact ⟨_,_,rfl,rfl⟩)
 ·exact aH8 hc (by rw [bz2,aT5];exact bc0 3 1 1) (by intro v hv;simp only [D9,K0,D1] at hv;rcases hv with rfl|rfl|rfl<;>exact ⟨_,_,rfl,rfl⟩)
variable {m:Nat}
theorem cY7 {t:Ty} (ht:aq4 t) {b:Nat} (hb:b<=16) (hm:m<=65536):c_ env 20 [.agg t.cells,.int .i64 b,.int .i64 m] (.int .i64 0):=by
 intro h;have hc:=ag7 t ht.G.1.W;rw [ht.G.err] at hc;have hd:=bZ2 ht;have n0:((0:Int) != 0)=false:=rfl;have q1:decide ((b:Int)<0)=false:=by simp
 have q2:decide ((b:Int)>16)=false:=by simp;omega
 have q3:decide ((m:Int)<0)=false:=by simp
 have q4:decide ((m:Int)>65536)=false:=by simp;omega
 clear ht hb hm;exact d_ Tryz.func20 [.tmp 6]
def aX3 (ts:List Ty) (b:Fm):List V:=.sl .any (ts.map Ty.cells)::b.cells
variable {b:Fm} {ts:List Ty}
theorem bG9 (hT:c_ env 53 [.sl .any [],.agg f.cells] (.int .i64 0))
  (hU:c_ env 54 [.agg f.cells] (.tup [.sl .any (ts.map Ty.cells),.agg b.cells,.int .i64 0])) (hD:c_ env 55 [.agg b.cells] (.tup [.bool true,.int .i64 0])) :
  c_ env 19 [.agg f.cells] (.tup [.agg (aX3 ts b),.int .i64 0]):=by
 intro h;have n0:((0:Int) != 0)=false:=rfl;unfold aX3;have hw:A7 (ts.map Ty.cells)=ts.map Ty.cells:=F4 ts;have h5:∀ S,S8 S (ts.map Ty.cells):=fun S=>by simp only [go_sem, *]
 generalize ts.map Ty.cells=T at *;rw [Fm.l4 b] at hU hD ⊢;exact d_ Tryz.func19 [.cell 2 64,.tmp 3]
theorem cs5 (hm:m<=65536) (gt:TmG t) (ht:l7 TyG [] t c8) (zt:a8 t<=4096):bF9 m t (evN m t):=by
 obtain ⟨r,u,o,h1,h2,h3⟩:=bQ7 (m:=m) ht;unfold bF9;rw [h2];exact cm1 hm h1 gt.toW ht (gt.am0 zt) a_
def bj8 (lim:Nat) (a:Ans):Prop:=a.2.1<=lim/\(a.1=true->a.2.2=0)
theorem eb9 {lim:Nat} {x y:Tm} (hl:lim<=65536) (hw:w<=lim) (gx:TmG x) (gy:TmG y) (tx:l7 TyG [] x c8) (ty:l7 TyG [] y c8) (zx:a8 x<=4096) (zy:a8 y<=4096) :
  TrT d lim (u6 x y) w (dE lim w x y).1 (dE lim w x y).2.1 (dE lim w x y).2.2/\bj8 lim (dE lim w x y):=by
 obtain ⟨bx,_⟩:=co0 (m:=lim - w) tx gx.toW a_;have by':∀ v,(evN (lim - v) y).2.1<=lim - v:=fun v=>(co0 ty gy.toW a_).1
 have h:=dJ7 d lim w x y (evN (lim - w) x) (evN (lim - (w+(evN (lim - w) x).2.1)) y) hl hw (cs5 a_ gx tx zx) bx
  (fun _=>⟨cs5 a_ gy ty zy,by have:=by' (w+(evN (lim - w) x).2.1);omega⟩)
 have hy:=by' (w+(evN (lim - w) x).2.1)
 have e:eqR w (evN (lim - w) x) (evN (lim - (w+(evN (lim - w) x).2.1)) y)=dE lim w x y:=by
  unfold eqR dE dN;cases h1:(evN (lim - w) x).2.2 with
  | true=>simp
  | false =>
   simp only [B2,r6];cases h2:(evN (lim - (w+(evN (lim - w) x).2.1)) y).2.2 with
   | true=>simp
   | false=>simp
 rw [e] at h;refine ⟨h,?_⟩;rw [<- e];unfold eqR bj8;split
 ·exact ⟨hw,b_⟩
 ·split
  ·exact ⟨by simp only;omega,b_⟩
  ·exact ⟨by simp only;omega,b_⟩
theorem dk6 {d:GoAbs.Id} {lim:Nat} {all:Bool} {a:Fm} (D:Nat->Fm->Ans) (hl:lim<=65536) (da:Dc [c8] a) (za:s6 a<=4096)
  (hD:∀ f w,Dc [] f->s6 f<=4096->fdp f=fdp a->w<=lim->TrT d lim f w (D w f).1 (D w f).2.1 (D w f).2.2/\bj8 lim (D w f)) :
  ∀ n k w,w<=lim->be6 d lim all a n k w (dB D lim all a n k w).1 (dB D lim all a n k w).2.1 (dB D lim all a n k w).2.2/\bj8 lim (dB D lim all a n k w)
 | 0,k,w,hw=>⟨.done,hw,fun _=>rfl⟩
 | n+1,k,w,hw=>by
  rw [dB];by_cases hlt:lim<=w
  ·rw [B8 hlt]
   exact ⟨.limit hlt,hw,b_⟩
  rw [y9 hlt];have hp:aV0 d lim a k (w+1) (dW D a k (w+1)).1 (dW D a k (w+1)).2.1 (dW D a k (w+1)).2.2/\bj8 lim (dW D a k (w+1)):=by
   unfold dW;by_cases hk:4096<=k
   ·rw [B8 hk]
    exact ⟨cK5 d lim a k (w+1) hk,by simp only [bj8];exact ⟨a_,b_⟩⟩
   rw [y9 hk];have zk:a8 (G3 k)=k+1:=Y2 k;have hP:=ba0 a (da.G (u:=true)).toW (da.G (u:=true)) za (da.least (by simp;omega)) (G3 k) (aq2 k) (am8 k) a_ ((l7.num (Q:=TyG) (g:=[]) k).least _ a_ (by simp;omega));unfold P6 at hP;cases hz:((ad0 a (G3 k)).2 != 0) with
   | true =>
    simp only [p7];exact ⟨cK6 d lim a k (w+1) a_ _ _ hz hP,by simp only [bj8];exact ⟨a_,b_⟩⟩
   | false =>
    have hz':(ad0 a (G3 k)).2=0:=by simpa using hz
    simp only [B2,r6];obtain ⟨p1,p2,p3⟩:=da.put za (by omega:k<4096) hz';obtain ⟨t1,t2⟩:=hD _ (w+1) p1 p2 p3 a_;rw [hz'] at hP;exact ⟨cZ7 d lim a k (w+1) a_ _ hP t1,t2⟩
  generalize dW D a k (w+1)=p at hp;obtain ⟨hp1,hp2⟩:=hp;cases hs:(p.2.2 != 0||p.1 != all) with
  | true =>
   simp only [p7];exact ⟨.stop a_ hp1 hs,hp2⟩
  | false =>
   simp only [B2,r6];simp only [bo5,bd9] at hs;obtain ⟨s1,s2⟩:=hs;rw [s1,s2] at hp1;obtain ⟨r1,r2⟩:=dk6 D hl da za hD n (k+1) p.2.1 hp2.1;exact ⟨.step a_ hp1 r1,r2⟩
theorem ci2 {d:GoAbs.Id} {lim:Nat} (hl:lim<=65536):∀ (n:Nat) (f:Fm) (w:Nat),fdp f<=n->Dc [] f->s6 f<=4096->w<=lim ->
  TrT d lim f w (dT lim n w f).1 (dT lim n w f).2.1 (dT lim n w f).2.2/\bj8 lim (dT lim n w f)
 | 0,f,w,hn,_,_,_=>by have:=bQ9 f;omega
 | n + 1,f,w,hn,hf,zf,hw=>by
  generalize hg:([]:List Ty)=g at hf;cases hf with
  | @eq _ x y gx gy tx ty =>
   subst hg;rw [D7] at zf;rw [da5];exact eb9 hl hw gx gy tx ty a_ a_
  | @two _ k a b hk da db =>
   subst hg;rw [y8] at zf;rw [bR0] at hn;obtain ⟨a1,a2⟩:=ci2 hl n a w a_ da a_ hw;rcases hk with rfl|rfl
   ·rw [cn7]
    obtain ⟨b1,b2⟩:=ci2 hl n b (dT lim n w a).2.1 a_ db a_ a2.1;refine ⟨ds4 d lim w a b _ _ a1 a2.2 (fun _=>b1),?_⟩;split
    ·exact b2
    ·exact a2
   ·rw [cn9]
    obtain ⟨b1,b2⟩:=ci2 hl n b (dT lim n w a).2.1 a_ db a_ a2.1;have:=ds5 d lim w a b (dT lim n w a) (dT lim n (dT lim n w a).2.1 b) a1 (fun _ _=>b1);refine ⟨this,?_⟩;split
    ·exact ⟨a2.1,b_⟩
    ·exact b2
  | @bnd _ all q a gq tq oq da =>
   subst hg;rw [aX0] at zf;rw [cA3] at hn;rw [cn8];obtain ⟨gt,tt,zt⟩:=cV3 gq tq oq a_;obtain ⟨u1,u2⟩:=co0 (m:=lim - w) tt gt.toW a_;have hN:=bf1 d w lim (ac0 q 0 I4) (evN (lim - w) (ac0 q 0 I4)) hw hl a_ (cs5 a_ gt tt a_);have hc:q.count 0=0:=by
    rw [gq.ap4 a_ (tq.least _ a_ (by simp;omega)) a_ a_,oq];rfl
   have hB:FmG true (ac5 all q a):=cl0 gq da.G;have hO:=dr8 all q gq.toW hc a (da.G (u:=true)).toW hB.toW (hB.am0 (by rw [aX0];omega));have wk:J5 (.agg (.bool all::((ac0 q 0 I4).cells++a.cells)))=.agg (.bool all::((ac0 q 0 I4).cells++a.cells)):=by
    rw [J5,B1,az8,aQ5,aQ4,J5]
   unfold dN;cases ho:(evN (lim - w) (ac0 q 0 I4)).2.2 with
   | true =>
    rw [ho] at hN;simp only [p7,E7] at hN ⊢;exact ⟨⟨_,_,295,hO,wk,by kernel_rfl,cI1 d lim w all _ a hN⟩,hw,b_⟩
   | false =>
    rw [ho] at hN;simp only [B2,r6,M9,bV5] at hN ⊢;obtain ⟨s1,s2⟩:=dk6 (d:=d) (all:=all) (fun w f=>dT lim n w f) hl da a_ (fun f w df zf hd hw=>ci2 hl n f w a_ df zf hw)
     (evN (lim - w) (ac0 q 0 I4)).1 0 (w+(evN (lim - w) (ac0 q 0 I4)).2.1) a_
    exact ⟨⟨_,_,295,hO,wk,by kernel_rfl,dq1 d lim w _ _ _ all _ _ _ a (by have:=u2 ho;omega) hl hN s1⟩,s2⟩
theorem dT2 (n:Nat) (hn:n<=65536):c_ env 113 [.int .i64 n] (.bool true):=by
 intro h;have d1:decide ((n:Int)>=0)=true:=by simp
 have d2:decide ((n:Int)<=65536)=true:=by simp;omega
 have dt:decide True=true:=rfl;clear hn;exact d_ Tryz.func113 [.tmp 2]
theorem cI6 (hf:Dc [] f) (zf:s6 f<=4096):c_ env 112 [.sl .any [],.agg f.cells,.bool true] (.int .i64 0):=by
 intro h;have h1:=ay2 [] b_ b_ f hf.ty ((hf.G (u:=true)).am0 zf) zf (hf.G (u:=true)).toW;have h2:=ay1 f (hf.G (u:=true)).toW;have e:f.has 4=(true,0):=by
  unfold Fm.has;rw [(hf.G (u:=true)).am0 zf,hf.fld (by simp;omega)]
  rfl
 rw [e] at h2;unfold al3 at h2;simp only [B7] at h1 h2;have n0:((0:Int) != 0)=false:=rfl;clear hf zf e;exact d_ Tryz.func112 [.tmp 6]
def bg2 (a:Ans):V:=if a.2.2 != 0 then .tup [.bool false,.int .i64 0,.int .i64 a.2.2] else .tup [.bool a.1,.int .i64 a.2.1,.int .i64 0]
theorem cl9 (hf:Dc [] f) (zf:s6 f<=4096) (lim:Nat) (hl:lim<=65536):c_ env 64 [.agg f.cells,.int .i64 lim] (bg2 (dT lim (fdp f) 0 f)):=by
 intro h;have h1:=dT2 lim hl;have h2:=cI6 hf zf;have hT:=fun d=>(ci2 (d:=d) hl (fdp f) f 0 (w7 _) hf zf a_).1;generalize dT lim (fdp f) 0 f=a at *;obtain ⟨b,w',e⟩:=a;simp only at hT;have n0:((0:Int) != 0)=false:=rfl;have z0:((0:Nat):Int)=0:=rfl;unfold bg2;clear hf zf hl;cases he:(e != 0) with
 | true =>
  simp only [p7];refine g_ Tryz.func64 [.tmp 4,.tmp 5,.tmp 6] fun g0 w0 gen g9 hfr e9 n8=>?_;obtain ⟨T1,u1,k1,p1,q1,m1,t1⟩:=hT ⟨gen,4,2⟩;unfold eb at t1;rw [z0] at t1;clear hT
  repeat' (first
   |(refine ⟨?_,?_⟩;focus ((repeat' (first|refine ⟨?_,?_⟩|refine .inr ?_));all_goals kernel_rfl))
   |exact hin _|exact agf l_
   | (first|refine wp rfl ?_|refine spt rfl ?_|refine spf rfl ?_|(refine spl (fun hc=>?_) fun hc=>?_)<;>(try rw [L1] at hc)<;>try simp only [hc]|refine cp h1 ?_|refine cp h2 ?_|refine cp p1 ?_|refine Y9 (m1) ?_|(refine ct (t1) ?_ ?_;focus ((simp only [go_sem, *]<;>rfl);done))|refine Y7 g9 ?_ ?_ ?_)<;>try simp only [go_sem, *])
 | false =>
  obtain rfl:e=0:=by simpa using he
  simp only [B2,r6];refine g_ Tryz.func64 [.tmp 4,.tmp 5,.tmp 6] fun g0 w0 gen g9 hfr e9 n8=>?_;obtain ⟨T1,u1,k1,p1,q1,m1,t1⟩:=hT ⟨gen,4,2⟩;unfold eb at t1;rw [z0] at t1;clear hT
  repeat' (first
   |(refine ⟨?_,?_⟩;focus ((repeat' (first|refine ⟨?_,?_⟩|refine .inr ?_));all_goals kernel_rfl))
   |exact hin _|exact agf l_
   | (first|refine wp rfl ?_|refine spt rfl ?_|refine spf rfl ?_|(refine spl (fun hc=>?_) fun hc=>?_)<;>(try rw [L1] at hc)<;>try simp only [hc]|refine cp h1 ?_|refine cp h2 ?_|refine cp p1 ?_|refine Y9 (m1) ?_|(refine ct (t1) ?_ ?_;focus ((simp only [go_sem, *]<;>rfl);done))|refine Y7 g9 ?_ ?_ ?_)<;>try simp only [go_sem, *])
def bh6 (B T:List (List V)) (b m:Nat):V:=.fn (.func 58) [] [.el [.sl .any T] 0,.el [.sl .any B] 0,.el [.int .i64 b] 0,.el [.int .i64 m] 0]
variable {B:List (List V)}
theorem bP5 {T:List (List V)} (b m:Nat) (hB:∀ S,S8 S B) (hT:∀ S,S8 S T) (wB:A7 B=B) (wT:A7 T=T) :
  c_ env 22 [.sl .any B,.sl .any T,.int .i64 b,.int .i64 m] (bh6 B T b m):=by
 intro h;unfold bh6;refine g_ Tryz.func22 [.tmp 8] fun g0 w0 gen g9 hfr e9 n8=>?_;refine K8 ?_;refine D2 ?_;simp only [go_sem, *];refine N3 ⟨gen,0,0⟩ [(4,.el [.sl .any B] 0),(5,.ptr ⟨gen,0,1⟩ 0),(6,.ptr ⟨gen,0,2⟩ 0),(7,.ptr ⟨gen,0,3⟩ 0),(8,.V7)] [(⟨gen,0,1⟩,[.sl .any T],[.sl .any T]),(⟨gen,0,2⟩,[.int .i64 b],[.int .i64 b]),(⟨gen,0,3⟩,[.int .i64 m],[.int .i64 m])] (cs:=[.sl .any B]) rfl rfl g9 j_ (e9 0 0) b_ (by repeat (first|exact m8.refl _|refine m8.new ?_ (e9 _ _))) (by simp only [go_sem, *,G4,I7,E8,reduceCtorEq,H9]) (by intro b hb;simp only [D9,K0,D1] at hb;rcases hb with rfl|rfl|rfl<;>exact ⟨e9 _ _,j_,rfl,(by intro p hp;simp only [be1,be3,be0,D9,K0,D1] at hp;subst hp;first|exact .inr (.inl rfl)|exact .inl rfl|exact .inr rfl),j_⟩) (by
  intro p hp;simp only [D9,K0,D1] at hp;rcases hp with rfl|rfl|rfl|rfl|rfl
  ·exact ⟨.inr (.inr ⟨0,j_,rfl⟩),by simp only [go_sem, *,G4,I7,E8,reduceCtorEq,H9]⟩
  ·exact ⟨.inr (.inl j_),by simp only [go_sem, *,G4,I7,E8,reduceCtorEq,H9]⟩
  ·exact ⟨.inr (.inl j_),by simp only [go_sem, *,G4,I7,E8,reduceCtorEq,H9]⟩
  ·exact ⟨.inr (.inl j_),by simp only [go_sem, *,G4,I7,E8,reduceCtorEq,H9]⟩
  ·exact ⟨.inr (.inl j_),by simp only [go_sem, *,G4,I7,E8,reduceCtorEq,H9]⟩) ?_
 simp only [List.foldr];refine N3 ⟨gen,0,1⟩ [(4,.el [.sl .any B] 0),(5,.el [.sl .any T] 0),(6,.ptr ⟨gen,0,2⟩ 0),(7,.ptr ⟨gen,0,3⟩ 0),(8,.V7)] [(⟨gen,0,2⟩,[.int .i64 b],[.int .i64 b]),(⟨gen,0,3⟩,[.int .i64 m],[.int .i64 m])] (cs:=[.sl .any T]) rfl rfl g9 j_ (e9 0 1) b_ (by repeat (first|exact m8.refl _|refine m8.new ?_ (e9 _ _))) (by simp only [go_sem, *,G4,I7,E8,reduceCtorEq,H9]) (by intro b hb;simp only [D9,K0,D1] at hb;rcases hb with rfl|rfl<;>exact ⟨e9 _ _,j_,rfl,(by intro p hp;simp only [be1,be3,be0,D9,K0,D1] at hp;subst hp;first|exact .inr (.inl rfl)|exact .inl rfl|exact .inr rfl),j_⟩) (by
  intro p hp;simp only [D9,K0,D1] at hp;rcases hp with rfl|rfl|rfl|rfl|rfl
  ·exact ⟨.inr (.inl j_),by simp only [go_sem, *,G4,I7,E8,reduceCtorEq,H9]⟩
  ·exact ⟨.inr (.inr ⟨0,j_,rfl⟩),by simp only [go_sem, *,G4,I7,E8,reduceCtorEq,H9]⟩
  ·exact ⟨.inr (.inl j_),by simp only [go_sem, *,G4,I7,E8,reduceCtorEq,H9]⟩
  ·exact ⟨.inr (.inl j_),by simp only [go_sem, *,G4,I7,E8,reduceCtorEq,H9]⟩
  ·exact ⟨.inr (.inl j_),by simp only [go_sem, *,G4,I7,E8,reduceCtorEq,H9]⟩) ?_
 simp only [List.foldr];refine N3 ⟨gen,0,2⟩ [(4,.el [.sl .any B] 0),(5,.el [.sl .any T] 0),(6,.el [.int .i64 b] 0),(7,.ptr ⟨gen,0,3⟩ 0),(8,.V7)] [(⟨gen,0,3⟩,[.int .i64 m],[.int .i64 m])] (cs:=[.int .i64 b]) rfl rfl g9 j_ (e9 0 2) b_ (by repeat (first|exact m8.refl _|refine m8.new ?_ (e9 _ _))) (by simp only [go_sem, *,G4,I7,E8,reduceCtorEq,H9]) (by intro b hb;simp only [D9,K0,D1] at hb;rcases hb with rfl<;>exact ⟨e9 _ _,j_,rfl,(by intro p hp;simp only [be1,be3,be0,D9,K0,D1] at hp;subst hp;first|exact .inr (.inl rfl)|exact .inl rfl|exact .inr rfl),j_⟩) (by
  intro p hp;simp only [D9,K0,D1] at hp;rcases hp with rfl|rfl|rfl|rfl|rfl
  ·exact ⟨.inr (.inl j_),by simp only [go_sem, *,G4,I7,E8,reduceCtorEq,H9]⟩
  ·exact ⟨.inr (.inl j_),by simp only [go_sem, *,G4,I7,E8,reduceCtorEq,H9]⟩
  ·exact ⟨.inr (.inr ⟨0,j_,rfl⟩),by simp only [go_sem, *,G4,I7,E8,reduceCtorEq,H9]⟩
  ·exact ⟨.inr (.inl j_),by simp only [go_sem, *,G4,I7,E8,reduceCtorEq,H9]⟩
  ·exact ⟨.inr (.inl j_),by simp only [go_sem, *,G4,I7,E8,reduceCtorEq,H9]⟩) ?_
 simp only [List.foldr];refine N3 ⟨gen,0,3⟩ [(4,.el [.sl .any B] 0),(5,.el [.sl .any T] 0),(6,.el [.int .i64 b] 0),(7,.el [.int .i64 m] 0),(8,.V7)] [] (cs:=[.int .i64 m]) rfl rfl g9 j_ (e9 0 3) b_ (by repeat (first|exact m8.refl _|refine m8.new ?_ (e9 _ _))) (by simp only [go_sem, *,G4,I7,E8,reduceCtorEq,H9]) b_ (by
  intro p hp;simp only [D9,K0,D1] at hp;rcases hp with rfl|rfl|rfl|rfl|rfl
  ·exact ⟨.inr (.inl j_),by simp only [go_sem, *,G4,I7,E8,reduceCtorEq,H9]⟩
  ·exact ⟨.inr (.inl j_),by simp only [go_sem, *,G4,I7,E8,reduceCtorEq,H9]⟩
  ·exact ⟨.inr (.inl j_),by simp only [go_sem, *,G4,I7,E8,reduceCtorEq,H9]⟩
  ·exact ⟨.inr (.inr ⟨0,j_,rfl⟩),by simp only [go_sem, *,G4,I7,E8,reduceCtorEq,H9]⟩
  ·exact ⟨.inr (.inl j_),by simp only [go_sem, *,G4,I7,E8,reduceCtorEq,H9]⟩) ?_
 simp only [List.foldr];exact i_
theorem cY4 (l:List Nat) (hz:lsz l<=4096):c_ env 103 [.agg (PVl.mk 2 0 (l.map fun (n:Nat)=>(n:Int)) []).cells] (.agg (aB6 l).cells):=by
 intro h;obtain ⟨bR8,hlen⟩:=ao9.mem hz;have hOf:=bk6 7 [];have ee9:∀ x∈l,c_ env 166 [.int .i64 x] (.agg (G3 x).cells):=fun x hx=>aN8 x (by have:=bR8 x hx;omega);have ej2:∀ x t,c_ env 164 [.int .i64 8,.sl .any [(G3 x).cells,t]] (.agg (tm0 8 [G3 x]).cells)->True:=fun _ _ _=>trivial;have hcn:∀ x (t:Tm),c_ env 164 [.int .i64 8,.sl .any [(G3 x).cells,t.cells]] (.agg (tm0 8 [G3 x,t]).cells):=by
  intro x t;have:=bk6 8 [G3 x,t];simpa only [E0,B7] using this
 have hwL:A7 (ints (l.map fun (n:Nat)=>(n:Int)))=ints (l.map fun (n:Nat)=>(n:Int)):=aa6 _;have hbk:=bY4 (c:=.any) (es:=ints (l.map fun (n:Nat)=>(n:Int)));have hL:ints (l.map fun (n:Nat)=>(n:Int))=(l.map fun (n:Nat)=>V.int .i64 (n:Int)).map fun v=>[v]:=by simp [ints,aR3,Function.comp_def]
 have dM6:aB6 (l.drop l.length)=tm0 7 []:=by rw [y6];rfl
 rw [PVl.r7];rw [hL] at hbk hwL ⊢;have hvl:(l.map fun (n:Nat)=>V.int .i64 (n:Int)).length=l.length:=by simp
 have hvg:∀ (i:Nat) (v:V),(l.map fun (n:Nat)=>V.int .i64 (n:Int))[i]? = some v->∃ x:Nat,l[i]? = some x/\v=V.int .i64 (x:Int):=by
  intro i v hv;rw [ah6] at hv;cases hx:l[i]? with
  | none=>rw [hx] at hv;cases hv
  | some x=>rw [hx] at hv;cases hv;exact ⟨x,rfl,rfl⟩
 generalize (l.map fun (n:Nat)=>V.int .i64 (n:Int))=vs at *;refine M8 Tryz.func103 rfl h_ fun g0 w0 gen g9 hfr=>?_;have e9:∀ r i,h ⟨gen,r,i⟩=none:=o0 hfr;have n8:Tryz.f103.results.toList=[.cell 2 52]:=rfl;have hl0:∀ b,w0.heap.size<=b->g0.lim b=0:=g9.B3;have okF:=cF5 ⟨Tryz.prog,env,Tryz.f103.ntmps,Tryz.f103,g0,w0,h,.agg (aB6 l).cells,h⟩;refine u_ ?_;refine bW0 (vs:=vs) cU7 j_ a_ (ah5 h_) (ah5 h_)
  (fun i hi=>m8 h hi/\hi ⟨gen,0,1⟩=some (.box [.int .i64 0,.int .i64 0,.int .i64 0,.sl .full [],.sl .full []])/\hi ⟨gen,3,1⟩=some (.box (aB6 (l.drop i)).cells))
  (fun _ _=>False) ?_ ?_ ?_ (fun _ _ _ h=>h.elim)
 ·simp only [go_sem, *]
  exact f_
 ·intro xa xb gr i v hi oka okb hgr hlt hv ⟨jA,jb1,jb2⟩ mid fin _
  obtain ⟨x,hx,rfl⟩:=hvg i v hv;have hn:=ee9 x (Q7 hx);have hc:=hcn x (aB6 (l.drop (i+1)));have hd:=cr0 hx;refine o6 oka follows h_ ?_;simp only [go_sem, *];refine mid _ _ ?_;clear mid;refine u_ ?_;exact fin _ _ ⟨by repeat (first|exact jA|refine m8.new ?_ (e9 _ _)),j_,j_⟩
 ·rintro D h' ⟨jA,jb1,jb2⟩
  rw [aQ6] at jb2;have okD:=bM5 ⟨Tryz.prog,env,Tryz.f103.ntmps,Tryz.f103,g0,w0,h,.agg (aB6 l).cells,h⟩ D
  repeat' (first
   |(refine ⟨?_,?_⟩;focus ((repeat' (first|refine ⟨?_,?_⟩|refine .inr ?_));all_goals kernel_rfl))
   |exact agf l_
   | (first|refine A4 ?_|refine o6 okD follows h_ ?_|refine u7 ?_|refine x6 ?_|refine N2 ?_|refine E1 ?_|refine K6 ?_|refine s7 ?_|refine F9 (by decide) ?_|refine C7 ?_|refine E3 ?_|refine spt rfl ?_|refine spf rfl ?_|refine ag4 follows hl0 ?_|refine Y7 g9 ?_ ?_ ?_|refine H3 ?_)<;>try simp only [go_sem, *])
theorem dr9 {a:Ty} {v:PVl} (hv:ao9 a v t):a8 t<=4096->c_ env 103 [.agg v.cells] (.agg t.cells):=by
 induction hv with
 | num n =>
  intro hz h;rw [Y2] at hz;have h1:=aN8 n a_;rw [PVl.r7];generalize G3 n=t at *;refine M8 Tryz.func103 rfl h_ fun g0 w0 gen g9 hfr=>?_;have e9:∀ r i,h ⟨gen,r,i⟩=none:=o0 hfr;have n8:Tryz.f103.results.toList=[.cell 2 52]:=rfl;have okF:=cF5 ⟨Tryz.prog,env,Tryz.f103.ntmps,Tryz.f103,g0,w0,h,.agg t.cells,h⟩
  repeat' (first
   |(refine ⟨?_,?_⟩;focus ((repeat' (first|refine ⟨?_,?_⟩|refine .inr ?_));all_goals kernel_rfl))
   |exact agf l_
   | (first|refine A4 ?_|refine o6 okF follows h_ ?_|refine u7 ?_|refine x6 ?_|refine N2 ?_|refine E1 ?_|refine K6 ?_|refine s7 ?_|refine F9 (by decide) ?_|refine C7 ?_|refine E3 ?_|refine spt rfl ?_|refine spf rfl ?_|refine cp h1 ?_|refine be4 follows ?_|refine Y7 g9 ?_ ?_ ?_|refine H3 ?_)<;>try simp only [go_sem, *])
 | list l=>intro hz;rw [aE6] at hz;exact cY4 l hz
 | unit =>
  intro hz h;have h1:=bk6 13 [];rw [PVl.r7];refine M8 Tryz.func103 rfl h_ fun g0 w0 gen g9 hfr=>?_;have e9:∀ r i,h ⟨gen,r,i⟩=none:=o0 hfr;have n8:Tryz.f103.results.toList=[.cell 2 52]:=rfl;have okF:=cF5 ⟨Tryz.prog,env,Tryz.f103.ntmps,Tryz.f103,g0,w0,h,.agg (tm0 13 []).cells,h⟩
  repeat' (first
   |(refine ⟨?_,?_⟩;focus ((repeat' (first|refine ⟨?_,?_⟩|refine .inr ?_));all_goals kernel_rfl))
   |exact agf l_
   | (first|refine A4 ?_|refine o6 okF follows h_ ?_|refine u7 ?_|refine x6 ?_|refine N2 ?_|refine E1 ?_|refine K6 ?_|refine s7 ?_|refine F9 (by decide) ?_|refine C7 ?_|refine E3 ?_|refine spt rfl ?_|refine spf rfl ?_|refine cp h1 ?_|refine be4 follows ?_|refine Y7 g9 ?_ ?_ ?_|refine H3 ?_)<;>try simp only [go_sem, *])
 | @pair a b x y s t _ _ ih1 ih2 =>
  intro hz h;rw [ad8] at hz;have h1:c_ env 103 [.agg x.cells] (.agg s.cells):=ih1 a_;have h2:c_ env 103 [.agg y.cells] (.agg t.cells):=ih2 a_;have h3:=bk6 10 [s,t];rw [PVl.r7];refine M8 Tryz.func103 rfl h_ fun g0 w0 gen g9 hfr=>?_;have e9:∀ r i,h ⟨gen,r,i⟩=none:=o0 hfr;have n8:Tryz.f103.results.toList=[.cell 2 52]:=rfl;have okF:=cF5 ⟨Tryz.prog,env,Tryz.f103.ntmps,Tryz.f103,g0,w0,h,.agg (tm0 10 [s,t]).cells,h⟩
  repeat' (first
   |(refine ⟨?_,?_⟩;focus ((repeat' (first|refine ⟨?_,?_⟩|refine .inr ?_));all_goals kernel_rfl))
   |exact agf l_
   | (first|refine A4 ?_|refine o6 okF follows h_ ?_|refine u7 ?_|refine x6 ?_|refine N2 ?_|refine E1 ?_|refine K6 ?_|refine s7 ?_|refine F9 (by decide) ?_|refine C7 ?_|refine E3 ?_|refine spt rfl ?_|refine spf rfl ?_|refine cp h1 ?_|refine cp h2 ?_|refine cp h3 ?_|refine be4 follows ?_|refine Y7 g9 ?_ ?_ ?_|refine H3 ?_)<;>try simp only [go_sem, *])
theorem cm5 {a:Ty} {v:PVl} (hv:ao9 a v t) (hz:a8 t<=4096) (ha:TyG a):c_ env 61 [.agg v.cells] (.tup [.agg t.cells,.int .i64 0]):=by
 intro h;have h1:=cY2 hv hz ha;have h2:=cJ3 hv hz;have h3:=dr9 hv hz;have d1:decide ((a8 t:Int)>4096)=false:=by simp;omega
 exact d_ Tryz.func61 [.cell 2 52,.tmp 3]
variable {g:List Ty}
theorem cl8 {l:List PVl} {ts:List Tm} (hs:ah4 g l ts) (hg:g.length<=5000) (hf:Dc g f) (zf:s6 f<=4096) (lim:Nat) (hl:lim<=65536) :
  c_ env 23 [.agg f.cells,.sl .any (l.map PVl.cells),.int .i64 lim] (bg2 (aD1 lim f ts)):=by
 intro h;have h1:=ax1 f (hf.G (u:=true)).toW;rw [(hf.G (u:=true)).am0 zf] at h1;obtain ⟨ll,lt⟩:=hs.len;have h2:∀ (i:Nat) (v:PVl),l[i]? = some v->∃ t:Tm,ts[i]? = some t/\c_ env 61 [.agg v.cells] (.tup [.agg t.cells,.int .i64 0]):=by
  intro i v hv;obtain ⟨a,v',t,_,q2,q3,q4,q5,q6⟩:=hs.at i (by have:=(F2.1 hv).1;omega);rw [hv] at q2;cases q2;exact ⟨t,q3,cm5 q4 q6 q5⟩
 have cp9:∀ (i:Nat) (F:Fm),i<ts.length->Dc (g.take (i+1)) F->s6 F<=4096->∃ t:Tm,ts[i]? = some t/\c_ env 63 [.agg F.cells,.int .i64 0,.agg t.cells] (P6 (ad0 F t)) /\
   ((ad0 F t).2=0->Dc (g.take i) (ad0 F t).1/\s6 (ad0 F t).1<=4096):=by
  intro i F hi hF zF;obtain ⟨a,v,t,q1,q2,q3,q4,q5,q6⟩:=hs.at i a_;rw [dA2 q1] at hF;have hlen:(g.take i).length<=5000:=by simp;omega
  exact ⟨t,q3,ba0 F (hF.G (u:=true)).toW (hF.G (u:=true)) zF (hF.least (by simp at hlen ⊢;omega)) t q4.G.toW q4.G q6 ((q4.ty q5 []).least _ a_ (by simp;omega)),
   fun h0=>bT6 hF q4 q5 q6 a_ zF h0⟩
 have hT:∀ F:Fm,Dc [] F->s6 F<=4096->c_ env 64 [.agg F.cells,.int .i64 lim] (bg2 (dA lim F)):=fun F hF zF=>cl9 hF zF lim hl;have hR0:av3 f (ts.take ts.length).reverse=av3 f ts.reverse:=by rw [L2]
 have hfg:Dc (g.take ts.length) f:=by rw [lt,L2];exact hf
 have hvd:bg2 (aD1 lim f ts)=if (av3 f ts.reverse).2 != 0 then .tup [.bool false,.int .i64 0,.int .i64 (av3 f ts.reverse).2] else bg2 (dA lim (av3 f ts.reverse).1):=by
  unfold aD1;cases hz:((av3 f ts.reverse).2 != 0) with
  | true=>simp only [p7];unfold bg2;rw [B8 hz]
  | false=>simp only [B2,r6]
 rw [hvd];generalize av3 f ts.reverse=R at *;have hin:∀ S,InV S (if R.2 != 0 then V.tup [.bool false,.int .i64 0,.int .i64 R.2] else bg2 (dA lim R.1)):=by
  intro S;unfold bg2
  repeat' split
  all_goals simp [InV,InL]
 have h5:∀ e∈ts.map Tm.cells,e.length=5:=by
  intro e he;obtain ⟨t,_,rfl⟩:=G5.1 he;exact Tm.w9 t
 have hbk:=bk3 (c:=.any) (es:=ts.map Tm.cells);have n0:((0:Int) != 0)=false:=rfl;have en8:l.length<=5000:=by omega
 have en9:l.length<=ts.length/\ts.length<=l.length:=by omega
 clear hvd hf hl ll lt;refine M8 Tryz.func23 rfl h_ fun g0 w0 gen g9 hfr=>?_;have e9:∀ r i,h ⟨gen,r,i⟩=none:=o0 hfr;have n8:Tryz.f23.results.toList=[.cell 6 4,.cell 7 3,.cell 8 44]:=rfl;have hl0:∀ b,w0.heap.size<=b->g0.lim b=0:=g9.B3;refine ae9 ?_;simp only [ag9,W8,aa5,ak0,aj2,aC4,R9,Q3,E0,B7,ae7];refine aj7 (J:=fun σ=>σ.tm 2=.int .i64 lim/\σ.tm 3=.ptr ⟨gen,0,0⟩ 0/\σ.tm 6=.ptr ⟨gen,0,1⟩ 0/\σ.tm 7=.ptr ⟨gen,0,2⟩ 0/\σ.tm 8=.ptr ⟨gen,0,3⟩ 0 /\
  σ.tm 44=.fn (.func 104) [] [.el [.sl .any (ts.map Tm.cells)] 0]/\m8 h σ.h /\
  σ.h ⟨gen,0,0⟩=some (.box f.cells)/\σ.h ⟨gen,0,1⟩=some (.box [.bool false])/\σ.h ⟨gen,0,2⟩=some (.box [.int .i64 0])/\σ.h ⟨gen,0,3⟩=some (.box [.int .i64 0])) [_,_,_,_,_,_,_,_] h_ follows ?_ ?_
 ·simp only [E0,B7,R9,Q3]
  clear cp9 hT hin;have hw5:=ax5 ts;refine e_ ?_;refine k_ [2,3,6,7,8,24] [⟨gen,0,0⟩,⟨gen,0,1⟩,⟨gen,0,2⟩,⟨gen,0,3⟩] (fun i σ=>Q4 h σ.h (σ.tm 10) 5 ((ts.take i).map Tm.cells)) (l) ?_ ?_ ?_
  ·simp only [go_sem, *]
   exact ⟨f_,.inl rfl⟩
  ·
   intro i x σ gr0 o5 hgf l6 l9 m6 hx hxm hm hlt jI jN jT jA j10;obtain ⟨t,ht,hc⟩:=h2 i x hx;have hse:(ts.take (i+1)).map Tm.cells=(ts.take i).map Tm.cells++[t.cells]:=by rw [bC8,ht];simp
   have hel:((ts.take i).map Tm.cells).length=i:=by
    have:=(F2.1 ht).1;simp;omega
   have hal:((ts.take i).map Tm.cells).all (fun e=>e.length==5)=true:=by
    rw [ad2];intro e he;obtain ⟨y,_,rfl⟩:=G5.1 he;simp [Tm.w9]
   generalize (ts.take i).map Tm.cells=es at *;clear h2
   repeat' (first
    |(refine ⟨?_,?_⟩;focus ((repeat' (first|refine ⟨?_,?_⟩|refine .inr ?_));all_goals kernel_rfl))
    |(refine X6 j10 t_ rfl r_ s_ j_ (by intro hd;cases hd) ?_;intro v' h' log' jO jK jAg jAb jF;simp only [go_sem, *])
    | (first|refine wp rfl ?_|refine spt rfl ?_|refine spf rfl ?_|(refine spl (fun hc=>?_) fun hc=>?_)<;>(try rw [L1] at hc)<;>try simp only [hc]|(refine gs (fun hb=>?_) fun hb=>?_)<;>try simp only [E7,M9] at hb|refine cp hc ?_|refine D3 ?_)<;>try simp only [go_sem, *])
   exact jAg (by repeat (first|exact jA|refine m8.new ?_ (l6 _ _)))
  ·
   intro σ ga0 q9 hgf l6 l8 m5 jT jA j10;rw [show l.length=ts.length by omega,L2] at j10;obtain ⟨cO,j10⟩:=j10.val;clear h2
   repeat' (first
    |(refine ⟨?_,?_⟩;focus ((repeat' (first|refine ⟨?_,?_⟩|refine .inr ?_));all_goals kernel_rfl))
    | (first|refine wp rfl ?_|refine spt rfl ?_|refine spf rfl ?_|(refine spl (fun hc=>?_) fun hc=>?_)<;>(try rw [L1] at hc)<;>try simp only [hc]|(refine gs (fun hb=>?_) fun hb=>?_)<;>try simp only [E7,M9] at hb|refine cp bk3 ?_|refine D3 ?_)<;>try simp only [go_sem, *])
 ·rintro σ ⟨j2,j3,j6,j7,j8,j44,jA,jb0,jb1,jb2,jb3⟩
  clear h1 h2 hbk;refine x6 ?_;refine cF7 (vs:=ts.map Tm.cells) cU9 j44 h5 (by simp;omega) (ah5 h_) (ah5 h_)
   (fun i hi=>m8 h hi/\hi ⟨gen,0,1⟩=some (.box [.bool false])/\hi ⟨gen,0,2⟩=some (.box [.int .i64 0])/\hi ⟨gen,0,3⟩=some (.box [.int .i64 0]) /\
    ∃ F:Fm,hi ⟨gen,0,0⟩=some (.box F.cells)/\Dc (g.take i) F/\s6 F<=4096/\av3 F (ts.take i).reverse=R)
   (fun id hi=>id=none/\m8 h hi/\(R.2 != 0)=true/\hi ⟨gen,0,1⟩=some (.box [.bool false])/\hi ⟨gen,0,2⟩=some (.box [.int .i64 0])/\hi ⟨gen,0,3⟩=some (.box [.int .i64 R.2])) ?_ ?_ ?_ ?_
  ·rw [ao2]
   exact ⟨jA,jb1,jb2,jb3,f,jb0,hfg,zf,hR0⟩
  ·
   intro xa xb gr i v hi oka okb hgr hlt hv ⟨jA,jb1,jb2,jb3,F,jb0,hF,zF,hR⟩ mid fin finx;rw [ao2] at hlt;obtain ⟨t,ht,hP,hok⟩:=cp9 i F hlt hF zF;rw [dk2 ht] at hR;rw [ah6,ht] at hv;cases hv;unfold P6 at hP;clear cp9 hT hin hF zF;refine al0 (fun gm hgm=>?_);have hgf:∀ r i,hi ⟨gm,r,i⟩=none:=o0 hgm;have l6:=fun r i=>F3 jA (hgf r i);have hg1:gen<gm:=hgm ⟨gen,0,0⟩ (by simp [jb0]);have e1:=o7 hg1;have e2:=n6 hg1;clear hgm;refine o6 oka follows h_ ?_;simp only [go_sem, *];refine mid _ _ ?_;clear mid;rw [av3] at hR;cases hz:((ad0 F t).2 != 0) with
   | true =>
    rw [hz] at hR;simp only [p7] at hR;subst hR;clear hok fin;replace finx:=fun gn' σ' hh=>finx gn' none σ' ⟨rfl,hh⟩;simp only [ao1] at finx;generalize (ad0 F t).1=F1 at *;generalize (ad0 F t).2=e at *;refine u_ ?_;simp only [hz,p7] at finx;exact H3 (finx _ _ ⟨by repeat (first|exact jA|refine m8.new ?_ (l6 _ _)|refine m8.new ?_ (e9 _ _)),trivial,j_,j_,j_⟩)
   | false =>
    rw [hz] at hR;simp only [B2,r6] at hR;obtain ⟨q1,q2⟩:=hok (by simpa using hz);have hz0:(ad0 F t).2=0:=by simpa using hz
    rw [hz0] at hP;clear hok finx hz hz0;generalize (ad0 F t).1=F1 at *;refine u_ ?_;exact fin _ _ ⟨by repeat (first|exact jA|refine m8.new ?_ (l6 _ _)|refine m8.new ?_ (e9 _ _)),j_,j_,j_,F1,j_,q1,q2,hR⟩
  ·rintro D h' ⟨jA,jb1,jb2,jb3,F,jb0,hF,zF,hR⟩
   have hFT:=hT F (by simpa using hF) zF;simp only [List.take_zero,List.reverse_nil,av3] at hR;clear hR0 hin hfg cp9 hT hF zF;subst hR;have n0:((0:Int) != 0)=false:=rfl;simp only [n0,B2,r6];have okD:=bM5 ⟨Tryz.prog,env,Tryz.f23.ntmps,Tryz.f23,g0,w0,h,bg2 (dA lim F),h⟩ D;unfold bg2 at *;generalize dA lim F=a at *;obtain ⟨b,w',e⟩:=a;simp only at *;cases he:(e != 0) with
   | true =>
    simp only [he,p7] at *
    repeat' (first
     |(refine ⟨?_,?_⟩;focus ((repeat' (first|refine ⟨?_,?_⟩|refine .inr ?_));all_goals kernel_rfl))
     |exact agf l_
     | (first|refine A4 ?_|refine o6 okD follows h_ ?_|refine u7 ?_|refine x6 ?_|refine N2 ?_|refine E1 ?_|refine K6 ?_|refine s7 ?_|refine F9 (by decide) ?_|refine C7 ?_|refine E3 ?_|refine spt rfl ?_|refine spf rfl ?_|refine cp hFT ?_|refine ag4 follows hl0 ?_|refine Y7 g9 ?_ ?_ ?_|refine H3 ?_)<;>try simp only [go_sem, *])
   | false =>
    simp only [he,B2,r6] at *
    repeat' (first
     |(refine ⟨?_,?_⟩;focus ((repeat' (first|refine ⟨?_,?_⟩|refine .inr ?_));all_goals kernel_rfl))
     |exact agf l_
     | (first|refine A4 ?_|refine o6 okD follows h_ ?_|refine u7 ?_|refine x6 ?_|refine N2 ?_|refine E1 ?_|refine K6 ?_|refine s7 ?_|refine F9 (by decide) ?_|refine C7 ?_|refine E3 ?_|refine spt rfl ?_|refine spf rfl ?_|refine cp hFT ?_|refine ag4 follows hl0 ?_|refine Y7 g9 ?_ ?_ ?_|refine H3 ?_)<;>try simp only [go_sem, *])
  ·rintro D id' h' ⟨rfl,jA,hz,jb1,jb2,jb3⟩
   simp only [ao1];rw [B8 hz];have okD:=bM5 ⟨Tryz.prog,env,Tryz.f23.ntmps,Tryz.f23,g0,w0,h,.tup [.bool false,.int .i64 0,.int .i64 R.2],h⟩ D;clear cp9 hT hin hz hR0 hfg;generalize R.2=e at *
   repeat' (first
    |(refine ⟨?_,?_⟩;focus ((repeat' (first|refine ⟨?_,?_⟩|refine .inr ?_));all_goals kernel_rfl))
    |exact agf l_
    | (first|refine A4 ?_|refine o6 okD follows h_ ?_|refine u7 ?_|refine x6 ?_|refine N2 ?_|refine E1 ?_|refine K6 ?_|refine s7 ?_|refine F9 (by decide) ?_|refine C7 ?_|refine E3 ?_|refine spt rfl ?_|refine spf rfl ?_|refine ag4 follows hl0 ?_|refine Y7 g9 ?_ ?_ ?_|refine H3 ?_)<;>try simp only [go_sem, *])
theorem cN1 (b m:Nat) (wB:A7 B=B) (hB:∀ S,S8 S B):Iter Tryz.prog env (bh6 B [] b m) [[.sl .any B]]:=by
 unfold bh6;refine ab3 Tryz.func58 rfl h_ fun C g0 w0 h gen hC O4 bh2 M4 S9 hbd=>?_;have hy:=bo2 (c:=⟨Tryz.prog,env,Tryz.f58.ntmps,Tryz.f58,g0,w0,h,.undef,h⟩) (R:=ai2 env C 1 g0 w0 h) (fun l hl=>aA3 (hC.lo l hl) hbd);have hx:∀ i hs,XOk Tryz.prog ((yI ⟨Tryz.prog,env,Tryz.f58.ntmps,Tryz.f58,g0,w0,h,.undef,h⟩ C (ai2 env C 1 g0 w0 h)).at (fun g w=>C.Y i g w hs)):=fun i hs=>hy.x (hC.xY hbd i hs);have e9:∀ r i,h ⟨gen,r,i⟩=none:=o0 bh2;have hv:([[V.sl .any B]]:List (List V))[0]? = some [V.sl .any B]:=rfl;have z:(((0:Nat):Int)==0)=true:=rfl;have hnb:∀ id,h id≠none->id≠⟨gen,0,0⟩:=fun id hid e=>hid (by rw [e];exact e9 0 0);have nS:¬ C.S ⟨gen,0,0⟩:=fun hs=>O4 _ (hC.sub _ hs) (e9 0 0)
 repeat' (first|(first|refine A4 ?_|refine u7 ?_|refine spt rfl ?_|refine ao4 hy M4 hC (fun b hb=>hb) hbd hv h_ 2 rfl rfl rfl rfl rfl ?_|refine o6 (hx _ _) follows h_ ?_)<;>try simp only [go_sem, *])
 refine ⟨fun id hid=>y9 (hnb id (O4 id hid)),fun h' hh=>?_⟩;have hs:∀ id,¬ C.S id->h id≠none->h' id=h id:=fun id q1 q2=>by
  have e:=m7 (h:=h) (o:=.box [.fn (.yield C.l) [] []]) (hnb id q2);have:=hh id q1 (by simp only [p8] at e;simp only [p8,y9 (hnb id q2)];exact q2);rw [this];simp only [p8,y9 (hnb id q2)]
 refine ⟨?_,?_⟩
 ·simp only [go_sem, *]
  refine K6 (H3 ?_);exact al1 (vs:=[[.sl .any B]]) (.inl rfl) rfl M4 (fun g w hY=>.inl hY) hs
 ·simp only [go_sem, *]
  refine K6 (H3 ?_);exact al1 (vs:=[[.sl .any B]]) (.inl rfl) rfl M4 (fun g w hZ=>.inr hZ) hs
theorem ac7 {R:PVl->List (List V)} {n:Nat}:∀ A:List PVl,(∀ v∈A,(R v).length=n)->(A.flatMap R).length=A.length * n
 | [],_=>by simp
 | a::A,h=>by rw [List.flatMap_cons,F8,h a b_,ac7 A (fun v hv=>h v (by simp [hv])),J1,bC5,Nat.add_comm]
variable {t:Ty}
theorem cN2 {T:List (List V)} (b m n:Nat) {A:List PVl} {R:PVl->List (List V)} (hA:Iter Tryz.prog env (.fn (.func 98) [] [.el [.int .i64 m] 0,.el t.cells 0,.el [.int .i64 b] 0]) (rows A))
  (hB:∀ v∈A,Iter Tryz.prog env (bh6 (B++[v.cells]) T b m) (R v)) (hR:∀ v∈A,(R v).length=n) (hR1:∀ v∈A,∀ r∈R v,∃ r0,A7 r0=r0/\r=[.sl .any r0])
  (pl:∀ v∈A,c_ env 22 [.sl .any (B++[v.cells]),.sl .any T,.int .i64 b,.int .i64 m] (bh6 (B++[v.cells]) T b m))
  (hBl:B.length<=5000) (hB4:B.all (fun e=>e.length==4)=true) (wB:A7 B=B) (iB:∀ S,S8 S B) (hT2:T.all (fun e=>e.length==2)=true) (wT:A7 T=T) (iT:∀ S,S8 S T) (hv4:∀ v∈A,v.cells.all am9=true) :
  Iter Tryz.prog env (bh6 B (t.cells::T) b m) (A.flatMap R):=by
 unfold bh6;refine ab3 Tryz.func58 rfl h_ fun C g0 w0 h gen hC O4 bh2 M4 S9 hbd=>?_;have hy:=bo2 (c:=⟨Tryz.prog,env,Tryz.f58.ntmps,Tryz.f58,g0,w0,h,.undef,h⟩) (R:=ai2 env C (A.flatMap R).length g0 w0 h) (fun l hl=>aA3 (hC.lo l hl) hbd);have hx:∀ i hs,XOk Tryz.prog ((yI ⟨Tryz.prog,env,Tryz.f58.ntmps,Tryz.f58,g0,w0,h,.undef,h⟩ C (ai2 env C (A.flatMap R).length g0 w0 h)).at (fun g w=>C.Y i g w hs)):=fun i hs=>hy.x (hC.xY hbd i hs);have e9:∀ r i,h ⟨gen,r,i⟩=none:=o0 bh2;have pa:=dr1 t b m;have z:∀ k:Nat,(((k+1:Nat):Int)==0)=false:=fun k=>by simp;omega
 have z0:(0:Int).toNat=0:=rfl
 repeat' (first|(refine ⟨?_,?_⟩;focus ((repeat' (first|refine ⟨?_,?_⟩|refine .inr ?_));all_goals kernel_rfl))|(first|refine A4 ?_|refine u7 ?_|refine spf rfl ?_|refine cp pa ?_|refine E1 ?_|refine o6 (hx _ _) follows h_ ?_|refine x6 ?_)<;>try simp only [go_sem, *,J1])
 have hvA:∀ (i:Nat) (vv:List V),(rows A)[i]? = some vv->∃ v,A[i]? = some v/\vv=[.agg v.cells]:=by
  intro i vv hh;unfold rows at hh;rw [ah6] at hh;cases hv:A[i]? with
  | none=>rw [hv] at hh;simp at hh
  | some v=>rw [hv] at hh;simp at hh;exact ⟨v,rfl,hh.symm⟩
 have hw1:∀ vv∈rows A,vv.length=1:=by intro vv hh;unfold rows at hh;obtain ⟨v,_,rfl⟩:=G5.1 hh;rfl
 have hnb:∀ id,C.base id->id≠⟨gen,0,0⟩:=fun id hid e=>O4 id hid (by rw [e];exact e9 0 0);have hb0:∀ id,C.base id->p8 h ⟨gen,0,0⟩ (.box [.fn (.yield C.l) [] []]) id=h id:=fun id hid=>m7 (hnb id hid);have hnh:∀ id,h id≠none->id≠⟨gen,0,0⟩:=fun id hid e=>hid (by rw [e];exact e9 0 0);refine aD3 hy (ps:=[20]) (vs:=rows A) (by intro p hp;simp at hp;subst hp;exact ah5 h_) hw1 C.S (fun id hid=>by
   simp only;rw [m7 (hnb id (hC.sub id hid))];exact O4 id (hC.sub id hid))
  (fun m X hh=>∃ hs,X=(fun g w=>C.Y (m * n) g w hs)/\(∀ id,C.base id->hh id=hs id)/\hh ⟨gen,0,0⟩=some (.box [.fn (.yield C.l) [] []])/\∀ id,¬ C.S id->h id≠none->hh id=h id)
  (fun id X hh=>id=none/\∃ hs,X=(fun g w=>C.Z g w hs)/\(∀ id,C.base id->hh id=hs id)/\∀ id,¬ C.S id->h id≠none->hh id=h id)
  (by rintro i X hh ⟨hs,rfl,_⟩;exact hC.xY hbd _ _) (by rintro i X hh ⟨_,hs,rfl,_⟩;exact hC.xZ hbd _)
  (by
   rintro i X h1 h2 e ⟨hs,rfl,j1,j2,j3⟩;have hk:∀ id,h id≠none->h2 id=h1 id:=fun id hid=>e id (by simp only;rw [m7 (hnh id hid)];exact hid);exact ⟨hs,rfl,fun id hid=>(hk id (O4 id hid)).trans (j1 id hid),(e _ (by simp only [A1,E8,reduceCtorEq,H9])).trans j2,fun id q1 q2=>(hk id q2).trans (j3 id q1 q2)⟩)
  (by
   rintro i X h1 h2 e ⟨h0,hs,rfl,j1,j3⟩;have hk:∀ id,h id≠none->h2 id=h1 id:=fun id hid=>e id (by simp only;rw [m7 (hnh id hid)];exact hid);exact ⟨h0,hs,rfl,fun id hid=>(hk id (O4 id hid)).trans (j1 id hid),fun id q1 q2=>(hk id q2).trans (j3 id q1 q2)⟩)
  S9 ?_ j_ ⟨h,by rw [Nat.zero_mul],hb0,A1,fun id _ q2=>m7 (hnh id q2)⟩ rfl rfl ?_ ?_
 ·
  rintro ya yb gn i vv hi X oa ob ⟨l,f1,f2,f3⟩ d1 d2 lo1 lo2 hXS cc7 cc8 hgn hvv ⟨hs,rfl,jb,jx,js⟩ hnn toB fin finx;obtain ⟨v,hv,rfl⟩:=hvA i vv hvv;have hvm:v∈A:=Q7 hv;have pb:=pl v hvm;have itB:=hB v hvm;have v4:=hv4 v hvm;have wBv:A7 (B++[v.cells])=B++[v.cells]:=by
   have:=aj6 [v];simp only [E0,B7] at this;rw [cw0,wB,this]
  have xa:∀ m hs,XOk Tryz.prog (ya.at (fun g w=>C.Y m g w hs)):=fun m hs=>oa.x (bd:=C.bd) (hC.xY (w7 _) m hs);have xb:∀ m hs,XOk Tryz.prog (yb.at (fun g w=>C.Y m g w hs)):=fun m hs=>ob.x (bd:=C.bd) (hC.xY (w7 _) m hs);have hbb:C.bd<=yb.bd:=S1 hbd (by rw [<- cc7];exact cc8);refine al0 (fun gm hgm=>?_);have hf:∀ r i,hi ⟨gm,r,i⟩=none:=o0 hgm;have hne:∀ id,hi id≠none->∀ r i,id≠⟨gm,r,i⟩:=fun id hid r i e=>hid (by rw [e];exact hf r i);have hbi:∀ id,C.base id->hi id≠none:=fun id hid=>by
   rw [jb id hid];have:=hnn id (by simp only;rw [m7 (hnb id hid)];exact O4 id hid);rw [jb id hid] at this;exact this
  have g4:((⟨gen,0,0⟩:GoAbs.Id)=⟨gm,4,0⟩)=False:=an5 (hne ⟨gen,0,0⟩ (by rw [jx];simp) 4 0);have g5:((⟨gen,0,0⟩:GoAbs.Id)=⟨gm,5,8⟩)=False:=an5 (hne ⟨gen,0,0⟩ (by rw [jx];simp) 5 8);have l1:B.length+1<=140737488355328:=by omega
  have l2:(B.length+1) * 64<=140737488355328:=by omega
  clear hnn hvv hx hA hB pl hv4;simp only [aQ3]
  repeat' (first|(first|refine o6 (xa _ _) follows h_ ?_)<;>try simp only [go_sem, *])
  refine toB _ _ gm hXS ?_;clear toB
  repeat' (first|(refine ⟨?_,?_⟩;focus ((repeat' (first|refine ⟨?_,?_⟩|refine .inr ?_));all_goals kernel_rfl))|(first|refine A4 ?_|refine cp pb ?_|refine o6 (xb _ _) follows h_ ?_|refine x6 ?_)<;>try simp only [go_sem, *,J1,cx0,L2,bV2,aQ6,bo9,Option.map_none,aA4])
  have hk0:∀ id,hi id≠none->p8 (p8 hi ⟨gm,4,0⟩ (.box v.cells)) ⟨gm,5,8⟩ (.tok (B.length+1) 4) id=hi id:=fun id hid=>by
   rw [m7 (hne id hid 5 8),m7 (hne id hid 4 0)]
  have itB':∀ (i:Nat) (vv:List V),(R v)[i]? = some vv->∃ r0,A7 r0=r0/\vv=[.sl .any r0]:=fun i vv hh=>hR1 v hvm vv (Q7 hh);have hn:(R v).length=n:=hR v hvm;refine bF3 ob (ps:=[35]) (vs:=R v) (by intro p hp;simp at hp;subst hp;exact ah5 h_) (fun vv hh=>by obtain ⟨r0,_,rfl⟩:=hR1 v hvm vv hh;rfl) C.S (fun id hid=>by
    simp only;rw [hk0 id (hbi id (hC.sub id hid))];exact hbi id (hC.sub id hid))
   (fun m X hh=>∃ hs,X=(fun g w=>C.Y (i * n+m) g w hs)/\(∀ id,C.base id->hh id=hs id)/\hh ⟨gen,0,0⟩=some (.box [.fn (.yield C.l) [] []])/\∀ id,¬ C.S id->hi id≠none->hh id=hi id)
   (fun id X hh=>id=none/\∃ hs,X=(fun g w=>C.Z g w hs)/\(∀ id,C.base id->hh id=hs id)/\∀ id,¬ C.S id->hi id≠none->hh id=hi id)
   (by rintro i X hh ⟨hs,rfl,_⟩;exact hC.xY hbb _ _) (by rintro i X hh ⟨_,hs,rfl,_⟩;exact hC.xZ hbb _)
   (by
    rintro m X h1 h2 e ⟨hs,rfl,k1,k2,k3⟩;have hk:∀ id,hi id≠none->h2 id=h1 id:=fun id hid=>e id (by simp only;rw [hk0 id hid];exact hid);exact ⟨hs,rfl,fun id hid=>(hk id (hbi id hid)).trans (k1 id hid),(hk _ (by rw [jx];simp)).trans k2,fun id q1 q2=>(hk id q2).trans (k3 id q1 q2)⟩)
   (by
    rintro m X h1 h2 e ⟨h0,hs,rfl,k1,k3⟩;have hk:∀ id,hi id≠none->h2 id=h1 id:=fun id hid=>e id (by simp only;rw [hk0 id hid];exact hid);exact ⟨h0,hs,rfl,fun id hid=>(hk id (hbi id hid)).trans (k1 id hid),fun id q1 q2=>(hk id q2).trans (k3 id q1 q2)⟩)
   S9 ?_ j_ ⟨hs,by rw [aQ8],fun id hid=>(hk0 id (hbi id hid)).trans (jb id hid),(hk0 _ (by rw [jx];simp)).trans jx,fun id _ q2=>hk0 id q2⟩
   (l0:=l) (by rw [f2];rfl) f3 d2 ?_ ?_
  ·
   rintro ya' yb' gn' m' vv' hj X' oa' ob' ⟨l',f1',f2',f3'⟩ d1' d2' lo1' lo2' dL8 dd1 dd2 ee4 cN0 ⟨hs',rfl,kb,kx,ks⟩ dv2 toB' fin' finx';obtain ⟨r0,w0',rfl⟩:=itB' m' vv' cN0;have hvP:(A.flatMap R)[i * n+m']? = some [V.sl .any r0]:=ba9 R n A hR i m' v _ hv cN0;have xa':∀ m hs,XOk Tryz.prog (ya'.at (fun g w=>C.Y m g w hs)):=fun m hs=>oa'.x (bd:=C.bd) (hC.xY (w7 _) m hs);have xb':∀ m hs,XOk Tryz.prog (yb'.at (fun g w=>C.Y m g w hs)):=fun m hs=>ob'.x (bd:=C.bd) (hC.xY (w7 _) m hs);have dM1:C.bd<=yb'.bd:=S1 hbb (by rw [<- dd1];exact dd2);clear dv2 cN0 itB pb;simp only [aQ3]
   repeat' (first|(first|refine o6 (xa' _ _) follows h_ ?_)<;>try simp only [go_sem, *])
   refine toB' _ _ gn' dL8 ?_;clear toB';have nS:∀ id,(h id=none)->¬ C.S id:=fun id hid hs=>O4 id (hC.sub id hs) hid
   repeat' (first|(first|refine A4 ?_|refine ao4 ob' M4 hC (fun b hb=>by rw [lo2',lo2];exact hb) dM1 hvP h_ 2 rfl rfl rfl rfl rfl ?_|refine o6 (xb' _ _) follows h_ ?_|refine x6 ?_)<;>try simp only [go_sem, *])
   refine ⟨kb,fun h' hh0=>?_⟩;have hh1:∀ id,¬ C.S id->hj id≠none->h' id=hj id:=hh0;clear hh0;have n0:¬ C.S ⟨gen,0,0⟩:=nS _ (e9 0 0);have k0:=(hh1 _ n0 (by rw [kx];simp)).trans kx;refine ⟨?_,?_⟩
   ·simp only [go_sem, *]
    repeat' (first|(first|refine A4 ?_|refine u7 ?_|refine E1 ?_|refine spf rfl ?_|refine s7 ?_)<;>try simp only [go_sem, *])
    refine fin' _ _ _ ⟨h',rfl,fun _ _=>rfl,k0,fun id q1 q2=>?_⟩ hh1;exact (hh1 id q1 (by rw [ks id q1 q2];exact q2)).trans (ks id q1 q2)
   ·simp only [go_sem, *]
    repeat' (first|(first|refine u7 ?_|refine spt rfl ?_|refine K6 ?_)<;>try simp only [go_sem, *])
    refine H3 ?_;exact finx' _ _ none _ ⟨rfl,h',rfl,fun _ _=>rfl,fun id q1 q2=>(hh1 id q1 (by rw [ks id q1 q2];exact q2)).trans (ks id q1 q2)⟩ hh1
  ·rintro X' h' ⟨hs',rfl,kb,kx,ks⟩ ak2
   refine s7 (s7 ?_);refine fin _ _ _ ⟨hs',?_,kb,kx,fun id q1 q2=>?_⟩ (fun id q1 q2=>ks id q1 q2)
   ·rw [hn,bC5]
   ·exact (ks id q1 (by rw [js id q1 q2];exact q2)).trans (js id q1 q2)
  ·rintro id X' h' ⟨rfl,hs',rfl,kb,ks⟩ ak2
   refine H3 ?_;exact finx _ _ none _ ⟨rfl,hs',rfl,kb,fun id q1 q2=>(ks id q1 (by rw [js id q1 q2];exact q2)).trans (js id q1 q2)⟩ (fun id q1 q2=>ks id q1 q2)
 ·rintro D X' h' hD ok ⟨hs,rfl,jb,jx,js⟩ ak2
  refine s7 ?_;refine ao3 hC (.inr rfl) rfl M4 S9 hbd hD (fun g w hY=>.inl ?_) js;rw [ac7 A hR];rw [an0] at hY;exact hC.Yh _ _ _ _ _ jb hY
 ·rintro D id X' h' hD ok ⟨rfl,hs,rfl,jb,js⟩ ak2
  refine H3 ?_;exact ao3 hC (.inl rfl) rfl M4 S9 hbd hD (fun g w hZ=>.inr (hC.Zh _ _ _ _ jb hZ)) js
theorem bx5 {b m:Nat} (hb:b<=65536) (hm:m<=65536):∀ (ts:List Ty) (bs:List PVl),(∀ t∈ts,PlT t)->bs.length+ts.length<=5000 ->
  Iter Tryz.prog env (bh6 (bs.map PVl.cells) (ts.map Ty.cells) b m) (aF1 bs (lns (fun t=>(ac3 b t).take m) ts))
 | [],bs,_,_=>by
  rw [cP2];exact cN1 b m (aj6 bs) (fun S=>by simp only [go_sem, *])
 | t::ts,bs,ht,hl=>by
  rw [ct4];simp only [J1] at hl;have ih:=fun v=>bx5 hb hm ts (bs++[v]) (fun t q=>ht t (by simp [q])) (by simp only [F8,J1,S0];omega);simp only [U0,E0,B7] at ih;have dW9:∀ v:PVl,A7 (bs.map PVl.cells++[v.cells])=bs.map PVl.cells++[v.cells]:=fun v=>by
   have:=aj6 (bs++[v]);simpa only [U0,E0,B7] using this
  refine cN2 (R:=fun v=>aF1 (bs++[v]) (lns (fun t=>(ac3 b t).take m) ts)) b m (lns (fun t=>(ac3 b t).take m) ts).length (df3 hm (cN3 b hb (ht t b_)) (bv2 t b)) (fun v _=>ih v) (fun v _=>bK8 _ _) ?_ (fun v _=>bP5 b m ?_ ?_ (dW9 v) (F4 ts)) (by simp;omega) ?_ (aj6 bs) ?_ ?_ (F4 ts) ?_ ?_
  ·intro v _ r hr
   unfold aF1 at hr;obtain ⟨l,_,rfl⟩:=G5.1 hr;exact ⟨_,aj6 _,rfl⟩
  ·exact fun S=>by
    have e:bs.map PVl.cells++[v.cells]=(bs++[v]).map PVl.cells:=by simp
    rw [e];simp only [go_sem, *]
  ·exact fun S=>by simp only [go_sem, *]
  ·simp only [go_sem, *]
  ·exact fun S=>by simp only [go_sem, *]
  ·simp only [go_sem, *]
  ·exact fun S=>by simp only [go_sem, *]
  ·exact fun v _=>by rw [PVl.l4];rfl
theorem ds0 {w:Int} (h0:0<=w) (h1:w<=65536):c_ env 21 [.int .i64 w] (.bool true):=by
 intro h;have d0:decide (w>=0)=true:=by simp;omega
 have d1:decide (w<=65536)=true:=by simp;omega
 clear h0 h1;exact d_ Tryz.func21 [.tmp 2]
def cb1 (r:Option (List PVl) × Int):V :=
 .tup [.sl .any ((r.1.getD []).map PVl.cells),.bool r.1.isSome,.int .i64 r.2]
structure dB7 (b:Fm) (H:List PVl->Nat->Ans) (l:List PVl):Prop where
 len:l.length<=5000
 holds:∀ w:Nat,w<=65536->c_ env 23 [.agg b.cells,.sl .any (l.map PVl.cells),.int .i64 w] (bg2 (H l w))
 used:∀ w:Nat,(H l w).2.2=0->(H l w).2.1<=w
 own:∀ v∈l,c_ env 24 [.agg v.cells] (.agg v.cells)
theorem cW2 {bd:Nat} {H:List PVl->Nat->Ans} {L:List (List PVl)} (hC:c_ env 19 [.agg f.cells] (.tup [.agg (aX3 ts b),.int .i64 0]))
  (hL:∀ t∈ts,c_ env 20 [.agg t.cells,.int .i64 bd,.int .i64 m] (.int .i64 0)) (hts:ts.length<=5000) (hw:w<=65536)
  (hlc:c_ env 22 [.sl .any [],.sl .any (ts.map Ty.cells),.int .i64 bd,.int .i64 m] (bh6 [] (ts.map Ty.cells) bd m))
  (hI:Iter Tryz.prog env (bh6 [] (ts.map Ty.cells) bd m) (aF1 [] L)) (hT:∀ l∈L,dB7 b H l) :
  c_ env 8 [.agg f.cells,.int .i64 bd,.int .i64 m,.int .i64 w] (cb1 (aO7 H L w)):=by
 intro h;have n0:((0:Int) != 0)=false:=rfl;have hM:=ds0 (w:=(w:Int)) a_ a_;obtain ⟨lV,hlV⟩:∃ lV,lV=bh6 [] (ts.map Ty.cells) bd m:=⟨_,rfl⟩;have iV:∀ S,InV S lV:=fun S=>by
  rw [hlV];unfold bh6;simp only [go_sem, *]
 unfold aX3 at hC;rw [<- hlV] at hlc hI;rw [Fm.l4 b] at hC;obtain ⟨v,hv⟩:∃ v,cb1 (aO7 H L w)=v:=⟨_,rfl⟩;rw [hv];refine M8 Tryz.func8 rfl h_ fun g0 w0 gen g9 hfr=>?_;have e9:∀ r i,h ⟨gen,r,i⟩=none:=o0 hfr;have n8:Tryz.f8.results.toList=[.cell 8 43,.cell 9 4,.cell 10 44]:=rfl;have hl0:∀ b,w0.heap.size<=b->g0.lim b=0:=g9.B3;refine ae9 ?_;simp only [ag9,W8,aa5,ak0,aj2,aC4,R9,Q3,E0,B7,ae7];refine aj7 (J:=fun σ=>σ.tm 7=.ptr ⟨gen,0,1⟩ 0/\σ.tm 8=.ptr ⟨gen,0,2⟩ 0/\σ.tm 9=.ptr ⟨gen,0,3⟩ 0/\σ.tm 10=.ptr ⟨gen,0,4⟩ 0/\σ.tm 11=.ptr ⟨gen,1,5⟩ 0/\σ.tm 53=lV/\m8 h σ.h /\
  σ.h ⟨gen,0,1⟩=some (.box [.int .i64 w])/\σ.h ⟨gen,0,2⟩=some (.box [.sl .full []])/\σ.h ⟨gen,0,3⟩=some (.box [.bool false])/\σ.h ⟨gen,0,4⟩=some (.box [.int .i64 0]) /\
  σ.h ⟨gen,1,5⟩=some (.box (.sl .any (ts.map Ty.cells)::b.cells))) [_,_,_,_,_,_,_,_,_] h_ follows ?_ ?_
 ·simp only [E0,B7,R9,Q3]
  rw [Fm.l4 b];clear hI hT hlV;have hwT:A7 (ts.map Ty.cells)=ts.map Ty.cells:=F4 ts;refine e_ ?_;refine k_ [1,2,7,8,9,10,11,32] [⟨gen,0,1⟩,⟨gen,0,2⟩,⟨gen,0,3⟩,⟨gen,0,4⟩,⟨gen,1,5⟩] (fun i σ=>True) (ts) ?_ ?_ ?_
  ·simp only [go_sem, *]
   first|exact f_|exact ⟨f_,trivial⟩
  ·
   intro i x σ gr0 o5 hgf l6 l9 m6 hx hxm hm hlt jI jN jT jA _;have hl:=hL x hxm;clear hL
   first|refine e_ ?_|exact i_
   all_goals first|exact f_|exact ⟨f_,trivial⟩|skip
  ·
   intro σ ga0 q9 hgf l6 l8 m5 jT jA _;clear hL;exact x_
   all_goals first|exact f_|skip
 ·rintro σ ⟨j7,j8,j9,j10,j11,j53,jA,jb1,jb2,jb3,jb4,jb5⟩
  clear hC hL hM hlc hts;refine cR7 ?_;refine x6 ?_;refine aD3 (dl6 _) (ps:=[54]) (vs:=aF1 [] L) (by intro p hp;simp at hp;subst hp;exact ah5 h_) (fun v hh=>by obtain ⟨l,_,rfl⟩:=G5.1 hh;rfl)
   (fun id=>id=⟨gen,0,1⟩\/id=⟨gen,0,2⟩\/id=⟨gen,0,3⟩\/id=⟨gen,0,4⟩) (by rintro id (rfl|rfl|rfl|rfl)<;>simp [jb1,jb2,jb3,jb4])
   (fun i X hh=>X=xT/\m8 h hh/\hh ⟨gen,0,2⟩=some (.box [.sl .full []])/\hh ⟨gen,0,3⟩=some (.box [.bool false])/\hh ⟨gen,0,4⟩=some (.box [.int .i64 0]) /\
    hh ⟨gen,1,5⟩=some (.box (.sl .any (ts.map Ty.cells)::b.cells))/\∃ w':Nat,w'<=65536/\hh ⟨gen,0,1⟩=some (.box [.int .i64 w'])/\aO7 H (L.drop i) w'=aO7 H L w)
   (fun id X hh=>id=none/\X=xT/\m8 h hh/\∃ cc rs bo e,hh ⟨gen,0,2⟩=some (.box [.sl cc rs])/\hh ⟨gen,0,3⟩=some (.box [.bool bo])/\hh ⟨gen,0,4⟩=some (.box [.int .i64 e]) /\
    A7 rs=rs/\(∀ S,S8 S rs)/\v=.tup [.sl .any rs,.bool bo,.int .i64 e])
   (by rintro i X hh ⟨rfl,_⟩;exact bo1) (by rintro i X hh ⟨_,rfl,_⟩;exact bo1)
   (by
    rintro i X h1 h2 e ⟨q0,q1,q2,q3,q4,q5,w',q6,q7,q8⟩;exact ⟨q0,fun id hid=>(e id (by rw [jA id hid];exact hid)).trans (q1 id hid),(e _ (by rw [jb2];simp)).trans q2,(e _ (by rw [jb3];simp)).trans q3,(e _ (by rw [jb4];simp)).trans q4,
     (e _ (by rw [jb5];simp)).trans q5,w',q6,(e _ (by rw [jb1];simp)).trans q7,q8⟩)
   (by
    rintro i X h1 h2 e ⟨q0,q00,q1,cc,rs,bo,er,q2,q3,q4,q5⟩;exact ⟨q0,q00,fun id hid=>(e id (by rw [jA id hid];exact hid)).trans (q1 id hid),cc,rs,bo,er,(e _ (by rw [jb2];simp)).trans q2,(e _ (by rw [jb3];simp)).trans q3,(e _ (by rw [jb4];simp)).trans q4,q5⟩)
   hl0 ?_ (by rw [j53];exact hI) ⟨rfl,jA,jb2,jb3,jb4,jb5,w,hw,jb1,by rw [aQ6]⟩ rfl rfl ?_ ?_
  ·
   clear jb1 jb2 jb3 jb4 jb5 jA hI;rintro ya yb gn i vv hi X oa ob ⟨lp,f1,f2,f3⟩ d1 d2 lo1 lo2 hXS cc7 cc8 hgn hvv ⟨rfl,jA,jb2,jb3,jb4,jb5,w',hw',jb1,hF⟩ hnn toB fin finx;obtain ⟨l,hl,rfl⟩:∃ l,L[i]? = some l/\vv=[V.sl .any (l.map PVl.cells)]:=by
    unfold aF1 at hvv;rw [ah6] at hvv;cases hv:L[i]? with
    | none=>rw [hv] at hvv;simp at hvv
    | some l=>rw [hv] at hvv;simp at hvv;exact ⟨l,rfl,hvv.symm⟩
   obtain ⟨q1,q2,q3,q4⟩:=hT l (Q7 hl);have hh:=q2 w' hw';have hu:=q3 w';have hil:i<L.length:=(F2.1 hl).1;have hdr:L.drop i=l::L.drop (i+1):=by
    rw [bN1 hil];congr 1;exact (F2.1 hl).2
   rw [hdr,aO7] at hF;have hwl:A7 (l.map PVl.cells)=l.map PVl.cells:=aj6 l;refine al0 (fun gm hgm=>?_);have hgf:∀ r i,hi ⟨gm,r,i⟩=none:=o0 hgm;have l6:=fun r i=>F3 jA (hgf r i);have hg1:gen<gm:=hgm ⟨gen,0,1⟩ (by simp [jb1]);have e1:=o7 hg1;have e2:=n6 hg1;have xa:XOk Tryz.prog (ya.at xT):=oa.x hXS;have xb:XOk Tryz.prog (yb.at xT):=ob.x hXS;have nI:∀ id:GoAbs.Id,¬ (id=⟨gen,0,1⟩\/id=⟨gen,0,2⟩\/id=⟨gen,0,3⟩\/id=⟨gen,0,4⟩)->(id=⟨gen,0,1⟩)=False/\(id=⟨gen,0,2⟩)=False/\(id=⟨gen,0,3⟩)=False/\(id=⟨gen,0,4⟩)=False :=
    fun id hid=>⟨an5 fun e=>hid (.inl e),an5 fun e=>hid (.inr (.inl e)),an5 fun e=>hid (.inr (.inr (.inl e))),an5 fun e=>hid (.inr (.inr (.inr e)))⟩
   rw [Fm.l4 b] at hh jb5 fin;clear hgm hnn hvv hT q2 q3 hdr hil;simp only [aQ3];refine o6 xa follows h_ ?_;simp only [go_sem, *];refine toB _ _ gm hXS ?_;clear toB;unfold bg2 at hh;generalize H l w'=a at hh hu hF;obtain ⟨bo,u,e⟩:=a;simp only at hh hu hF;cases he:(e != 0) with
   | true =>
    simp only [he,p7] at hh hF;clear fin hu q4;refine u_ ?_;refine H3 (finx _ gm none _ ⟨rfl,rfl,?_,.full,[],false,e,?_,?_,?_,rfl,(fun S=>by simp [S8]),?_⟩ fun id hid q=>?_)
    ·repeat (first|exact jA|refine m8.new ?_ (e9 _ _))
    ·simp only [go_sem, *]
    ·simp only [go_sem, *]
    ·simp only [go_sem, *]
    ·rw [<- hv,<- hF];rfl
    ·obtain ⟨m1,m2,m3,m4⟩:=nI id hid
     simp only [p8,m1,m2,m3,m4,r6]
   | false =>
    simp only [he,B2,r6] at hh hF;have hu':u<=w':=hu (by simpa using he);clear hu he;cases bo with
    | true =>
     simp only [p7] at hF;have bh4:IntKind.i64.wrap ((w':Int) - (u:Int))=((w' - u:Nat):Int):=x7 a_ a_ a_;clear finx q4;refine u_ ?_;refine fin _ gm _ ⟨rfl,?_,?_,?_,?_,?_,w' - u,a_,?_,hF⟩ fun id hid q=>?_
     ·repeat (first|exact jA|refine m8.new ?_ (e9 _ _))
     ·simp only [go_sem, *]
     ·simp only [go_sem, *]
     ·simp only [go_sem, *]
     ·simp only [go_sem, *]
     ·simp only [go_sem, *]
     ·obtain ⟨m1,m2,m3,m4⟩:=nI id hid
      simp only [p8,m1,m2,m3,m4,r6]
    | false =>
     simp only [B2,r6] at hF;clear fin;refine u_ ?_;clear hh;refine aM6 l.length (fun m X σ=>X=xT/\σ.tm 8=.ptr ⟨gen,0,2⟩ 0/\σ.tm 9=.ptr ⟨gen,0,3⟩ 0/\σ.tm 10=.ptr ⟨gen,0,4⟩ 0/\σ.tm 69=.sl .any (l.map PVl.cells)/\σ.tm 70=.int .i64 (l.length:Nat)/\σ.tm 71=.int .i64 (m:Nat) /\
      m8 hi σ.h/\Q4 hi σ.h (σ.tm 20) 4 ((l.take m).map PVl.cells)) ?_ ?_
     ·simp only [go_sem, *]
      exact ⟨rfl,m8.refl _,.inl rfl⟩
     intro y' gn' m X σ2 e1' e2' e3' e4' dM7 hm ⟨hX,k8,k9,k10,k69,k70,k71,kA,k20⟩ next out
     subst hX;have xb':XOk Tryz.prog (y'.at xT):=(dM7 ob).x (bo1 (bd:=0));rcases R0 m l.length with hlt|hge
     ·obtain ⟨x,hx⟩:∃ x,l[m]? = some x:=⟨_,W4 hlt⟩
      have hd:=Z5 hlt;have hws:=E2 (i:=m) a_;have ho:=q4 x (Q7 hx);have hts:(l.take (m+1)).map PVl.cells=(l.take m).map PVl.cells++[x.cells]:=p9 hx;have hmn:=aP5 hlt;clear out finx q4;refine al0 (fun gk hgk=>?_);have kf:∀ r i,σ2.h ⟨gk,r,i⟩=none:=o0 hgk;have kf0:∀ r i,hi ⟨gk,r,i⟩=none:=fun r i=>F3 kA (kf r i);clear hgk
      repeat' (first
       |(refine X6 k20 (by repeat (first|exact O3.refl _|refine O3.new ?_ (kf _ _)|refine O3.box ?_ rfl|refine O3.box ?_ j_)) rfl r_ (kf0 _ _) j_ (by intro hd;cases hd) ?_;intro v' h' log' jO jK jAg jAb jF;simp only [go_sem, *])
       |(refine ⟨?_,?_⟩;focus ((repeat' (first|refine ⟨?_,?_⟩|refine .inr ?_));all_goals kernel_rfl))
       | (first|refine A4 ?_|refine o6 xb' follows h_ ?_|refine u7 ?_|refine x6 ?_|refine E1 ?_|refine s7 ?_|refine spt rfl ?_|refine spf rfl ?_|refine cp ho ?_)<;>try simp only [go_sem, *])
      refine next _ _ _ hlt ?_
      simp only [go_sem, *];have kO:=jAg (by repeat (first|exact kA|refine m8.new ?_ (kf0 _ _)))
      first|exact kO|exact ⟨kO,by rw [hts];exact jO⟩|exact ⟨rfl,kO,by rw [hts];exact jO⟩
     ·have hd:=T5 hge
      obtain rfl:m=l.length:=by omega
      obtain ⟨cO,hO⟩:=k20.val;rw [L2] at hO;clear next q4
      refine u_ ?_;refine out _ _ _ gn' (.inr ⟨_,rfl⟩) ?_;refine C7 ?_;have kb2:=(kA ⟨gen,0,2⟩ (by rw [jb2];simp)).trans jb2;have kb3:=(kA ⟨gen,0,3⟩ (by rw [jb3];simp)).trans jb3;have kb4:=(kA ⟨gen,0,4⟩ (by rw [jb4];simp)).trans jb4;refine u_ ?_;refine H3 (finx _ gn' none _ ⟨rfl,rfl,?_,cO,l.map PVl.cells,true,0,?_,?_,?_,hwl,(fun S=>by simp only [go_sem, *]),?_⟩ fun id hid q=>?_)
      ·have:m8 h σ2.h:=fun id hid=>(kA id (by rw [jA id hid];exact hid)).trans (jA id hid)
       repeat (first|exact this|refine m8.new ?_ (e9 _ _))
      ·simp only [go_sem, *]
      ·simp only [go_sem, *]
      ·simp only [go_sem, *]
      ·rw [<- hv,<- hF];rfl
      ·obtain ⟨m1,m2,m3,m4⟩:=nI id hid
       simp only [p8,m1,m2,m3,m4,r6];exact kA id q
  ·rintro D X' h' hD ok ⟨rfl,jA,jb2,jb3,jb4,jb5,w',hw',jb1,hF⟩ ak2
   rw [bK8,y6] at hF;have hv':v=.tup [.sl .any [],.bool false,.int .i64 0]:=by rw [<- hv,<- hF];rfl
   have okD:=ok.x (bo1 (bd:=0));clear hv hF;subst hv'
   repeat' (first
    |(refine ⟨?_,?_⟩;focus ((repeat' (first|refine ⟨?_,?_⟩|refine .inr ?_));all_goals kernel_rfl))
    |exact agf l_
    | (first|refine A4 ?_|refine o6 okD follows h_ ?_|refine u7 ?_|refine x6 ?_|refine N2 ?_|refine E1 ?_|refine K6 ?_|refine s7 ?_|refine spt rfl ?_|refine spf rfl ?_|refine aR4 follows hl0 hD ?_|refine Y7 g9 ?_ ?_ ?_)<;>try simp only [go_sem, *])
  ·rintro D id X' h' hD ok ⟨rfl,rfl,jA,cc,rs,bo,e,jb2,jb3,jb4,hwk,hin,hv'⟩ ak2
   simp only [ao1];clear hv;subst hv';refine H3 (aR4 follows hl0 hD ?_);exact i_
theorem dt5 (hc:c_ env 56 [.agg t.cells] (.int .i64 0)) {vs:List (List V)} (hit:Iter Tryz.prog env (.fn (.func 156) [] [.el t.cells 0]) vs)
  {k0:Int} {rs0:List (List V)} (hv0:vs[0]? = some [.agg [.int .i64 k0,.sl .any rs0]]) (hk0:(k0==4)=true) (hv1:∀ v∈vs,v.length=1):c_ env 57 [.agg t.cells] (.tup [.bool false,.int .i64 0]):=by
 intro h;have hn:=bH2 t;have n0:((0:Int) != 0)=false:=rfl;refine M8 Tryz.func57 rfl h_ fun g0 w0 gen g9 hfr=>?_;have e9:∀ r i,h ⟨gen,r,i⟩=none:=o0 hfr;have n8:Tryz.f57.results.toList=[.cell 2 4,.cell 3 44]:=rfl;have hl0:∀ b,w0.heap.size<=b->g0.lim b=0:=g9.B3;refine ae9 ?_;simp only [ag9,W8,aa5,ak0,aj2,aC4,R9,Q3,E0,B7,ae7];refine aj7 (J:=fun σ=>σ.tm 2=.ptr ⟨gen,0,1⟩ 0/\σ.tm 3=.ptr ⟨gen,0,2⟩ 0/\σ.tm 12=.fn (.func 156) [] [.el t.cells 0]/\m8 h σ.h /\
  σ.h ⟨gen,0,1⟩=some (.box [.bool false])/\σ.h ⟨gen,0,2⟩=some (.box [.int .i64 0])) [_,_,_,_,_] h_ follows ?_ ?_
 ·simp only [E0,B7,R9,Q3]
  clear hit hv0 hv1;refine e_ ?_;exact f_
 ·rintro σ ⟨j2,j3,j12,jA,jb1,jb2⟩
  clear hc hn;refine cR7 ?_;refine x6 ?_;refine aD3 (dl6 _) (ps:=[13]) (vs:=vs) (by intro p hp;simp at hp;subst hp;exact ah5 h_) (fun v hh=>by rw [hv1 v hh];rfl) (fun id=>id=⟨gen,0,1⟩\/id=⟨gen,0,2⟩) (by rintro id (rfl|rfl)<;>simp [jb1,jb2])
   (fun i X hh=>i=0/\X=xT/\m8 h hh/\hh ⟨gen,0,1⟩=some (.box [.bool false])/\hh ⟨gen,0,2⟩=some (.box [.int .i64 0]))
   (fun id X hh=>id=none/\X=xT/\m8 h hh/\hh ⟨gen,0,1⟩=some (.box [.bool false])/\hh ⟨gen,0,2⟩=some (.box [.int .i64 0]))
   (by rintro i X hh ⟨_,rfl,_⟩;exact bo1) (by rintro i X hh ⟨_,rfl,_⟩;exact bo1)
   (by
    rintro i X h1 h2 e ⟨q,q0,q1,q2,q3⟩;exact ⟨q,q0,fun id hid=>(e id (by rw [jA id hid];exact hid)).trans (q1 id hid),(e _ (by rw [jb1];simp)).trans q2,(e _ (by rw [jb2];simp)).trans q3⟩)
   (by
    rintro i X h1 h2 e ⟨q,q0,q1,q2,q3⟩;exact ⟨q,q0,fun id hid=>(e id (by rw [jA id hid];exact hid)).trans (q1 id hid),(e _ (by rw [jb1];simp)).trans q2,(e _ (by rw [jb2];simp)).trans q3⟩)
   hl0 ?_ (by rw [j12];exact hit) ⟨rfl,rfl,jA,jb1,jb2⟩ rfl rfl ?_ ?_
  ·rintro ya yb gn i vv hi X oa ob ⟨l,f1,f2,f3⟩ d1 d2 lo1 lo2 hXS cc7 cc8 hgn hvv ⟨rfl,rfl,jA,jb1,jb2⟩ hnn toB fin finx
   rw [hv0] at hvv;cases hvv;refine al0 (fun gm hgm=>?_);have hgf:∀ r i,hi ⟨gm,r,i⟩=none:=o0 hgm;have l6:=fun r i=>F3 jA (hgf r i);have hg1:gen<gm:=hgm ⟨gen,0,1⟩ (by simp [jb1]);have e1:=o7 hg1;have e2:=n6 hg1;have xa:XOk Tryz.prog (ya.at xT):=oa.x hXS;have xb:XOk Tryz.prog (yb.at xT):=ob.x hXS;have nI:∀ id:GoAbs.Id,¬ (id=⟨gen,0,1⟩\/id=⟨gen,0,2⟩)->(id=⟨gen,0,1⟩)=False/\(id=⟨gen,0,2⟩)=False:=fun id hid=>⟨an5 fun e=>hid (.inl e),an5 fun e=>hid (.inr e)⟩;clear hgm hit hnn hv0 hv1 fin;simp only [aQ3];refine o6 xa follows h_ ?_;simp only [go_sem, *];refine toB _ _ _ hXS ?_;clear toB;refine u_ ?_;refine H3 (finx _ _ none _ ⟨rfl,rfl,?_,?_,?_⟩ fun id hid q=>?_)
   ·repeat (first|exact jA|refine m8.new ?_ (l6 _ _)|refine m8.new ?_ (e9 _ _))
   ·simp only [go_sem, *]
   ·simp only [go_sem, *]
   ·obtain ⟨m1,m2⟩:=nI id hid
    have m3:∀ r j,(id=⟨gm,r,j⟩)=False:=fun r j=>an5 fun e=>q (by rw [e];exact hgf _ _);simp only [p8,m1,m2,m3,r6]
  ·rintro D X' h' hD ok ⟨hz,_⟩ ak2
   exfalso;have:=aR1.1 hz;rw [this] at hv0;cases hv0
  ·rintro D id X' h' hD ok ⟨rfl,rfl,jA,jb1,jb2⟩ ak2
   simp only [ao1];refine H3 (aR4 follows hl0 hD ?_);exact i_
theorem dq3 (h:N0 1 t):∃ b:Bool,c_ env 57 [.agg t.cells] (.tup [.bool b,.int .i64 0])/\(b=true->PlT t):=by
 have hG:=h.G (n:=1) a_;have hc:=ag7 t hG.1.W;rw [hG.err] at hc;rcases cO3 h with ⟨hp,h1⟩|⟨ka,kb,e⟩
 ·refine ⟨true,?_,fun _=>hp⟩
  rcases h1 with rfl|rfl|rfl|⟨ka,kb,e,na,nb⟩
  ·exact aH8 hc (by rw [aT5];exact aT2 1) (by intro v hv;simp only [D9,K0,D1] at hv;subst hv;exact ⟨_,_,rfl,rfl⟩)
  ·exact aH8 hc (by rw [aY2];exact aT2 2) (by intro v hv;simp only [D9,K0,D1] at hv;subst hv;exact ⟨_,_,rfl,rfl⟩)
  ·exact aH8 hc (by rw [bB2];exact aT2 5) (by intro v hv;simp only [D9,K0,D1] at hv;subst hv;exact ⟨_,_,rfl,rfl⟩)
  ·exact aH8 hc (by rw [e];exact bc0 3 ka kb) (by
    intro v hv;simp only [D9,K0,D1] at hv;rcases hv with rfl|rfl|rfl
    ·exact ⟨_,_,rfl,rfl⟩
    ·exact ⟨_,_,rfl,by simpa using nb⟩
    ·exact ⟨_,_,rfl,by simpa using na⟩)
 ·refine ⟨false,?_,fun h=>by cases h⟩
  exact dt5 hc (by rw [e];exact bc0 4 ka kb) rfl rfl (by
   intro v hv;simp only [D9,K0,D1] at hv;rcases hv with rfl|rfl|rfl<;>rfl)
theorem dr5 (ht:N0 1 t) {b:Nat} (hb:b<=16) (hm:m<=65536):∃ e:Int,c_ env 20 [.agg t.cells,.int .i64 b,.int .i64 m] (.int .i64 e)/\(e=0->PlT t):=by
 have hG:=ht.G (n:=1) a_;have hc:=ag7 t hG.1.W;rw [hG.err] at hc;obtain ⟨d,hd,hp⟩:=dq3 ht;have n0:((0:Int) != 0)=false:=rfl;have q1:decide ((b:Int)<0)=false:=by simp
 have q2:decide ((b:Int)>16)=false:=by simp;omega
 have q3:decide ((m:Int)<0)=false:=by simp
 have q4:decide ((m:Int)>65536)=false:=by simp;omega
 cases d with
 | true =>
  refine ⟨0,?_,fun _=>hp rfl⟩;clear ht hb hm hG hp;intro h;exact d_ Tryz.func20 [.tmp 6]
 | false =>
  refine ⟨7,?_,fun h=>by cases h⟩;clear ht hb hm hG hp;intro h;exact d_ Tryz.func20 [.tmp 6]
variable {k:List Ty}
theorem cI2 (h:cS1 g f k b):c_ env 19 [.agg (aN1 g f).cells] (.tup [.agg (aX3 k b),.int .i64 0]):=by
 have he:=h.J4.am0 (show s6 (aN1 g f)<=4096 by have:=h.size;omega);have h1:=ay2 [] b_ b_ (aN1 g f) h.ty he (by have:=h.size;omega) h.J4.toW;have h2:=bk2 (aN1 g f) h.J4.toW he (by have:=h.size;omega);rw [h.univ] at h2;have gb:=h.dc.G (u:=true);have h3:=ay1 b gb.toW;have e:b.has 4=(true,0):=by
  unfold Fm.has;rw [gb.am0 (by have:=h.sz;omega),h.dc.fld (by have:=h.len;have:=h.sz;omega)]
  rfl
 rw [e] at h3;unfold al3 at h3;exact bG9 h1 h2 h3
theorem ci3 {T:List PVl->List Tm} {l:List PVl} (h:ah4 k l (T l)) (hk:k.length<=5000) (db:Dc k b) (zb:s6 b<=4096):dB7 b (bx1 b T) l:=by
 refine ⟨by have:=h.len.1;omega,fun w hw=>cl8 h a_ db zb w hw,fun w _=>de2 h db hk zb,fun v hv=>?_⟩
 ·obtain ⟨i,hi⟩:=List.mem_iff_getElem?.1 hv
  obtain ⟨a,v',t,q1,q2,q3,q4,q5,q6⟩:=h.at i (by have:=(F2.1 hi).1;have:=h.len.1;omega);rw [hi] at q2;cases q2;exact dT4 v (q4.W q6)
theorem cX2 (h:cS1 g f k b) {T:List PVl->List Tm} {bd:Nat} (hT:∀ l∈tries bd m k,ah4 k l (T l)) (hb:bd<=16) (hm:m<=65536) (hw:w<=65536) :
  c_ env 8 [.agg (aN1 g f).cells,.int .i64 bd,.int .i64 m,.int .i64 w] (cb1 (aO7 (bx1 b T) (tries bd m k) w)):=by
 have hl:=h.len;have hz:=h.sz;refine cW2 (cI2 h) (fun t ht=>cY7 (h.plain t ht) hb hm) a_ hw ?_ ?_ fun l hl'=>ci3 (hT l hl') a_ h.dc a_
 ·exact bP5 bd m (fun S=>by simp [S8]) (fun S=>by simp only [go_sem, *]) rfl (F4 k)
 ·exact bx5 (b:=bd) (m:=m) a_ hm k [] (fun t ht=>(h.plain t ht).plT) (by simp;omega)
theorem cY8:c_ env 4 [] (.bool true):=by
 have dq:Dc [c8] (u6 (a9 0) (G3 0)):=.eq cv7 (am8 0) (show l7 TyG ([]++[c8]) (a9 0) c8 from .v0) (l7.num 0);have zq:s6 (u6 (a9 0) (G3 0))<=300:=by rw [D7,aK5,Y2];omega
 have hp:∀ y∈[c8],aq4 y:=by simp;exact .inl rfl
 have hF:cS1 [c8] (u6 (a9 0) (G3 0)) [c8] (u6 (a9 0) (G3 0)):=by
  refine ⟨by rw [bX0,Fm.bU6 rfl];rfl,dq,zq,hp,b_,cy1 [c8] [] (fun y hy=>(hp y hy).G) dq.ty,dH0 (fun y hy=>(hp y hy).G) dq.G,by rw [dn4];simp;omega⟩
 have ht:tries 3 10 [c8]=[[bE8 0],[bE8 1],[bE8 2]]:=rfl;have hT:∀ l∈tries 3 10 [c8],ah4 [c8] l ((fun l:List PVl=>l.map fun v=>G3 v.num.toNat) l):=by
  rw [ht];intro l hl;simp only [D9,K0,D1] at hl;have key:∀ n:Nat,n<=2->ah4 [c8] [bE8 n] [G3 n]:=fun n hn=>.snoc (g:=[]) (l:=[]) (ts:=[]) .nil (.num n) TyG.nat (by rw [Y2];omega);rcases hl with rfl|rfl|rfl
  ·exact key 0 a_
  ·exact key 1 a_
  ·exact key 2 a_
 have h1:=cX2 hF hT (bd:=3) (m:=10) (w:=1000) a_ a_ a_;rw [show aO7 (bx1 (u6 (a9 0) (G3 0)) (fun l:List PVl=>l.map fun v=>G3 v.num.toNat)) (tries 3 10 [c8]) 1000=(some [bE8 1],0) by kernel_rfl] at h1;have h2:=bG1 0 a_;replace h2:c_ env 14 [.int .i64 0] (.agg (G3 0).cells):=h2;have h3:=s8;have h4:=an8 0;have h5:=bD6 (a9 0) (G3 0) (A6 0) (aq2 0);have h6:=aK9 4 c8 (u6 (a9 0) (G3 0)) J9 (ap5 (A6 0) (aq2 0));replace h1:c_ env 8 [.agg (fmQ 4 c8 (u6 (a9 0) (G3 0))).cells,.int .i64 3,.int .i64 10,.int .i64 1000] (.tup [.sl .any [[.int .i64 1,.int .i64 1,.sl .any [],.sl .any []]],.bool true,.int .i64 0]):=by
  have e:([bE8 1]:List PVl).map PVl.cells=[[.int .i64 1,.int .i64 1,.sl .any [],.sl .any []]]:=by simp [bE8,PVl.r7,ints]
  unfold cb1 at h1;simp only [aa7,bV3,e] at h1;exact h1
 clear hF hT ht dq zq hp;generalize fmQ 4 c8 (u6 (a9 0) (G3 0))=q at *;generalize u6 (a9 0) (G3 0)=q0 at *;generalize G3 0=t0 at *;have m1:(((1:Nat):Int)==1)=true:=rfl;have m2:((1:Int)==1)=true:=rfl;have m3:((0:Int)==0)=true:=rfl;have m4:(0:Int)<((1:Nat):Int):=by omega
 intro h;exact d_ Tryz.func4 [.tmp 0]
def aT6:List V:=[.sl .any [],.int .i64 0,.int .i64 0,.sl .any [],.sl .any [],.sl .any []]
theorem cI3 (he:e≠0) (hT:c_ env 53 [.sl .any [],.agg f.cells] (.int .i64 e)) :
  c_ env 19 [.agg f.cells] (.tup [.agg aT6,.int .i64 e]):=by
 intro h;have hne:(e != 0)=true:=by simpa using he
 unfold aT6;clear he;exact d_ Tryz.func19 [.cell 2 64,.tmp 3]
theorem cI4 (hT:c_ env 53 [.sl .any [],.agg f.cells] (.int .i64 0))
  (hU:c_ env 54 [.agg f.cells] (.tup [.sl .any (ts.map Ty.cells),.agg b.cells,.int .i64 0])) (hD:c_ env 55 [.agg b.cells] (.tup [.bool false,.int .i64 0])) :
  c_ env 19 [.agg f.cells] (.tup [.agg aT6,.int .i64 14]):=by
 intro h;have n0:((0:Int) != 0)=false:=rfl;unfold aT6;exact d_ Tryz.func19 [.cell 2 64,.tmp 3]
theorem cy9 {bd:Nat} (he:e≠0) (hC:c_ env 19 [.agg f.cells] (.tup [.agg aT6,.int .i64 e])) :
  c_ env 8 [.agg f.cells,.int .i64 bd,.int .i64 m,.int .i64 w] (.tup [.sl .any [],.bool false,.int .i64 e]):=by
 intro h;have hne:(e != 0)=true:=by simpa using he
 unfold aT6 at hC;clear he;refine M8 Tryz.func8 rfl h_ fun g0 w0 gen g9 hfr=>?_;have e9:∀ r i,h ⟨gen,r,i⟩=none:=o0 hfr;have n8:Tryz.f8.results.toList=[.cell 8 43,.cell 9 4,.cell 10 44]:=rfl;refine ae9 ?_;simp only [ag9,W8,aa5,ak0,aj2,aC4,R9,Q3,E0,B7,ae7];refine aj7 (J:=fun _=>False) [_,_,_,_,_,_,_,_,_] h_ follows ?_ (fun _ h=>h.elim);simp only [E0,B7,R9,Q3];exact i_
theorem dp2 {bd:Nat} {E:Ty->Int} (hC:c_ env 19 [.agg f.cells] (.tup [.agg (aX3 ts b),.int .i64 0]))
  (hL:∀ t∈ts,c_ env 20 [.agg t.cells,.int .i64 bd,.int .i64 m] (.int .i64 (E t))) (hts:ts.length<=5000) (he:aJ1 E ts=e) (h0:e≠0) :
  c_ env 8 [.agg f.cells,.int .i64 bd,.int .i64 m,.int .i64 w] (.tup [.sl .any [],.bool false,.int .i64 e]):=by
 intro h;have n0:((0:Int) != 0)=false:=rfl;have hE:aJ1 E (ts.drop 0)=e:=he;have hb:=Fm.l4 b;unfold aX3 at hC;rw [hb] at hC;clear he hb;refine M8 Tryz.func8 rfl h_ fun g0 w0 gen g9 hfr=>?_;have e9:∀ r i,h ⟨gen,r,i⟩=none:=o0 hfr;have n8:Tryz.f8.results.toList=[.cell 8 43,.cell 9 4,.cell 10 44]:=rfl;refine ae9 ?_;simp only [ag9,W8,aa5,ak0,aj2,aC4,R9,Q3,E0,B7,ae7];refine aj7 (J:=fun _=>False) [_,_,_,_,_,_,_,_,_] h_ follows ?_ (fun _ h=>h.elim);simp only [E0,B7,R9,Q3];have hwT:A7 (ts.map Ty.cells)=ts.map Ty.cells:=F4 ts;refine e_ ?_;refine k_ [1,2,7,8,9,10,11,32] [⟨gen,0,1⟩,⟨gen,0,2⟩,⟨gen,0,3⟩,⟨gen,0,4⟩,⟨gen,1,5⟩] (fun i σ=>aJ1 E (ts.drop i)=e) (ts) ?_ ?_ ?_
 ·simp only [go_sem, *]
  refine ⟨?_,by simpa using hE⟩;exact f_
 ·clear hE
  intro i x σ gr0 o5 hgf l6 l9 m6 hx hxm hm hlt jI jN jT jA hE;have hl:=hL x hxm;clear hL hC;rw [s9 hx,aJ1] at hE;by_cases hx0:E x=0
  ·rw [hx0] at hE hl
   have hE:aJ1 E (ts.drop (i+1))=e:=by simpa using hE
   first|refine e_ ?_|exact i_
   all_goals (try refine ⟨?_,hE⟩)
   all_goals exact f_
  ·have hne:(E x != 0)=true:=by simpa using hx0
   rw [B8 hne] at hE;subst hE;generalize E x=ex at *;exact i_
 ·
  intro σ ga0 q9 hgf l6 l8 m5 jT jA hE1;exfalso;rw [y6] at hE1;exact h0 hE1.symm
end Go.Proofs.YtmfhhhhnokhggaaGreatDoor
