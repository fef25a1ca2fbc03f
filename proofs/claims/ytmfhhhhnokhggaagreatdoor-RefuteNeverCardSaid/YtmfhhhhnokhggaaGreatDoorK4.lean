/-
 Walks: several parts in one text.
-/
import Derived.Test.YtmfhhhhnokhggaaGreatDoorK0
import Derived.Test.YtmfhhhhnokhggaaGreatDoorAbsDc
import Derived.Shelf.Abstract
import Derived.OwnWalkIn
import Derived.TacticsInMore
import Derived.LoopNIn
import Derived.LoopIn
set_option linter.unusedSimpArgs false
set_option linter.unusedVariables false
set_option maxRecDepth 20000
set_option maxHeartbeats 4000000
set_option maxRecDepth 100000
namespace Go.Proofs.YtmfhhhhnokhggaaGreatDoor
open Go GoAbs Go.Proofs
theorem dN4 (b:Nat) (hb:b<=65536):Iter Tryz.prog env (.fn (.func 160) [] [.el [.int .i64 b] 0]) (rows (aF7 b)):=by
 refine ab3 Tryz.func160 rfl h_ fun C g0 w0 h gen hC O4 bh2 M4 S9 hbd=>?_;have hy:=bo2 (c:=⟨Tryz.prog,env,Tryz.f160.ntmps,Tryz.f160,g0,w0,h,.undef,h⟩) (R:=ai2 env C (rows (aF7 b)).length g0 w0 h) (fun l hl=>aA3 (hC.lo l hl) hbd);have hx:∀ i hs,XOk Tryz.prog ((yI ⟨Tryz.prog,env,Tryz.f160.ntmps,Tryz.f160,g0,w0,h,.undef,h⟩ C (ai2 env C (rows (aF7 b)).length g0 w0 h)).at (fun g w=>C.Y i g w hs)):=fun i hs=>hy.x (hC.xY hbd i hs)
 repeat' (first|(first|refine A4 ?_|refine o6 (hx _ _) follows h_ ?_|refine x6 ?_)<;>try simp only [go_sem, *])
 have hv:∀ i,i<b->(rows (aF7 b))[i]? = some [V.agg (bE8 i).cells]:=fun i hi=>aT9 (dl4 hi);have hlen:(rows (aF7 b)).length=b:=by rw [an0,cR0]
 refine aM6 b (fun m X σ=>σ.tm 5=.int .i64 (m:Nat)/\σ.tm 4=.int .i64 b/\σ.tm 0=.fn (.yield C.l) [] []/\∃ hs,X=(fun g w=>C.Y m g w hs)/\(∀ id,C.base id->σ.h id=hs id)/\(∀ id,¬ C.S id->h id≠none->σ.h id=h id)) ?_ ?_
 ·simp only [go_sem, *]
  exact ⟨rfl,h,rfl,fun _ _=>rfl⟩
 intro y' gn m X σ e1 e2 e3 e4 dM7 hm ⟨j5,j4,j0,hs,hX,jb,js⟩ next out
 subst hX;have hy':=dM7 hy;have hx':∀ i hs,XOk Tryz.prog (y'.at (fun g w=>C.Y i g w hs)):=fun i hs=>hy'.x (bd:=C.bd) (hC.xY (w7 _) i hs);have hz':∀ hs,XOk Tryz.prog (y'.at (fun g w=>C.Z g w hs)):=fun hs=>hy'.x (bd:=C.bd) (hC.xZ (w7 _) hs);rcases R0 m b with hlt|hge
 ·have hd:=Z5 hlt
  have hw:=E2 (i:=m) a_
  repeat' (first|(first|refine A4 ?_|refine u7 ?_|refine E1 ?_|refine spt rfl ?_|refine ao4 hy' M4 hC (fun b hb=>by rw [e3];exact hb) (by rw [e4];exact hbd) (hv m hlt) h_ 3 rfl rfl rfl rfl rfl ?_|refine o6 (hx' _ _) follows h_ ?_|refine x6 ?_)<;>try simp only [go_sem, *])
  refine ⟨rfl,jb,fun h' hh=>⟨?_,?_⟩⟩
  ·simp only [go_sem, *]
   repeat' (first|(first|refine A4 ?_|refine u7 ?_|refine E1 ?_|refine spf rfl ?_|refine s7 ?_|refine o6 (hx' _ _) follows h_ ?_)<;>try simp only [go_sem, *])
   refine next _ _ _ hlt ?_
   simp only [go_sem, *];exact ⟨h',rfl,fun _ _=>rfl,fun id h1 h2=>(hh id h1 (by rw [js id h1 h2];exact h2)).trans (js id h1 h2)⟩
  ·simp only [go_sem, *]
   repeat' (first|(first|refine u7 ?_|refine spt rfl ?_|refine K6 ?_)<;>try simp only [go_sem, *])
   refine H3 (out _ _ _ gn (.inl rfl) (H3 ?_));exact al1 (vs:=rows (aF7 b)) (.inl rfl) rfl M4 (fun g w hZ=>.inr hZ) (fun id h1 h2=>(hh id h1 (by rw [js id h1 h2];exact h2)).trans (js id h1 h2))
 ·have hd:=T5 hge
  obtain rfl:m=b:=by omega
  repeat' (first|(first|refine A4 ?_|refine u7 ?_|refine E1 ?_|refine spf rfl ?_|refine o6 (hx' _ _) follows h_ ?_|refine N2 ?_|refine E3 ?_)<;>try simp only [go_sem, *])
  refine out _ _ _ gn (.inr ⟨_,rfl⟩) ?_;refine C7 ?_;refine al1 (vs:=rows (aF7 m)) (.inr rfl) rfl M4 (fun g w hY=>.inl ?_) js;rw [hlen];exact hC.Yh _ _ _ _ _ jb hY
theorem dw8:Iter Tryz.prog env (.fn (.func 158) [] []) (rows [bo0]):=by
 refine ab3 Tryz.func158 rfl h_ fun C g0 w0 h gen hC O4 bh2 M4 S9 hbd=>?_;have hy:=bo2 (c:=⟨Tryz.prog,env,Tryz.f158.ntmps,Tryz.f158,g0,w0,h,.undef,h⟩) (R:=ai2 env C (rows [bo0]).length g0 w0 h) (fun l hl=>aA3 (hC.lo l hl) hbd);have hv:(rows [bo0])[0]? = some [V.agg bo0.cells]:=rfl;refine ao4 hy M4 hC (fun b hb=>hb) hbd hv h_ 2 rfl rfl rfl rfl rfl ?_;simp only [go_sem, *];refine ⟨rfl,fun h' hh=>⟨?_,?_⟩⟩
 ·simp only [go_sem, *]
  exact al1 (vs:=rows [bo0]) (.inr rfl) rfl M4 (fun g w hY=>.inl hY) hh
 ·simp only [go_sem, *]
  exact al1 (vs:=rows [bo0]) (.inr rfl) rfl M4 (fun g w hZ=>.inr hZ) hh
theorem dw7 {a c:Ty} {b:Nat} {A B:List PVl} {fa fb:V} (hA:Iter Tryz.prog env fa (rows A)) (hB:Iter Tryz.prog env fb (rows B))
  (pa:c_ env 99 [.agg a.cells,.int .i64 b] fa) (pb:c_ env 99 [.agg c.cells,.int .i64 b] fb) :
  Iter Tryz.prog env (.fn (.func 159) [] [.el (B6 a c).cells 0,.el [.int .i64 b] 0]) (rows (aV8 A B)):=by
 refine ab3 Tryz.func159 rfl h_ fun C g0 w0 h gen hC O4 bh2 M4 S9 hbd=>?_;have hy:=bo2 (c:=⟨Tryz.prog,env,Tryz.f159.ntmps,Tryz.f159,g0,w0,h,.undef,h⟩) (R:=ai2 env C (rows (aV8 A B)).length g0 w0 h) (fun l hl=>aA3 (hC.lo l hl) hbd);have hx:∀ i hs,XOk Tryz.prog ((yI ⟨Tryz.prog,env,Tryz.f159.ntmps,Tryz.f159,g0,w0,h,.undef,h⟩ C (ai2 env C (rows (aV8 A B)).length g0 w0 h)).at (fun g w=>C.Y i g w hs)):=fun i hs=>hy.x (hC.xY hbd i hs);have e9:∀ r i,h ⟨gen,r,i⟩=none:=o0 bh2;have e:(B6 a c).cells=[.int .i64 3,.sl .any [a.cells,c.cells]]:=by rw [B6,Ty.r7];rfl
 rw [e]
 repeat' (first|(refine ⟨?_,?_⟩;focus ((repeat' (first|refine ⟨?_,?_⟩|refine .inr ?_));all_goals kernel_rfl))|(first|refine A4 ?_|refine cp pa ?_|refine o6 (hx _ _) follows h_ ?_|refine x6 ?_)<;>try simp only [go_sem, *])
 have hvA:∀ (i:Nat) (vv:List V),(rows A)[i]? = some vv->∃ v,A[i]? = some v/\vv=[.agg v.cells]:=by
  intro i vv hh;unfold rows at hh;rw [ah6] at hh;cases hv:A[i]? with
  | none=>rw [hv] at hh;simp at hh
  | some v=>rw [hv] at hh;simp at hh;exact ⟨v,rfl,hh.symm⟩
 have hvB:∀ (i:Nat) (vv:List V),(rows B)[i]? = some vv->∃ v,B[i]? = some v/\vv=[.agg v.cells]:=by
  intro i vv hh;unfold rows at hh;rw [ah6] at hh;cases hv:B[i]? with
  | none=>rw [hv] at hh;simp at hh
  | some v=>rw [hv] at hh;simp at hh;exact ⟨v,rfl,hh.symm⟩
 have hw1:∀ vv∈rows A,vv.length=1:=by intro vv hh;unfold rows at hh;obtain ⟨v,_,rfl⟩:=G5.1 hh;rfl
 have hw2:∀ vv∈rows B,vv.length=1:=by intro vv hh;unfold rows at hh;obtain ⟨v,_,rfl⟩:=G5.1 hh;rfl
 have hnb:∀ id,C.base id->id≠⟨gen,0,0⟩:=fun id hid e=>O4 id hid (by rw [e];exact e9 0 0);have hb0:∀ id,C.base id->p8 h ⟨gen,0,0⟩ (.box [.fn (.yield C.l) [] []]) id=h id:=fun id hid=>m7 (hnb id hid);have hnh:∀ id,h id≠none->id≠⟨gen,0,0⟩:=fun id hid e=>hid (by rw [e];exact e9 0 0);refine aD3 hy (ps:=[12]) (vs:=rows A) (by intro p hp;simp at hp;subst hp;exact ah5 h_) hw1 C.S (fun id hid=>by
   simp only;rw [m7 (hnb id (hC.sub id hid))];exact O4 id (hC.sub id hid))
  (fun m X hh=>∃ hs,X=(fun g w=>C.Y (m * B.length) g w hs)/\(∀ id,C.base id->hh id=hs id)/\hh ⟨gen,0,0⟩=some (.box [.fn (.yield C.l) [] []])/\∀ id,¬ C.S id->h id≠none->hh id=h id)
  (fun id X hh=>id=none/\∃ hs,X=(fun g w=>C.Z g w hs)/\(∀ id,C.base id->hh id=hs id)/\∀ id,¬ C.S id->h id≠none->hh id=h id)
  (by rintro i X hh ⟨hs,rfl,_⟩;exact hC.xY hbd _ _) (by rintro i X hh ⟨_,hs,rfl,_⟩;exact hC.xZ hbd _)
  (by
   rintro i X h1 h2 e ⟨hs,rfl,j1,j2,j3⟩;have hk:∀ id,h id≠none->h2 id=h1 id:=fun id hid=>e id (by simp only;rw [m7 (hnh id hid)];exact hid);exact ⟨hs,rfl,fun id hid=>(hk id (O4 id hid)).trans (j1 id hid),(e _ (by simp only [A1,E8,reduceCtorEq,H9])).trans j2,fun id q1 q2=>(hk id q2).trans (j3 id q1 q2)⟩)
  (by
   rintro i X h1 h2 e ⟨h0,hs,rfl,j1,j3⟩;have hk:∀ id,h id≠none->h2 id=h1 id:=fun id hid=>e id (by simp only;rw [m7 (hnh id hid)];exact hid);exact ⟨h0,hs,rfl,fun id hid=>(hk id (O4 id hid)).trans (j1 id hid),fun id q1 q2=>(hk id q2).trans (j3 id q1 q2)⟩)
  S9 ?_ j_ ⟨h,by rw [Nat.zero_mul],hb0,A1,fun id _ q2=>m7 (hnh id q2)⟩ rfl rfl ?_ ?_
 ·
  rintro ya yb gn i vv hi X oa ob ⟨l,f1,f2,f3⟩ d1 d2 lo1 lo2 hXS cc7 cc8 hgn hvv ⟨hs,rfl,jb,jx,js⟩ hnn toB fin finx;obtain ⟨v,hv,rfl⟩:=hvA i vv hvv;have xa:∀ m hs,XOk Tryz.prog (ya.at (fun g w=>C.Y m g w hs)):=fun m hs=>oa.x (bd:=C.bd) (hC.xY (w7 _) m hs);have xb:∀ m hs,XOk Tryz.prog (yb.at (fun g w=>C.Y m g w hs)):=fun m hs=>ob.x (bd:=C.bd) (hC.xY (w7 _) m hs);have hbb:C.bd<=yb.bd:=S1 hbd (by rw [<- cc7];exact cc8);refine al0 (fun gm hgm=>?_);have hf:∀ r i,hi ⟨gm,r,i⟩=none:=o0 hgm;have hne:∀ id,hi id≠none->∀ r i,id≠⟨gm,r,i⟩:=fun id hid r i e=>hid (by rw [e];exact hf r i);have hbi:∀ id,C.base id->hi id≠none:=fun id hid=>by
   rw [jb id hid];have:=hnn id (by simp only;rw [m7 (hnb id hid)];exact O4 id hid);rw [jb id hid] at this;exact this
  have eg:((⟨gen,0,0⟩:GoAbs.Id)=⟨gm,2,0⟩)=False:=an5 (hne ⟨gen,0,0⟩ (by rw [jx];simp) 2 0);clear hnn hvv hx;simp only [aQ3]
  repeat' (first|(first|refine o6 (xa _ _) follows h_ ?_)<;>try simp only [go_sem, *])
  refine toB _ _ gm hXS ?_;clear toB
  repeat' (first|(refine ⟨?_,?_⟩;focus ((repeat' (first|refine ⟨?_,?_⟩|refine .inr ?_));all_goals kernel_rfl))|(first|refine A4 ?_|refine cp pb ?_|refine o6 (xb _ _) follows h_ ?_|refine x6 ?_)<;>try simp only [go_sem, *])
  have jx2:p8 hi ⟨gm,2,0⟩ (.box v.cells) ⟨gen,0,0⟩=some (.box [.fn (.yield C.l) [] []]):=by rw [m7 (hne _ (by rw [jx];simp) 2 0)];exact jx
  refine bF3 ob (ps:=[19]) (vs:=rows B) (by intro p hp;simp at hp;subst hp;exact ah5 h_) hw2 C.S (fun id hid=>by
    simp only;rw [m7 (hne id (hbi id (hC.sub id hid)) 2 0)];exact hbi id (hC.sub id hid))
   (fun m X hh=>∃ hs,X=(fun g w=>C.Y (i * B.length+m) g w hs)/\(∀ id,C.base id->hh id=hs id)/\hh ⟨gen,0,0⟩=some (.box [.fn (.yield C.l) [] []])/\hh ⟨gm,2,0⟩=some (.box v.cells)/\∀ id,¬ C.S id->hi id≠none->hh id=hi id)
   (fun id X hh=>id=none/\∃ hs,X=(fun g w=>C.Z g w hs)/\(∀ id,C.base id->hh id=hs id)/\∀ id,¬ C.S id->hi id≠none->hh id=hi id)
   (by rintro i X hh ⟨hs,rfl,_⟩;exact hC.xY hbb _ _) (by rintro i X hh ⟨_,hs,rfl,_⟩;exact hC.xZ hbb _)
   (by
    rintro m X h1 h2 e ⟨hs,rfl,k1,k2,k4,k3⟩;have hk:∀ id,hi id≠none->h2 id=h1 id:=fun id hid=>e id (by simp only;rw [m7 (hne id hid 2 0)];exact hid);exact ⟨hs,rfl,fun id hid=>(hk id (hbi id hid)).trans (k1 id hid),(hk _ (by rw [jx];simp)).trans k2,(e _ (by simp only [A1,E8,reduceCtorEq,H9])).trans k4,fun id q1 q2=>(hk id q2).trans (k3 id q1 q2)⟩)
   (by
    rintro m X h1 h2 e ⟨h0,hs,rfl,k1,k3⟩;have hk:∀ id,hi id≠none->h2 id=h1 id:=fun id hid=>e id (by simp only;rw [m7 (hne id hid 2 0)];exact hid);exact ⟨h0,hs,rfl,fun id hid=>(hk id (hbi id hid)).trans (k1 id hid),fun id q1 q2=>(hk id q2).trans (k3 id q1 q2)⟩)
   S9 ?_ j_ ⟨hs,by rw [aQ8],fun id hid=>(m7 (hne id (hbi id hid) 2 0)).trans (jb id hid),jx2,A1,fun id _ q2=>m7 (hne id q2 2 0)⟩
   (l0:=l) (by rw [f2];rfl) f3 d2 ?_ ?_
  ·
   rintro ya' yb' gn' m vv' hj X' oa' ob' ⟨l',f1',f2',f3'⟩ d1' d2' lo1' lo2' dL8 dd1 dd2 ee4 cN0 ⟨hs',rfl,kb,kx,kv,ks⟩ dv2 toB' fin' finx';obtain ⟨u,hu,rfl⟩:=hvB m vv' cN0;have hvP:(rows (aV8 A B))[i * B.length+m]? = some [V.agg (cD5 v u).cells]:=aT9 (dl5 hv hu);have xa':∀ m hs,XOk Tryz.prog (ya'.at (fun g w=>C.Y m g w hs)):=fun m hs=>oa'.x (bd:=C.bd) (hC.xY (w7 _) m hs);have xb':∀ m hs,XOk Tryz.prog (yb'.at (fun g w=>C.Y m g w hs)):=fun m hs=>ob'.x (bd:=C.bd) (hC.xY (w7 _) m hs);have dM1:C.bd<=yb'.bd:=S1 hbb (by rw [<- dd1];exact dd2);refine al0 (fun gk hgk=>?_);have hf':∀ r i,hj ⟨gk,r,i⟩=none:=o0 hgk;have cM5:∀ id,hj id≠none->∀ r i,id≠⟨gk,r,i⟩:=fun id hid r i e=>hid (by rw [e];exact hf' r i);have eg1:((⟨gen,0,0⟩:GoAbs.Id)=⟨gk,4,0⟩)=False:=an5 (cM5 ⟨gen,0,0⟩ (by rw [kx];simp) 4 0);have eg2:((⟨gm,2,0⟩:GoAbs.Id)=⟨gk,4,0⟩)=False:=an5 (cM5 ⟨gm,2,0⟩ (by rw [kv];simp) 4 0);have hbj:∀ id,C.base id->hj id≠none:=fun id hid=>by
    have:=dv2 id (by simp only;rw [m7 (hne id (hbi id hid) 2 0)];exact hbi id hid);exact this
   clear dv2 cN0;simp only [aQ3]
   repeat' (first|(first|refine o6 (xa' _ _) follows h_ ?_)<;>try simp only [go_sem, *])
   refine toB' _ _ gk dL8 ?_;clear toB';have hs1:∀ (hh:H),(∀ id,¬ C.S id->p8 hj ⟨gk,4,0⟩ (.box u.cells) id≠none->hh id=p8 hj ⟨gk,4,0⟩ (.box u.cells) id)->∀ id,¬ C.S id->hj id≠none->hh id=hj id:=fun hh e id q1 q2=>by
    have e2:=m7 (h:=hj) (o:=.box u.cells) (cM5 id q2 4 0);rw [<- e2];exact e id q1 (by rw [e2];exact q2)
   have nS:∀ id,(h id=none)->¬ C.S id:=fun id hid hs=>O4 id (hC.sub id hs) hid;have nb2:∀ id,hi id=none->¬ C.S id:=fun id hid hs=>hbi id (hC.sub id hs) hid
   repeat' (first|(first|refine A4 ?_|refine ao4 ob' M4 hC (fun b hb=>by rw [lo2',lo2];exact hb) dM1 hvP h_ 5 rfl rfl rfl rfl rfl ?_|refine o6 (xb' _ _) follows h_ ?_|refine x6 ?_)<;>try simp only [go_sem, *])
   refine ⟨by rw [cD5,PVl.r7];rfl,fun id hid=>by rw [y9 (cM5 id (hbj id hid) 4 0)];exact kb id hid,fun h' hh=>?_⟩;have hh1:=hs1 h' hh;have n0:¬ C.S ⟨gen,0,0⟩:=nS _ (e9 0 0);have n2:¬ C.S ⟨gm,2,0⟩:=nb2 _ (hf 2 0);have k0:=(hh1 _ n0 (by rw [kx];simp)).trans kx;have k2:=(hh1 _ n2 (by rw [kv];simp)).trans kv;clear hh;refine ⟨?_,?_⟩
   ·simp only [go_sem, *]
    repeat' (first|(first|refine A4 ?_|refine u7 ?_|refine E1 ?_|refine spf rfl ?_|refine s7 ?_)<;>try simp only [go_sem, *])
    refine fin' _ _ _ ⟨h',rfl,fun _ _=>rfl,k0,k2,fun id q1 q2=>?_⟩ hh1;exact (hh1 id q1 (by rw [ks id q1 q2];exact q2)).trans (ks id q1 q2)
   ·simp only [go_sem, *]
    repeat' (first|(first|refine u7 ?_|refine spt rfl ?_|refine K6 ?_)<;>try simp only [go_sem, *])
    refine H3 ?_;exact finx' _ _ none _ ⟨rfl,h',rfl,fun _ _=>rfl,fun id q1 q2=>(hh1 id q1 (by rw [ks id q1 q2];exact q2)).trans (ks id q1 q2)⟩ hh1
  ·rintro X' h' ⟨hs',rfl,kb,kx,kv,ks⟩ ak2
   refine s7 (s7 ?_);refine fin _ _ _ ⟨hs',?_,kb,kx,fun id q1 q2=>?_⟩ (fun id q1 q2=>ks id q1 q2)
   ·rw [an0,bC5]
   ·exact (ks id q1 (by rw [js id q1 q2];exact q2)).trans (js id q1 q2)
  ·rintro id X' h' ⟨rfl,hs',rfl,kb,ks⟩ ak2
   refine H3 ?_;exact finx _ _ none _ ⟨rfl,hs',rfl,kb,fun id q1 q2=>(ks id q1 (by rw [js id q1 q2];exact q2)).trans (js id q1 q2)⟩ (fun id q1 q2=>ks id q1 q2)
 ·rintro D X' h' hD ok ⟨hs,rfl,jb,jx,js⟩ ak2
  refine s7 ?_;refine ao3 hC (.inr rfl) rfl M4 S9 hbd hD (fun g w hY=>.inl ?_) js;rw [an0,cR1];rw [an0] at hY;exact hC.Yh _ _ _ _ _ jb hY
 ·rintro D id X' h' hD ok ⟨rfl,hs,rfl,jb,js⟩ ak2
  refine H3 ?_;exact ao3 hC (.inl rfl) rfl M4 S9 hbd hD (fun g w hZ=>.inr (hC.Zh _ _ _ _ jb hZ)) js
theorem bU7 {C:Cons} {vs:List (List V)} (hC:ao6 Tryz.prog env C vs) (d:GoAbs.Id) (l:List Nat) :
  dG9 Tryz.prog env C vs 197 [.sl .any (ints (l.map fun (n:Nat)=>(n:Int))),.ptr d 0] [.agg (az3 l).cells] (fun h=>h d=some (.box [.fn (.yield C.l) [] []])):=by
 refine bU8 Tryz.func197 rfl h_ hC fun i g0 w0 h gen hv dv5 bh2 M4 S9 hbd hL=>?_;have hy:=bo2 (c:=⟨Tryz.prog,env,Tryz.f197.ntmps,Tryz.f197,g0,w0,h,.undef,h⟩) (R:=bM7 env C i g0 w0 h) hL;have hx:∀ j hs,XOk Tryz.prog ((yI ⟨Tryz.prog,env,Tryz.f197.ntmps,Tryz.f197,g0,w0,h,.undef,h⟩ C (bM7 env C i g0 w0 h)).at (fun g w=>C.Y j g w hs)):=fun j hs=>hy.x (hC.xY hbd j hs);have e:(az3 l).cells=[.int .i64 2,.int .i64 0,.sl .any (ints (l.map fun (n:Nat)=>(n:Int))),.sl .any []]:=by rw [az3,PVl.r7];rfl
 rw [e] at hv;have hwL:A7 (ints (l.map fun (n:Nat)=>(n:Int)))=ints (l.map fun (n:Nat)=>(n:Int)):=by simp only [go_sem, *]
 generalize ints (l.map fun (n:Nat)=>(n:Int))=L at *;replace dv5:h d=some (.box [.fn (.yield C.l) [] []]):=dv5
 repeat' (first|(first|refine A4 ?_|refine ao4 hy M4 hC (fun b hb=>hb) hbd hv h_ 3 rfl rfl rfl rfl rfl ?_|refine o6 (hx _ _) follows h_ ?_|refine x6 ?_)<;>try simp only [go_sem, *])
 refine fun h' hh=>⟨?_,?_⟩
 all_goals
  simp only [go_sem, *]
  repeat' (first|(first|refine A4 ?_|refine K6 ?_)<;>try simp only [go_sem, *])
 ·exact bW1 rfl j_ (fun g w hY=>.inl ⟨rfl,hY⟩) hh
 ·exact bW1 rfl j_ (fun g w hZ=>.inr ⟨rfl,hZ⟩) hh
theorem dw6 (b:Nat) (hb:b<=65536):Iter Tryz.prog env (.fn (.func 196) [] [.el [.int .i64 b] 0]) (rows (an3 b)):=by
 refine ab3 Tryz.func196 rfl h_ fun C g0 w0 h gen hC O4 bh2 M4 S9 hbd=>?_;have hy:=bo2 (c:=⟨Tryz.prog,env,Tryz.f196.ntmps,Tryz.f196,g0,w0,h,.undef,h⟩) (R:=ai2 env C (rows (an3 b)).length g0 w0 h) (fun l hl=>aA3 (hC.lo l hl) hbd);obtain ⟨y,hyd⟩:∃ y,y=yI ⟨Tryz.prog,env,Tryz.f196.ntmps,Tryz.f196,g0,w0,h,.undef,h⟩ C (ai2 env C (rows (an3 b)).length g0 w0 h):=⟨_,rfl⟩;have hLo:y.Lo=C.L:=by rw [hyd];rfl
 have hyb:C.bd<=y.bd:=by rw [hyd];exact hbd
 rw [<- hyd] at hy ⊢;have hx:∀ i hs,XOk Tryz.prog (y.at (fun g w=>C.Y i g w hs)):=fun i hs=>hy.x (hC.xY (w7 _) i hs);have e9:∀ r i,h ⟨gen,r,i⟩=none:=o0 bh2;have hnb:∀ id,C.base id->id≠⟨gen,0,0⟩:=fun id hid e=>O4 id hid (by rw [e];exact e9 0 0);have hnh:∀ id,h id≠none->id≠⟨gen,0,0⟩:=fun id hid e=>hid (by rw [e];exact e9 0 0);have nS:¬ C.S ⟨gen,0,0⟩:=fun hs=>O4 _ (hC.sub _ hs) (e9 0 0);have hlen:(rows (an3 b)).length=1+b+b * b:=by rw [an0,cQ9]
 have v0:(rows (an3 b))[0]? = some [V.agg (az3 []).cells]:=aT9 (dA6 b);have v1:∀ i,i<b->(rows (an3 b))[1+i]? = some [V.agg (az3 [i]).cells]:=fun i hi=>aT9 (dA7 hi);have v2:∀ i m,i<b->m<b->(rows (an3 b))[1+b+(i * b+m)]? = some [V.agg (az3 [i,m]).cells]:=fun i m hi hm=>aT9 (dA8 hi hm);have endZ:∀ gn (h':H),(∀ id,¬ C.S id->h id≠none->h' id=h id)->∀ tm,ARX ⟨Tryz.prog,env,Tryz.f196.ntmps,Tryz.f196,g0,w0,h,.undef,h⟩ (y.at (fun g w=>C.Z g w h')) gn [] .ret ⟨tm,h'⟩:=by
  intro gn h' hs tm;rw [hyd];exact al1 (vs:=rows (an3 b)) (.inl rfl) rfl M4 (fun g w hZ=>.inr hZ) hs
 have endY:∀ gn (h' hs:H),(∀ id,C.base id->h' id=hs id)->(∀ id,¬ C.S id->h id≠none->h' id=h id)->∀ tm,ARX ⟨Tryz.prog,env,Tryz.f196.ntmps,Tryz.f196,g0,w0,h,.undef,h⟩ (y.at (fun g w=>C.Y (1+b+b * b) g w hs)) gn [] .normal ⟨tm,h'⟩:=by
  intro gn h' hs e1 e2 tm;rw [hyd];exact al1 (vs:=rows (an3 b)) (.inr rfl) rfl M4 (fun g w hY=>.inl (by rw [hlen];exact hC.Yh _ _ _ _ _ e1 hY)) e2
 clear hyd hlen S9
 repeat' (first|(first|refine A4 ?_|refine be5 hy M4 hC (fun b hb=>by rw [hLo];exact hb) hyb (bU7 hC ⟨gen,0,0⟩ []) v0 h_ 1 rfl rfl rfl rfl rfl ?_|refine o6 (hx _ _) follows h_ ?_|refine x6 ?_)<;>try simp only [go_sem, *])
 refine ⟨_,_,rfl,by simp [B1,J5,A7,ints],fun id hid=>by rw [y9 (hnb id hid)],fun h' hh=>?_⟩;have own:h' ⟨gen,0,0⟩=some (.box [.fn (.yield C.l) [] []]):=(hh _ nS (by simp only [A1,E8,reduceCtorEq,H9])).trans A1;have js:∀ id,¬ C.S id->h id≠none->h' id=h id:=fun id q1 q2=>(hh id q1 (by simp only;rw [m7 (hnh id q2)];exact q2)).trans (m7 (hnh id q2));clear hh hx;refine ⟨?_,?_⟩
 case refine_2 =>
  simp only [go_sem, *]
  repeat' (first|(first|refine u7 ?_|refine spt rfl ?_|refine K6 ?_)<;>try simp only [go_sem, *])
  exact H3 (endZ _ _ js _)
 have hx:∀ i hs,XOk Tryz.prog (y.at (fun g w=>C.Y i g w hs)):=fun i hs=>hy.x (hC.xY (w7 _) i hs);simp only [go_sem, *]
 repeat' (first|(first|refine A4 ?_|refine u7 ?_|refine spf rfl ?_|refine E1 ?_|refine o6 (hx _ _) follows h_ ?_|refine x6 ?_)<;>try simp only [go_sem, *])
 refine aM6 b (fun m X σ=>σ.tm 12=.int .i64 (m:Nat)/\σ.tm 11=.int .i64 b/\σ.tm 3=.fn (.func 197) [] [.ptr ⟨gen,0,0⟩ 0]/\σ.tm 1=.el [.int .i64 b] 0 /\
  ∃ hs,X=(fun g w=>C.Y (1+m) g w hs)/\(∀ id,C.base id->σ.h id=hs id)/\σ.h ⟨gen,0,0⟩=some (.box [.fn (.yield C.l) [] []])/\(∀ id,¬ C.S id->h id≠none->σ.h id=h id)) ?_ ?_
 ·simp only [go_sem, *]
  exact ⟨rfl,h',rfl,fun _ _=>rfl,js⟩
 clear own js hx;intro y1 gn m X σ e1 e2 e3 e4 de1 hm ⟨j12,j11,j3,j1,hs,hX,jb,jx,js⟩ next out
 subst hX;have hy1:=de1 hy;have hx1:∀ i hs,XOk Tryz.prog (y1.at (fun g w=>C.Y i g w hs)):=fun i hs=>hy1.x (hC.xY (w7 _) i hs);clear de1 e1 e2;rcases R0 m b with hlt|hge
 ·have hd:=Z5 hlt
  have hw:=E2 (i:=m) a_
  repeat' (first|(first|refine A4 ?_|refine u7 ?_|refine E1 ?_|refine spt rfl ?_|refine be5 hy1 M4 hC (fun b hb=>by rw [e3,hLo];exact hb) (by rw [e4];exact hyb) (bU7 hC ⟨gen,0,0⟩ [m]) (v1 m hlt) h_ 3 rfl rfl rfl rfl rfl ?_|refine o6 (hx1 _ _) follows h_ ?_|refine x6 ?_)<;>try simp only [go_sem, *])
  refine ⟨_,_,rfl,by simp [B1,J5,A7,ints],jb,fun h' hh=>?_⟩;have own':=(hh _ nS (by simp only;rw [jx];simp)).trans jx;have js':∀ id,¬ C.S id->h id≠none->h' id=h id:=fun id q1 q2=>(hh id q1 (by simp only;rw [js id q1 q2];exact q2)).trans (js id q1 q2);clear hh;refine ⟨?_,?_⟩
  ·simp only [go_sem, *]
   repeat' (first|(first|refine A4 ?_|refine u7 ?_|refine E1 ?_|refine spf rfl ?_|refine s7 ?_|refine o6 (hx1 _ _) follows h_ ?_)<;>try simp only [go_sem, *])
   refine next _ _ _ hlt ?_
   simp only [go_sem, *];exact ⟨h',rfl,fun _ _=>rfl,js'⟩
  ·simp only [go_sem, *]
   repeat' (first|(first|refine u7 ?_|refine spt rfl ?_|refine K6 ?_)<;>try simp only [go_sem, *])
   exact H3 (out _ _ _ gn (.inl rfl) (H3 (endZ _ _ js' _)))
 ·have hd:=T5 hge
  obtain rfl:m=b:=by omega
  repeat' (first|(first|refine A4 ?_|refine u7 ?_|refine E1 ?_|refine spf rfl ?_|refine o6 (hx1 _ _) follows h_ ?_|refine N2 ?_|refine E3 ?_)<;>try simp only [go_sem, *])
  refine out _ _ _ gn (.inr ⟨_,rfl⟩) ?_;clear next out hx1 hy1
  have hx:∀ i hs,XOk Tryz.prog (y.at (fun g w=>C.Y i g w hs)):=fun i hs=>hy.x (hC.xY (w7 _) i hs);refine C7 ?_
  repeat' (first|(first|refine A4 ?_|refine o6 (hx _ _) follows h_ ?_|refine x6 ?_)<;>try simp only [go_sem, *])
  clear hx hd;refine aM6 m (fun a X σ'=>σ'.tm 22=.int .i64 (a:Nat)/\σ'.tm 21=.int .i64 m/\σ'.tm 3=.fn (.func 197) [] [.ptr ⟨gen,0,0⟩ 0]/\σ'.tm 1=.el [.int .i64 m] 0 /\
   ∃ hs,X=(fun g w=>C.Y (1+m+a * m) g w hs)/\(∀ id,C.base id->σ'.h id=hs id)/\σ'.h ⟨gen,0,0⟩=some (.box [.fn (.yield C.l) [] []])/\(∀ id,¬ C.S id->h id≠none->σ'.h id=h id)) ?_ ?_
  ·simp only [go_sem, *]
   exact ⟨rfl,hs,by rw [Nat.zero_mul,aQ8],jb,js⟩
  clear j12 j11 j3 j1 jb jx js;intro y1 gn a X σ' e1 e2 e3 e4 de1 ha ⟨j22,j21,j3,j1,hs,hX,jb,jx,js⟩ next out
  subst hX;have hy1:=de1 hy;have hx1:∀ i hs,XOk Tryz.prog (y1.at (fun g w=>C.Y i g w hs)):=fun i hs=>hy1.x (hC.xY (w7 _) i hs);clear de1 e1 e2;rcases R0 a m with hlt|hge
  ·have hd:=Z5 hlt
   have hw:=E2 (i:=a) a_
   repeat' (first|(first|refine A4 ?_|refine u7 ?_|refine E1 ?_|refine spt rfl ?_|refine o6 (hx1 _ _) follows h_ ?_|refine x6 ?_)<;>try simp only [go_sem, *])
   refine aM6 m (fun q X σ''=>σ''.tm 26=.int .i64 (q:Nat)/\σ''.tm 25=.int .i64 m/\σ''.tm 5=.int .i64 (a:Nat)/\σ''.tm 22=.int .i64 (a:Nat)/\σ''.tm 21=.int .i64 m/\σ''.tm 3=.fn (.func 197) [] [.ptr ⟨gen,0,0⟩ 0]/\σ''.tm 1=.el [.int .i64 m] 0 /\
    ∃ hs,X=(fun g w=>C.Y (1+m+(a * m+q)) g w hs)/\(∀ id,C.base id->σ''.h id=hs id)/\σ''.h ⟨gen,0,0⟩=some (.box [.fn (.yield C.l) [] []])/\(∀ id,¬ C.S id->h id≠none->σ''.h id=h id)) ?_ ?_
   ·simp only [go_sem, *]
    exact ⟨rfl,hs,by rw [aQ8],jb,js⟩
   clear j22 j21 j3 j1 jb jx js hd hx1;intro y2 gn q X σ'' f1 f2 f3 f4 dX7 hq ⟨j26,j25,j5,j22,j21,j3,j1,hs,hX,jb,jx,js⟩ next2 out2;subst hX;have hy2:=dX7 hy1;have hx2:∀ i hs,XOk Tryz.prog (y2.at (fun g w=>C.Y i g w hs)):=fun i hs=>hy2.x (hC.xY (w7 _) i hs);clear dX7 f1 f2;rcases R0 q m with hlq|hgq
   ·have hd:=Z5 hlq
    have hw2:=E2 (i:=q) a_
    repeat' (first|(first|refine A4 ?_|refine u7 ?_|refine E1 ?_|refine spt rfl ?_|refine be5 hy2 M4 hC (fun b hb=>by rw [f3,e3,hLo];exact hb) (by rw [f4,e4];exact hyb) (bU7 hC ⟨gen,0,0⟩ [a,q]) (v2 a q hlt hlq) h_ 4 rfl rfl rfl rfl rfl ?_|refine o6 (hx2 _ _) follows h_ ?_|refine x6 ?_)<;>try simp only [go_sem, *])
    refine ⟨_,_,rfl,by simp [B1,J5,A7,ints],jb,fun h' hh=>?_⟩;have own':=(hh _ nS (by simp only;rw [jx];simp)).trans jx;have js':∀ id,¬ C.S id->h id≠none->h' id=h id:=fun id q1 q2=>(hh id q1 (by simp only;rw [js id q1 q2];exact q2)).trans (js id q1 q2);clear hh;refine ⟨?_,?_⟩
    ·simp only [go_sem, *]
     repeat' (first|(first|refine A4 ?_|refine u7 ?_|refine E1 ?_|refine spf rfl ?_|refine s7 ?_|refine o6 (hx2 _ _) follows h_ ?_)<;>try simp only [go_sem, *])
     refine next2 _ _ _ hlq ?_;simp only [go_sem, *];exact ⟨h',rfl,fun _ _=>rfl,js'⟩
    ·simp only [go_sem, *]
     repeat' (first|(first|refine u7 ?_|refine spt rfl ?_|refine K6 ?_)<;>try simp only [go_sem, *])
     exact H3 (out2 _ _ _ gn (.inl rfl) (H3 (out _ _ _ gn (.inl rfl) (H3 (endZ _ _ js' _)))))
   ·have hd:=T5 hgq
    obtain rfl:q=m:=by omega
    repeat' (first|(first|refine A4 ?_|refine u7 ?_|refine E1 ?_|refine spf rfl ?_|refine o6 (hx2 _ _) follows h_ ?_|refine N2 ?_|refine E3 ?_)<;>try simp only [go_sem, *])
    refine out2 _ _ _ gn (.inr ⟨_,rfl⟩) ?_;clear next2 out2 hx2 hy2;have hx1:∀ i hs,XOk Tryz.prog (y1.at (fun g w=>C.Y i g w hs)):=fun i hs=>hy1.x (hC.xY (w7 _) i hs);refine C7 ?_
    repeat' (first|(first|refine A4 ?_|refine s7 ?_|refine o6 (hx1 _ _) follows h_ ?_)<;>try simp only [go_sem, *])
    refine next _ _ _ hlt ?_
    simp only [go_sem, *];exact ⟨hs,by rw [bC5],jb,js⟩
  ·have hd:=T5 hge
   obtain rfl:a=m:=by omega
   repeat' (first|(first|refine A4 ?_|refine u7 ?_|refine E1 ?_|refine spf rfl ?_|refine o6 (hx1 _ _) follows h_ ?_|refine N2 ?_|refine E3 ?_)<;>try simp only [go_sem, *])
   refine out _ _ _ gn (.inr ⟨_,rfl⟩) ?_;refine C7 ?_;exact endY _ _ _ jb js _
theorem df3 {t:Ty} {b most:Nat} {L:List PVl} {fv:V} (hm:most<=65536) (hA:Iter Tryz.prog env fv (rows L)) (pa:c_ env 99 [.agg t.cells,.int .i64 b] fv) :
  Iter Tryz.prog env (.fn (.func 98) [] [.el [.int .i64 most] 0,.el t.cells 0,.el [.int .i64 b] 0]) (rows (L.take most)):=by
 refine ab3 Tryz.func98 rfl h_ fun C g0 w0 h gen hC O4 bh2 M4 S9 hbd=>?_;have hy:=bo2 (c:=⟨Tryz.prog,env,Tryz.f98.ntmps,Tryz.f98,g0,w0,h,.undef,h⟩) (R:=ai2 env C (rows (L.take most)).length g0 w0 h) (fun l hl=>aA3 (hC.lo l hl) hbd);have hx:∀ i hs,XOk Tryz.prog ((yI ⟨Tryz.prog,env,Tryz.f98.ntmps,Tryz.f98,g0,w0,h,.undef,h⟩ C (ai2 env C (rows (L.take most)).length g0 w0 h)).at (fun g w=>C.Y i g w hs)):=fun i hs=>hy.x (hC.xY hbd i hs);have e9:∀ r i,h ⟨gen,r,i⟩=none:=o0 bh2;have nS:∀ r i,¬ C.S ⟨gen,r,i⟩:=fun r i hs=>O4 _ (hC.sub _ hs) (e9 r i);have hnb:∀ id,h id≠none->∀ r i,id≠⟨gen,r,i⟩:=fun id hid r i e=>hid (by rw [e];exact e9 r i);rcases bC0 most with h0|cM7
 ·subst h0
  have z:((0:Nat):Int)=0:=rfl;rw [z]
  repeat' (first|(first|refine A4 ?_|refine u7 ?_|refine spt rfl ?_|refine K6 ?_|refine o6 (hx _ _) follows h_ ?_)<;>try simp only [go_sem, *])
  refine H3 ?_;refine al1 (vs:=rows (L.take 0)) (.inl rfl) rfl M4 (fun g w hY=>.inl ?_) (fun id q1 q2=>?_)
  ·exact hC.Yh _ _ _ _ _ (fun id hid=>by simp only;rw [m7 (hnb id (O4 id hid) 1 0),m7 (hnb id (O4 id hid) 0 0)]) hY
  ·simp only;rw [m7 (hnb id q2 1 0),m7 (hnb id q2 0 0)]
 have hd0:((most:Int)==0)=false:=by simp;omega
 repeat' (first|(first|refine A4 ?_|refine u7 ?_|refine spf rfl ?_|refine cp pa ?_|refine E1 ?_|refine o6 (hx _ _) follows h_ ?_|refine x6 ?_)<;>try simp only [go_sem, *])
 have hvA:∀ (i:Nat) (vv:List V),(rows L)[i]? = some vv->∃ v,L[i]? = some v/\vv=[.agg v.cells]:=by
  intro i vv hh;unfold rows at hh;rw [ah6] at hh;cases hv:L[i]? with
  | none=>rw [hv] at hh;simp at hh
  | some v=>rw [hv] at hh;simp at hh;exact ⟨v,rfl,hh.symm⟩
 have hw1:∀ vv∈rows L,vv.length=1:=by intro vv hh;unfold rows at hh;obtain ⟨v,_,rfl⟩:=G5.1 hh;rfl
 clear hx;have hlen:∀ m,L.length=m->m<most->(rows (L.take most)).length=m:=fun m e hlt=>by rw [an0,ae6];omega
 refine aD3 hy (ps:=[12]) (vs:=rows L) (by intro p hp;simp at hp;subst hp;exact ah5 h_) hw1 (fun id=>C.S id\/id=⟨gen,1,0⟩) (fun id hid=>by
   simp only;rcases hid with hid|rfl
   ·rw [m7 (hnb id (O4 id (hC.sub id hid)) 1 0),m7 (hnb id (O4 id (hC.sub id hid)) 0 0)];exact O4 id (hC.sub id hid)
   ·simp only [A1,E8,reduceCtorEq,H9])
  (fun m X hh=>m<most/\∃ hs,X=(fun g w=>C.Y m g w hs)/\(∀ id,C.base id->hh id=hs id)/\hh ⟨gen,0,0⟩=some (.box [.fn (.yield C.l) [] []])/\hh ⟨gen,1,0⟩=some (.box [.int .i64 m])/\∀ id,¬ C.S id->h id≠none->hh id=h id)
  (fun id X hh=>id=none/\(∃ hs,(X=(fun g w=>C.Z g w hs)\/(X=(fun g w=>C.Y most g w hs)/\most<=L.length))/\(∀ id,C.base id->hh id=hs id))/\∀ id,¬ C.S id->h id≠none->hh id=h id)
  (by rintro i X hh ⟨_,hs,rfl,_⟩;exact hC.xY hbd _ _) (by rintro i X hh ⟨_,⟨hs,rfl|⟨rfl,_⟩,_⟩,_⟩;exact hC.xZ hbd _;exact hC.xY hbd _ _)
  (by
   rintro i X h1 h2 e ⟨q0,hs,rfl,j1,j2,j4,j3⟩;have hk:∀ id,h id≠none->h2 id=h1 id:=fun id hid=>e id (by simp only;rw [m7 (hnb id hid 1 0),m7 (hnb id hid 0 0)];exact hid);exact ⟨q0,hs,rfl,fun id hid=>(hk id (O4 id hid)).trans (j1 id hid),(e _ (by simp only [go_sem, *];simp)).trans j2,(e _ (by simp only [go_sem, *];simp)).trans j4,fun id q1 q2=>(hk id q2).trans (j3 id q1 q2)⟩)
  (by
   rintro i X h1 h2 e ⟨q0,⟨hs,hX,j1⟩,j3⟩;have hk:∀ id,h id≠none->h2 id=h1 id:=fun id hid=>e id (by simp only;rw [m7 (hnb id hid 1 0),m7 (hnb id hid 0 0)];exact hid);exact ⟨q0,⟨hs,hX,fun id hid=>(hk id (O4 id hid)).trans (j1 id hid)⟩,fun id q1 q2=>(hk id q2).trans (j3 id q1 q2)⟩)
  S9 ?_ j_ ⟨cM7,h,rfl,fun id hid=>by simp only;rw [m7 (hnb id (O4 id hid) 1 0),m7 (hnb id (O4 id hid) 0 0)],j_,by simp only [go_sem, *];rfl,fun id _ q2=>by simp only;rw [m7 (hnb id q2 1 0),m7 (hnb id q2 0 0)]⟩ rfl rfl ?_ ?_
 ·
  rintro ya yb gn i vv hi X oa ob ⟨l,f1,f2,f3⟩ d1 d2 lo1 lo2 hXS cc7 cc8 hgn hvv ⟨hlt,hs,rfl,jb,jx,jn,js⟩ hnn toB fin finx;obtain ⟨v,hv,rfl⟩:=hvA i vv hvv;have hvP:(rows (L.take most))[i]? = some [V.agg v.cells]:=aT9 (by rw [be2];rw [B8 hlt];exact hv);have hiL:i<L.length:=(F2.1 hv).1;have xa:∀ m hs,XOk Tryz.prog (ya.at (fun g w=>C.Y m g w hs)):=fun m hs=>oa.x (bd:=C.bd) (hC.xY (w7 _) m hs);have xb:∀ m hs,XOk Tryz.prog (yb.at (fun g w=>C.Y m g w hs)):=fun m hs=>ob.x (bd:=C.bd) (hC.xY (w7 _) m hs);have hbb:C.bd<=yb.bd:=S1 hbd (by rw [<- cc7];exact cc8);refine al0 (fun gm hgm=>?_);have hf:∀ r i,hi ⟨gm,r,i⟩=none:=o0 hgm;have hne:∀ id,hi id≠none->∀ r i,id≠⟨gm,r,i⟩:=fun id hid r i e=>hid (by rw [e];exact hf r i);have hbi:∀ id,C.base id->hi id≠none:=fun id hid=>by
   have:=hnn id (by simp only;rw [m7 (hnb id (O4 id hid) 1 0),m7 (hnb id (O4 id hid) 0 0)];exact O4 id hid);exact this
  have eg:(gen=gm)=False:=an5 (fun e=>hne ⟨gen,0,0⟩ (by rw [jx];simp) 0 0 (by rw [e]));have eg':(gm=gen)=False:=an5 (fun e=>hne ⟨gen,0,0⟩ (by rw [jx];simp) 0 0 (by rw [e]));have hw:=E2 (i:=i) a_;clear hnn hvv;simp only [aQ3]
  repeat' (first|(first|refine o6 (xa _ _) follows h_ ?_)<;>try simp only [go_sem, *])
  refine toB _ _ gm hXS ?_;clear toB xa;have hk:∀ id,hi id≠none->id≠⟨gen,1,0⟩->p8 (p8 hi ⟨gm,4,0⟩ (.box v.cells)) ⟨gen,1,0⟩ (.box [.int .i64 ((i+1:Nat):Int)]) id=hi id:=fun id q1 q2=>by
   rw [m7 q2,m7 (hne id q1 4 0)]
  repeat' (first|(first|refine A4 ?_|refine ao4 ob M4 hC (fun b hb=>by rw [lo2];exact hb) hbb hvP h_ 2 rfl rfl rfl rfl rfl ?_|refine o6 (xb _ _) follows h_ ?_|refine x6 ?_)<;>try simp only [go_sem, *])
  refine ⟨fun id hid=>by rw [y9 (hnb id (O4 id (by exact hid)) 1 0),y9 (hne id (hbi id hid) 4 0)];exact jb id hid,fun h' hh=>?_⟩;have j0:h' ⟨gen,0,0⟩=some (.box [.fn (.yield C.l) [] []]):=(hh _ (nS 0 0) (by simp only [go_sem, *];simp)).trans j_;have j1:h' ⟨gen,1,0⟩=some (.box [.int .i64 ((i+1:Nat):Int)]):=(hh _ (nS 1 0) (by simp only [go_sem, *];simp)).trans j_;have jk:∀ id,¬ (C.S id\/id=⟨gen,1,0⟩)->hi id≠none->h' id=hi id:=fun id q1 q2=>by
   have e2:=hk id q2 (fun e=>q1 (.inr e));exact (hh id (fun e=>q1 (.inl e)) (by simp only;rw [e2];exact q2)).trans e2
  have js':∀ id,¬ C.S id->h id≠none->h' id=h id:=fun id q1 q2 =>
   (jk id (fun e=>e.elim q1 (hnb id q2 1 0)) (by rw [js id q1 q2];exact q2)).trans (js id q1 q2)
  clear hh hk jx jn js jb;refine ⟨?_,?_⟩
  ·by_cases he:i+1=most
   ·have hd1:((most:Int)==(most:Int))=true:=by simp
    simp only [go_sem, *]
    repeat' (first|(first|refine A4 ?_|refine u7 ?_|refine spt rfl ?_|refine K6 ?_)<;>try simp only [go_sem, *])
    refine H3 ?_;exact finx _ _ none _ ⟨rfl,⟨h',.inr ⟨rfl,a_⟩,fun _ _=>rfl⟩,js'⟩ jk
   ·have hd1:(((i+1:Nat):Int)==(most:Int))=false:=by simp;omega
    simp only [go_sem, *]
    repeat' (first|(first|refine A4 ?_|refine u7 ?_|refine spf rfl ?_|refine E1 ?_|refine s7 ?_)<;>try simp only [go_sem, *])
    exact fin _ _ _ ⟨a_,h',rfl,fun _ _=>rfl,j0,j1,js'⟩ jk
  ·simp only [go_sem, *]
   repeat' (first|(first|refine u7 ?_|refine spt rfl ?_|refine K6 ?_)<;>try simp only [go_sem, *])
   refine H3 ?_;exact finx _ _ none _ ⟨rfl,⟨h',.inl rfl,fun _ _=>rfl⟩,js'⟩ jk
 ·rintro D X' h' hD ok ⟨hlt,hs,rfl,jb,jx,jn,js⟩ ak2
  refine s7 ?_;refine ao3 hC (.inr rfl) rfl M4 S9 hbd hD (fun g w hY=>.inl ?_) js;rw [an0] at hlt hY;rw [hlen _ rfl hlt];exact hC.Yh _ _ _ _ _ jb hY
 ·rintro D id X' h' hD ok ⟨rfl,⟨hs,hX,jb⟩,js⟩ ak2
  refine H3 ?_;rcases hX with rfl|⟨rfl,hle⟩
  ·exact ao3 hC (.inl rfl) rfl M4 S9 hbd hD (fun g w hZ=>.inr (hC.Zh _ _ _ _ jb hZ)) js
  ·refine ao3 hC (.inl rfl) rfl M4 S9 hbd hD (fun g w hY=>.inl ?_) js
   rw [an0,ae6,aZ0 hle];exact hC.Yh _ _ _ _ _ jb hY
theorem ints_at {l:List Nat} {i:Nat} {x:Nat} (h:l[i]? = some x):(ints (l.map fun (n:Nat)=>(n:Int)))[i]? = some [.int .i64 (x:Int)]:=by
 rw [bx4,ah6,h];rfl
theorem bb8 (l:List Nat):(ints (l.map fun (n:Nat)=>(n:Int))).length=l.length:=by rw [bb7,ao2]
theorem cr0 {l:List Nat} {i x:Nat} (h:l[i]? = some x):aB6 (l.drop i)=tm0 8 [G3 x,aB6 (l.drop (i+1))]:=by rw [s9 h];rfl
theorem dr4 (b:Nat):c_ env 157 [.int .i64 b] (.fn (.func 196) [] [.el [.int .i64 b] 0]):=by
 intro h;refine g_ Tryz.func157 [.tmp 2] fun g0 w0 gen g9 hfr e9 n8=>?_;refine K8 ?_;refine D2 ?_;simp only [go_sem, *];refine N3 ⟨gen,0,0⟩ [(1,.el [.int .i64 b] 0),(2,.V7)] [] (cs:=[.int .i64 b]) rfl rfl g9 j_ (e9 0 0) b_ (m8.new (m8.refl _) (e9 0 0)) (by simp [InL,InV]) b_ (by
  intro p hp;simp only [D9,K0,D1] at hp;rcases hp with rfl|rfl
  ·exact ⟨.inr (.inr ⟨0,j_,rfl⟩),by simp [InV,InL]⟩
  ·exact ⟨.inr (.inl j_),by simp [InV]⟩) ?_
 simp only [List.foldr];exact i_
theorem dr1 (t:Ty) (b m:Nat):c_ env 59 [.agg t.cells,.int .i64 b,.int .i64 m] (.fn (.func 98) [] [.el [.int .i64 m] 0,.el t.cells 0,.el [.int .i64 b] 0]):=by
 intro h;refine g_ Tryz.func59 [.tmp 6] fun g0 w0 gen g9 hfr e9 n8=>?_;refine K8 ?_;refine D2 ?_;simp only [go_sem, *];refine N3 ⟨gen,0,0⟩ [(3,.el t.cells 0),(4,.ptr ⟨gen,0,1⟩ 0),(5,.ptr ⟨gen,0,2⟩ 0),(6,.V7)] [(⟨gen,0,1⟩,[.int .i64 b],[.int .i64 b]),(⟨gen,0,2⟩,[.int .i64 m],[.int .i64 m])] (cs:=t.cells) rfl rfl g9 j_ (e9 0 0) b_ (by repeat (first|exact m8.refl _|refine m8.new ?_ (e9 _ _))) (by simp only [go_sem, *,G4,I7,E8,reduceCtorEq,H9]) (by intro b hb;simp only [D9,K0,D1] at hb;rcases hb with rfl|rfl<;>exact ⟨e9 _ _,j_,rfl,(by intro p hp;simp only [be1,be3,be0,D9,K0,D1] at hp;subst hp;exact .inr (.inl rfl)),j_⟩) (by
  intro p hp;simp only [D9,K0,D1] at hp;rcases hp with rfl|rfl|rfl|rfl
  ·exact ⟨.inr (.inr ⟨0,j_,rfl⟩),by simp only [go_sem, *,G4,I7,E8,reduceCtorEq,H9]⟩
  ·exact ⟨.inr (.inl j_),by simp only [go_sem, *,G4,I7,E8,reduceCtorEq,H9]⟩
  ·exact ⟨.inr (.inl j_),by simp only [go_sem, *,G4,I7,E8,reduceCtorEq,H9]⟩
  ·exact ⟨.inr (.inl j_),by simp only [go_sem, *,G4,I7,E8,reduceCtorEq,H9]⟩) ?_
 simp only [List.foldr];refine N3 ⟨gen,0,1⟩ [(3,.el t.cells 0),(4,.el [.int .i64 b] 0),(5,.ptr ⟨gen,0,2⟩ 0),(6,.V7)] [(⟨gen,0,2⟩,[.int .i64 m],[.int .i64 m])] (cs:=[.int .i64 b]) rfl rfl g9 j_ (e9 0 1) b_ (by repeat (first|exact m8.refl _|refine m8.new ?_ (e9 _ _))) (by simp only [go_sem, *,G4,I7,E8,reduceCtorEq,H9]) (by intro b hb;simp only [D9,K0,D1] at hb;rcases hb with rfl<;>exact ⟨e9 _ _,j_,rfl,(by intro p hp;simp only [be1,be3,be0,D9,K0,D1] at hp;subst hp;exact .inr (.inl rfl)),j_⟩) (by
  intro p hp;simp only [D9,K0,D1] at hp;rcases hp with rfl|rfl|rfl|rfl
  ·exact ⟨.inr (.inl j_),by simp only [go_sem, *,G4,I7,E8,reduceCtorEq,H9]⟩
  ·exact ⟨.inr (.inr ⟨0,j_,rfl⟩),by simp only [go_sem, *,G4,I7,E8,reduceCtorEq,H9]⟩
  ·exact ⟨.inr (.inl j_),by simp only [go_sem, *,G4,I7,E8,reduceCtorEq,H9]⟩
  ·exact ⟨.inr (.inl j_),by simp only [go_sem, *,G4,I7,E8,reduceCtorEq,H9]⟩) ?_
 simp only [List.foldr];refine N3 ⟨gen,0,2⟩ [(3,.el t.cells 0),(4,.el [.int .i64 b] 0),(5,.el [.int .i64 m] 0),(6,.V7)] [] (cs:=[.int .i64 m]) rfl rfl g9 j_ (e9 0 2) b_ (by repeat (first|exact m8.refl _|refine m8.new ?_ (e9 _ _))) (by simp only [go_sem, *,G4,I7,E8,reduceCtorEq,H9]) b_ (by
  intro p hp;simp only [D9,K0,D1] at hp;rcases hp with rfl|rfl|rfl|rfl
  ·exact ⟨.inr (.inl j_),by simp only [go_sem, *,G4,I7,E8,reduceCtorEq,H9]⟩
  ·exact ⟨.inr (.inl j_),by simp only [go_sem, *,G4,I7,E8,reduceCtorEq,H9]⟩
  ·exact ⟨.inr (.inr ⟨0,j_,rfl⟩),by simp only [go_sem, *,G4,I7,E8,reduceCtorEq,H9]⟩
  ·exact ⟨.inr (.inl j_),by simp only [go_sem, *,G4,I7,E8,reduceCtorEq,H9]⟩) ?_
 simp only [List.foldr];exact i_
def dc9 (b:Nat) (t:Ty):V :=
 if t.kind==2 then .fn (.func 196) [] [.el [.int .i64 b] 0] else if t.kind==5 then .fn (.func 158) [] [] else if t.kind==3 then .fn (.func 159) [] [.el t.cells 0,.el [.int .i64 b] 0] else .fn (.func 160) [] [.el [.int .i64 b] 0]
theorem bv2 (t:Ty) (b:Nat):c_ env 99 [.agg t.cells,.int .i64 b] (dc9 b t):=by
 intro h;have h1:=dr4 b;unfold dc9;cases k2:(t.kind==2) with
 | true =>
  simp only [p7];exact d_ Tryz.func99 [.tmp 4]
 | false =>
 cases k5:(t.kind==5) with
 | true =>
  simp only [p7,B2,r6];exact d_ Tryz.func99 [.tmp 4]
 | false =>
 simp only [p7,B2,r6];cases k3:(t.kind==3) with
 | true =>
  simp only [p7];refine g_ Tryz.func99 [.tmp 4] fun g0 w0 gen g9 hfr e9 n8=>?_;refine K8 ?_;refine D2 ?_;simp only [go_sem, *];refine N3 ⟨gen,0,0⟩ [(2,.el t.cells 0),(3,.ptr ⟨gen,0,1⟩ 0),(4,.V7)] [(⟨gen,0,1⟩,[.int .i64 b],[.int .i64 b])] (cs:=t.cells) rfl rfl g9 j_ (e9 0 0) b_ (by repeat (first|exact m8.refl _|refine m8.new ?_ (e9 _ _))) (by simp only [go_sem, *,G4,I7,E8,reduceCtorEq,H9]) (by intro b hb;simp only [D9,K0,D1] at hb;rcases hb with rfl<;>exact ⟨e9 _ _,j_,rfl,(by intro p hp;simp only [be1,be3,be0,D9,K0,D1] at hp;subst hp;exact .inr (.inl rfl)),j_⟩) (by
   intro p hp;simp only [D9,K0,D1] at hp;rcases hp with rfl|rfl|rfl
   ·exact ⟨.inr (.inr ⟨0,j_,rfl⟩),by simp only [go_sem, *,G4,I7,E8,reduceCtorEq,H9]⟩
   ·exact ⟨.inr (.inl j_),by simp only [go_sem, *,G4,I7,E8,reduceCtorEq,H9]⟩
   ·exact ⟨.inr (.inl j_),by simp only [go_sem, *,G4,I7,E8,reduceCtorEq,H9]⟩) ?_
  simp only [List.foldr];refine N3 ⟨gen,0,1⟩ [(2,.el t.cells 0),(3,.el [.int .i64 b] 0),(4,.V7)] [] (cs:=[.int .i64 b]) rfl rfl g9 j_ (e9 0 1) b_ (by repeat (first|exact m8.refl _|refine m8.new ?_ (e9 _ _))) (by simp only [go_sem, *,G4,I7,E8,reduceCtorEq,H9]) b_ (by
   intro p hp;simp only [D9,K0,D1] at hp;rcases hp with rfl|rfl|rfl
   ·exact ⟨.inr (.inl j_),by simp only [go_sem, *,G4,I7,E8,reduceCtorEq,H9]⟩
   ·exact ⟨.inr (.inr ⟨0,j_,rfl⟩),by simp only [go_sem, *,G4,I7,E8,reduceCtorEq,H9]⟩
   ·exact ⟨.inr (.inl j_),by simp only [go_sem, *,G4,I7,E8,reduceCtorEq,H9]⟩) ?_
  simp only [List.foldr];exact i_
 | false =>
  simp only [B2,r6];refine g_ Tryz.func99 [.tmp 4] fun g0 w0 gen g9 hfr e9 n8=>?_;refine K8 ?_;refine D2 ?_;simp only [go_sem, *];refine N3 ⟨gen,0,0⟩ [(2,.el t.cells 0),(3,.ptr ⟨gen,0,1⟩ 0),(4,.V7)] [(⟨gen,0,1⟩,[.int .i64 b],[.int .i64 b])] (cs:=t.cells) rfl rfl g9 j_ (e9 0 0) b_ (by repeat (first|exact m8.refl _|refine m8.new ?_ (e9 _ _))) (by simp only [go_sem, *,G4,I7,E8,reduceCtorEq,H9]) (by intro b hb;simp only [D9,K0,D1] at hb;rcases hb with rfl<;>exact ⟨e9 _ _,j_,rfl,(by intro p hp;simp only [be1,be3,be0,D9,K0,D1] at hp;subst hp;exact .inr (.inl rfl)),j_⟩) (by
   intro p hp;simp only [D9,K0,D1] at hp;rcases hp with rfl|rfl|rfl
   ·exact ⟨.inr (.inr ⟨0,j_,rfl⟩),by simp only [go_sem, *,G4,I7,E8,reduceCtorEq,H9]⟩
   ·exact ⟨.inr (.inl j_),by simp only [go_sem, *,G4,I7,E8,reduceCtorEq,H9]⟩
   ·exact ⟨.inr (.inl j_),by simp only [go_sem, *,G4,I7,E8,reduceCtorEq,H9]⟩) ?_
  simp only [List.foldr];refine N3 ⟨gen,0,1⟩ [(2,.el t.cells 0),(3,.el [.int .i64 b] 0),(4,.V7)] [] (cs:=[.int .i64 b]) rfl rfl g9 j_ (e9 0 1) b_ (by repeat (first|exact m8.refl _|refine m8.new ?_ (e9 _ _))) (by simp only [go_sem, *,G4,I7,E8,reduceCtorEq,H9]) b_ (by
   intro p hp;simp only [D9,K0,D1] at hp;rcases hp with rfl|rfl|rfl
   ·exact ⟨.inr (.inl j_),by simp only [go_sem, *,G4,I7,E8,reduceCtorEq,H9]⟩
   ·exact ⟨.inr (.inr ⟨0,j_,rfl⟩),by simp only [go_sem, *,G4,I7,E8,reduceCtorEq,H9]⟩
   ·exact ⟨.inr (.inl j_),by simp only [go_sem, *,G4,I7,E8,reduceCtorEq,H9]⟩) ?_
  simp only [List.foldr];exact i_
theorem cN3 (b:Nat) (hb:b<=65536) {t:Ty} (ht:PlT t):Iter Tryz.prog env (dc9 b t) (rows (ac3 b t)):=by
 induction ht with
 | nat=>exact dN4 b hb
 | list=>exact dw6 b hb
 | unit=>exact dw8
 | @pair a c _ _ ih1 ih2 =>
  have:ac3 b (B6 a c)=aV8 (ac3 b a) (ac3 b c):=by rw [B6,ac3]
  rw [this];exact dw7 ih1 ih2 (bv2 a b) (bv2 c b)
open Go.RowKit Go.Shelf
theorem cU6 (l pb po b off len cap:Nat) (elm:Nat->Value) (hreach:len * 8<=140737488351232) (K:Nat->World->Prop) (Kx:World->Prop)
  (hr:∀ i W,i<=len->K i W->W.cell? ⟨pb,po,none⟩=some (.slice (some ⟨b,off,none⟩) len cap)/\∀ j,j<len->W.cell? ⟨b,off+j,none⟩=some (elm j))
  (hY:∀ (i:Nat) W,i<len->K (i+1) W->YieldAt Fence.wide (0 - 1) Tryz.prog l #[.int .i64 (i:Int),elm i] W fun e W'=>(e=.returned (.bool true)/\K i W')\/(e=.returned (.bool false)/\Kx W'))
  (W:World) (h0:K len W) :
  CallsIn Fence.wide 0 Tryz.prog 202 #[.func (.yield l) #[] #[],.pointer (some ⟨pb,po,none⟩)] W fun e W'=>(∃ v,e=.returned v)/\(K 0 W'\/Kx W'):=by
 refine aG7 Tryz.func202 rfl trivial ?_ rfl;simp only [Tryz.ntmps202,aG4,J1,S0,Nat.reduceAdd,Nat.reduceSub,aG1,aG0,aG5,aG3,Q3,R9];obtain ⟨hBs,hc⟩:=hr _ _ (w7 _) h0
 gi_wp2
 gi_loopw [3] (fun i wr=>∃ k:Nat,k<=len/\i=.int .i64 ((k:Int) - 1)/\K k wr) (fun i _=>(intOf i+1).toNat)
 case atStart=>exact ⟨len,w7 _,rfl,h0⟩
 case round =>
  obtain ⟨k,hk,rfl,hJs⟩:=hrel;obtain ⟨hBs',hc'⟩:=hr _ _ hk hJs;rcases k with _|k
  ·gi_wp2
   go_end0
   exact ⟨⟨_,rfl⟩,.inl hJs⟩
  ·have hcx:=hc' k a_
   obtain ⟨fn,tmps,assign,body,hy,hR⟩:=hY k wr a_ hJs;rw [show (((k+1:Nat):Int) - 1)=(k:Int) by omega]
   gi_wp2
   refine ⟨rfl,hR.mono ?_⟩;rintro e W3 (⟨rfl,hJ3⟩|⟨rfl,hJx3⟩)
   ·gi_wp2
    go_roundw
    case rel=>exact ⟨k,a_,rfl,hJ3⟩
    case measure=>simp [intOf]
   ·gi_wp2
    refine aW5 (aL9 rfl _ _ _) rfl ?_;exact ⟨⟨_,rfl⟩,.inr hJx3⟩
theorem cH0 (l pb po:Nat) (a:Option Addr) (cap:Nat) (W:World) (Q:World->Prop) (hBs:W.cell? ⟨pb,po,none⟩=some (.slice a 0 cap)) (h0:Q W) :
  CallsIn Fence.wide 0 Tryz.prog 202 #[.func (.yield l) #[] #[],.pointer (some ⟨pb,po,none⟩)] W fun e W'=>(∃ v,e=.returned v)/\Q W':=by
 refine aG7 Tryz.func202 rfl trivial ?_ rfl;simp only [Tryz.ntmps202,aG4,J1,S0,Nat.reduceAdd,Nat.reduceSub,aG1,aG0,aG5,aG3,Q3,R9]
 gi_wp2
 gi_loopw [3] (fun i wr=>i=.int .i64 (-1)/\Q wr) (fun _ _=>0)
 case atStart=>exact ⟨rfl,h0⟩
 case round =>
  obtain ⟨rfl,hJs⟩:=hrel
  gi_wp2
  go_end0
  exact ⟨⟨_,rfl⟩,hJs⟩
theorem cU7:cj4 Tryz.prog 202 where
 call:=⟨_,Tryz.func202,rfl,by kernel_rfl⟩
 go:=fun l pb po a len cap elm K Kx aP3 ha hr hY W h0=>by
  by_cases hl:len=0
  ·subst hl
   exact (cH0 l pb po a cap W (K 0) (hr 0 W (w7 _) h0).1 h0).mono fun e w' h=>⟨h.1,.inl h.2⟩
  ·obtain ⟨b,off,rfl⟩:=ha hl
   exact cU6 l pb po b off len cap elm aP3 K Kx (fun i W hi hK=>⟨(hr i W hi hK).1,fun j hj=>(hr i W hi hK).2 b off rfl j hj⟩) hY W h0
theorem bY4 {c:Cap} {es:List (List V)}:c_ env 165 [.sl c es] (.fn (.func 202) [] [.el [.sl .any es] 0]):=by
 refine aY5 (ty:=22) ⟨_,Tryz.func165,rfl,by kernel_rfl⟩ fun a len cap w=>callsIn_wide.1 (?_:CallsIn Fence.wide 0 _ _ _ _ _);refine aG7 (n:=0) Tryz.func165 rfl trivial ?_ rfl;simp only [Tryz.ntmps165,aG4,J1,S0,Nat.reduceAdd,Nat.reduceSub,aG1,aG0,aG5,aG3,Q3,R9]
 gi_wp2
 go_ret
 exact ⟨rfl,rfl⟩
theorem cU8 (l pb po b off len cap:Nat) (elm:Nat->Value) (hreach:len * 8<=140737488351232) (K:Nat->World->Prop) (Kx:World->Prop)
  (hr:∀ i W,i<=len->K i W->W.cell? ⟨pb,po,none⟩=some (.slice (some ⟨b,off,none⟩) len cap)/\∀ j,j<len * 5->W.cell? ⟨b,off+j,none⟩=some (elm j))
  (hY:∀ (i:Nat) W,i<len->K (i+1) W->YieldAt Fence.wide (0 - 1) Tryz.prog l #[.int .i64 (i:Int),.agg #[elm (i * 5),elm (i * 5+1),elm (i * 5+2),elm (i * 5+3),elm (i * 5+4)]] W fun e W'=>(e=.returned (.bool true)/\K i W')\/(e=.returned (.bool false)/\Kx W'))
  (W:World) (h0:K len W) :
  CallsIn Fence.wide 0 Tryz.prog 104 #[.func (.yield l) #[] #[],.pointer (some ⟨pb,po,none⟩)] W fun e W'=>(∃ v,e=.returned v)/\(K 0 W'\/Kx W'):=by
 refine aG7 Tryz.func104 rfl trivial ?_ rfl;simp only [Tryz.ntmps104,aG4,J1,S0,Nat.reduceAdd,Nat.reduceSub,aG1,aG0,aG5,aG3,Q3,R9];obtain ⟨hBs,hc⟩:=hr _ _ (w7 _) h0
 gi_wp2
 gi_loopw [3] (fun i wr=>∃ k:Nat,k<=len/\i=.int .i64 ((k:Int) - 1)/\K k wr) (fun i _=>(intOf i+1).toNat)
 case atStart=>exact ⟨len,w7 _,rfl,h0⟩
 case round =>
  obtain ⟨k,hk,rfl,hJs⟩:=hrel;obtain ⟨hBs',hc'⟩:=hr _ _ hk hJs;rcases k with _|k
  ·gi_wp2
   go_end0
   exact ⟨⟨_,rfl⟩,.inl hJs⟩
  ·have hc0:=hc' (k * 5) a_
   have hc1:=hc' (k * 5+1) a_;rw [<- aL8] at hc1;have hc2:=hc' (k * 5+2) a_;rw [<- aL8] at hc2;have hc3:=hc' (k * 5+3) a_;rw [<- aL8] at hc3;have hc4:=hc' (k * 5+4) a_;rw [<- aL8] at hc4;obtain ⟨fn,tmps,assign,body,hy,hR⟩:=hY k wr a_ hJs;rw [show (((k+1:Nat):Int) - 1)=(k:Int) by omega]
   gi_wp2
   refine ⟨rfl,hR.mono ?_⟩;rintro e W3 (⟨rfl,hJ3⟩|⟨rfl,hJx3⟩)
   ·gi_wp2
    go_roundw
    case rel=>exact ⟨k,a_,rfl,hJ3⟩
    case measure=>simp [intOf]
   ·gi_wp2
    refine aW5 (aL9 rfl _ _ _) rfl ?_;exact ⟨⟨_,rfl⟩,.inr hJx3⟩
theorem cH1 (l pb po:Nat) (a:Option Addr) (cap:Nat) (W:World) (Q:World->Prop) (hBs:W.cell? ⟨pb,po,none⟩=some (.slice a 0 cap)) (h0:Q W) :
  CallsIn Fence.wide 0 Tryz.prog 104 #[.func (.yield l) #[] #[],.pointer (some ⟨pb,po,none⟩)] W fun e W'=>(∃ v,e=.returned v)/\Q W':=by
 refine aG7 Tryz.func104 rfl trivial ?_ rfl;simp only [Tryz.ntmps104,aG4,J1,S0,Nat.reduceAdd,Nat.reduceSub,aG1,aG0,aG5,aG3,Q3,R9]
 gi_wp2
 gi_loopw [3] (fun i wr=>i=.int .i64 (-1)/\Q wr) (fun _ _=>0)
 case atStart=>exact ⟨rfl,h0⟩
 case round =>
  obtain ⟨rfl,hJs⟩:=hrel
  gi_wp2
  go_end0
  exact ⟨⟨_,rfl⟩,hJs⟩
theorem cU9:cx4 Tryz.prog 104 where
 call:=⟨_,Tryz.func104,rfl,by kernel_rfl⟩
 go:=fun l pb po a len cap elm K Kx aP3 ha hr hY W h0=>by
  by_cases hl:len=0
  ·subst hl
   exact (cH1 l pb po a cap W (K 0) (hr 0 W (w7 _) h0).1 h0).mono fun e w' h=>⟨h.1,.inl h.2⟩
  ·obtain ⟨b,off,rfl⟩:=ha hl
   exact cU8 l pb po b off len cap elm aP3 K Kx (fun i W hi hK=>⟨(hr i W hi hK).1,fun j hj=>(hr i W hi hK).2 b off rfl j hj⟩) hY W h0
theorem bk3 {c:Cap} {es:List (List V)}:c_ env 62 [.sl c es] (.fn (.func 104) [] [.el [.sl .any es] 0]):=by
 refine aY5 (ty:=30) ⟨_,Tryz.func62,rfl,by kernel_rfl⟩ fun a len cap w=>callsIn_wide.1 (?_:CallsIn Fence.wide 0 _ _ _ _ _);refine aG7 (n:=0) Tryz.func62 rfl trivial ?_ rfl;simp only [Tryz.ntmps62,aG4,J1,S0,Nat.reduceAdd,Nat.reduceSub,aG1,aG0,aG5,aG3,Q3,R9]
 gi_wp2
 go_ret
 exact ⟨rfl,rfl⟩
theorem dq2 (l:List Int) (hl:l.length<=5000):c_ env 65 [.sl .any (ints l)] (.sl .any (ints l)):=by
 intro h;have hlen:(ints l).length<=5000:=by rw [bb7];exact hl
 have h1:(ints l).all (fun e=>e.length==1)=true:=by simp [ints]
 have hwL:A7 (ints l)=ints l:=aa6 l;have hz:0+(ints l).length=(ints l).length:=aW6 _;have h2:(ints l).flatten.all am9=true:=by
  unfold ints;rw [ad2];intro v hv;obtain ⟨r,hr,hv⟩:=bj4.1 hv;obtain ⟨n,_,rfl⟩:=G5.1 hr;simp at hv;subst hv;rfl
 have h3:(ints l).length * 8<=140737488355328:=by omega
 have h4:(ints l).length<=140737488355328:=by omega
 have h5:∀ S,S8 S (ints l):=fun S=>by simp only [go_sem, *]
 generalize ints l=L at *;refine g_ Tryz.func65 [.tmp 2] fun g0 w0 gen g9 hfr e9 n8=>?_;refine K8 ?_;refine D2 ?_;simp only [go_sem, *];refine K8 ?_;refine K8 ?_;refine bD1 1 rfl rfl rfl rfl Tryz.underlying22 ?_;simp only [go_sem, *];refine ⟨_,_,rfl,fun b hb=>?_⟩;cases b with
 | true =>
  obtain rfl:=hb rfl;exact i_
 | false =>
  clear hb;exact i_
theorem dT4:∀ v:PVl,VlW v->c_ env 24 [.agg v.cells] (.agg v.cells):=by
 intro v
 induction v using PVl.ind with|h t ih=>?_
 intro ht h;have hlen:=ht.len;have hll:t.list.length<=5000:=by cases ht;assumption
 have ih':∀ x∈t.args,c_ env 24 [.agg x.cells] (.agg x.cells):=fun x hx=>ih x hx (ht.arg x hx);clear ih ht;have hC:=dq2 t.list hll;clear hll;rw [PVl.l4 t];have hwL:A7 (ints t.list)=ints t.list:=aa6 _;have h5:∀ S,S8 S (ints t.list):=fun S=>by simp only [go_sem, *]
 generalize ints t.list=Li at *;refine g_ Tryz.func24 [.cell 2 55] fun g0 w0 gen g9 hfr e9 n8=>?_;refine e_ ?_;refine k_ [1,2,13] [⟨gen,0,1⟩] (fun i σ=>∃ v,σ.h ⟨gen,0,0⟩=some (.box [.int .i64 t.kind,.int .i64 t.num,.sl .any Li,v])/\Q4 h σ.h v 4 ((t.args.take i).map PVl.cells)) (t.args) ?_ ?_ ?_
 ·simp only [go_sem, *]
  exact ⟨f_,_,rfl,.inl rfl⟩
 ·
  intro i x σ gr0 o5 hgf l6 l9 m6 hx hxm hm hlt jI jN jT jA ⟨v,jb,jO0⟩;have hc:=ih' x hxm;have hts:(t.args.take (i+1)).map PVl.cells=(t.args.take i).map PVl.cells++[x.cells]:=by rw [bC8,hx];simp
  clear ih' hC;exact p_
 ·
  intro σ ga0 q9 hgf l6 l8 m5 jT jA ⟨v,jb,jO0⟩;rw [L2] at jO0;obtain ⟨c,rfl⟩:=jO0.val;clear ih' hC;exact i_
end Go.Proofs.YtmfhhhhnokhggaaGreatDoor
