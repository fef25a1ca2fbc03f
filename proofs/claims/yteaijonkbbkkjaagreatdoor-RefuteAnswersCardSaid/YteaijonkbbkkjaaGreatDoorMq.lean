/-
 Walks: several parts in one text.
-/
import Derived.Test.YteaijonkbbkkjaaGreatDoorMa
import Derived.Test.YteaijonkbbkkjaaGreatDoorAbsDc
set_option linter.unusedSimpArgs false
set_option linter.unusedVariables false
set_option maxRecDepth 20000
set_option maxHeartbeats 4000000
namespace Go.Proofs.YteaijonkbbkkjaaGreatDoor
open Go GoAbs Go.Proofs
theorem cM7 (b:Nat) (hb:b≤65536):Iter Tryz.prog env (.fn (.func 106) [] [.el [.int .i64 b] 0]) (rows (ar1 b)):=by
 refine W7 Tryz.func106 rfl kr_ fun C g0 w0 h gen hC N1 aM1 K0 N3 hbd=>?_;have hy:=aT2 (c:=⟨Tryz.prog,env,Tryz.f106.ntmps,Tryz.f106,g0,w0,h,.undef,h⟩) (R:=ac1 env C (rows (ar1 b)).length g0 w0 h) (fun l hl=>Nat.lt_of_lt_of_le (hC.lo l hl) hbd);have hx:∀ i hs,XOk Tryz.prog ((yI ⟨Tryz.prog,env,Tryz.f106.ntmps,Tryz.f106,g0,w0,h,.undef,h⟩ C (ac1 env C (rows (ar1 b)).length g0 w0 h)).at (fun g w=>C.Y i g w hs)):=fun i hs=>hy.x (hC.xY hbd i hs)
 repeat' (first|(first|refine x9 ?_|refine m9 (hx _ _) follows kr_ ?_|refine u0 ?_)<;>try simp only [go_sem, *])
 have hv:∀ i,i<b→(rows (ar1 b))[i]? = some [V.agg (bc8 i).cells]:=fun i hi=>aD7 (cq6 hi);have hlen:(rows (ar1 b)).length=b:=by rw [aa2,bW3]
 refine aA3 b (fun m X σ=>σ.tm 5=.int .i64 (m:Nat)∧σ.tm 4=.int .i64 b∧σ.tm 0=.fn (.yield C.l) [] []∧∃ hs,X=(fun g w=>C.Y m g w hs)∧(∀ id,C.base id→σ.h id=hs id)∧(∀ id,¬ C.S id→h id≠none→σ.h id=h id)) ?_ ?_
 ·simp only [go_sem, *]
  exact ⟨rfl,h,rfl,fun _ _=>rfl⟩
 intro y' gn m X σ e1 e2 e3 e4 cR4 hm ⟨j5,j4,j0,hs,hX,jb,js⟩ next out
 subst hX;have hy':=cR4 hy;have hx':∀ i hs,XOk Tryz.prog (y'.at (fun g w=>C.Y i g w hs)):=fun i hs=>hy'.x (bd:=C.bd) (hC.xY (Nat.le_refl _) i hs);have hz':∀ hs,XOk Tryz.prog (y'.at (fun g w=>C.Z g w hs)):=fun hs=>hy'.x (bd:=C.bd) (hC.xZ (Nat.le_refl _) hs);rcases Nat.lt_or_ge m b with hlt|hge
 ·have hd:=T5 hlt
  have hw:=z7 (i:=m) om_
  repeat' (first|(first|refine x9 ?_|refine s9 ?_|refine z8 ?_|refine spt rfl ?_|refine ah6 hy' K0 hC (fun b hb=>by rw [e3];exact hb) (by rw [e4];exact hbd) (hv m hlt) kr_ 3 rfl rfl rfl rfl rfl ?_|refine m9 (hx' _ _) follows kr_ ?_|refine u0 ?_)<;>try simp only [go_sem, *])
  refine ⟨rfl,jb,fun h' hh=>⟨?_,?_⟩⟩
  ·simp only [go_sem, *]
   repeat' (first|(first|refine x9 ?_|refine s9 ?_|refine z8 ?_|refine spf rfl ?_|refine r7 ?_|refine m9 (hx' _ _) follows kr_ ?_)<;>try simp only [go_sem, *])
   refine next _ _ _ hlt ?_
   simp only [go_sem, *];exact ⟨h',rfl,fun _ _=>rfl,fun id h1 h2=>(hh id h1 (by rw [js id h1 h2];exact h2)).trans (js id h1 h2)⟩
  ·simp only [go_sem, *]
   repeat' (first|(first|refine s9 ?_|refine spt rfl ?_|refine D5 ?_)<;>try simp only [go_sem, *])
   refine E6 (out _ _ _ gn (.inl rfl) (E6 ?_));exact ae8 (vs:=rows (ar1 b)) (.inl rfl) rfl K0 (fun g w hZ=>.inr hZ) (fun id h1 h2=>(hh id h1 (by rw [js id h1 h2];exact h2)).trans (js id h1 h2))
 ·have hd:=O2 hge
  obtain rfl:m=b:=by omega
  repeat' (first|(first|refine x9 ?_|refine s9 ?_|refine z8 ?_|refine spf rfl ?_|refine m9 (hx' _ _) follows kr_ ?_|refine F3 ?_|refine A5 ?_)<;>try simp only [go_sem, *])
  refine out _ _ _ gn (.inr ⟨_,rfl⟩) ?_;refine A6 ?_;refine ae8 (vs:=rows (ar1 m)) (.inr rfl) rfl K0 (fun g w hY=>.inl ?_) js;rw [hlen];exact hC.Yh _ _ _ _ _ jb hY
theorem cH3:Iter Tryz.prog env (.fn (.func 104) [] []) (rows [aQ5]):=by
 refine W7 Tryz.func104 rfl kr_ fun C g0 w0 h gen hC N1 aM1 K0 N3 hbd=>?_;have hy:=aT2 (c:=⟨Tryz.prog,env,Tryz.f104.ntmps,Tryz.f104,g0,w0,h,.undef,h⟩) (R:=ac1 env C (rows [aQ5]).length g0 w0 h) (fun l hl=>Nat.lt_of_lt_of_le (hC.lo l hl) hbd);have hv:(rows [aQ5])[0]? = some [V.agg aQ5.cells]:=rfl;refine ah6 hy K0 hC (fun b hb=>hb) hbd hv kr_ 2 rfl rfl rfl rfl rfl ?_;simp only [go_sem, *];refine ⟨rfl,fun h' hh=>⟨?_,?_⟩⟩
 ·simp only [go_sem, *]
  exact ae8 (vs:=rows [aQ5]) (.inr rfl) rfl K0 (fun g w hY=>.inl hY) hh
 ·simp only [go_sem, *]
  exact ae8 (vs:=rows [aQ5]) (.inr rfl) rfl K0 (fun g w hZ=>.inr hZ) hh
theorem cy3 {a c:Ty} {b:Nat} {A B:List PVl} {fa fb:V} (hA:Iter Tryz.prog env fa (rows A)) (hB:Iter Tryz.prog env fb (rows B))
  (pa:Pure Tryz.prog env 61 [.agg a.cells,.int .i64 b] fa) (pb:Pure Tryz.prog env 61 [.agg c.cells,.int .i64 b] fb) :
  Iter Tryz.prog env (.fn (.func 105) [] [.el (E9 a c).cells 0,.el [.int .i64 b] 0]) (rows (aF0 A B)):=by
 refine W7 Tryz.func105 rfl kr_ fun C g0 w0 h gen hC N1 aM1 K0 N3 hbd=>?_;have hy:=aT2 (c:=⟨Tryz.prog,env,Tryz.f105.ntmps,Tryz.f105,g0,w0,h,.undef,h⟩) (R:=ac1 env C (rows (aF0 A B)).length g0 w0 h) (fun l hl=>Nat.lt_of_lt_of_le (hC.lo l hl) hbd);have hx:∀ i hs,XOk Tryz.prog ((yI ⟨Tryz.prog,env,Tryz.f105.ntmps,Tryz.f105,g0,w0,h,.undef,h⟩ C (ac1 env C (rows (aF0 A B)).length g0 w0 h)).at (fun g w=>C.Y i g w hs)):=fun i hs=>hy.x (hC.xY hbd i hs);have c6:∀ r i,h ⟨gen,r,i⟩=none:=c8 aM1;have e:(E9 a c).cells=[.int .i64 3,.sl .any [a.cells,c.cells]]:=by rw [E9,Ty.p9];rfl
 rw [e]
 repeat' (first|(refine ⟨?_,?_⟩;focus ((repeat' (first|refine ⟨?_,?_⟩|refine .inr ?_));all_goals kernel_rfl))|(first|refine x9 ?_|refine cp pa ?_|refine m9 (hx _ _) follows kr_ ?_|refine u0 ?_)<;>try simp only [go_sem, *])
 have hvA:∀ (i:Nat) (vv:List V),(rows A)[i]? = some vv→∃ v,A[i]? = some v∧vv=[.agg v.cells]:=by
  intro i vv hh;unfold rows at hh;rw [List.getElem?_map] at hh;cases hv:A[i]? with
  | none=>rw [hv] at hh;simp at hh
  | some v=>rw [hv] at hh;simp at hh;exact ⟨v,rfl,hh.symm⟩
 have hvB:∀ (i:Nat) (vv:List V),(rows B)[i]? = some vv→∃ v,B[i]? = some v∧vv=[.agg v.cells]:=by
  intro i vv hh;unfold rows at hh;rw [List.getElem?_map] at hh;cases hv:B[i]? with
  | none=>rw [hv] at hh;simp at hh
  | some v=>rw [hv] at hh;simp at hh;exact ⟨v,rfl,hh.symm⟩
 have hw1:∀ vv∈rows A,vv.length=1:=by intro vv hh;unfold rows at hh;obtain ⟨v,_,rfl⟩:=List.mem_map.1 hh;rfl
 have hw2:∀ vv∈rows B,vv.length=1:=by intro vv hh;unfold rows at hh;obtain ⟨v,_,rfl⟩:=List.mem_map.1 hh;rfl
 have hnb:∀ id,C.base id→id≠⟨gen,0,0⟩:=fun id hid e=>N1 id hid (by rw [e];exact c6 0 0);have hb0:∀ id,C.base id→u9 h ⟨gen,0,0⟩ (.box [.fn (.yield C.l) [] []]) id=h id:=fun id hid=>l8 (hnb id hid);have hnh:∀ id,h id≠none→id≠⟨gen,0,0⟩:=fun id hid e=>hid (by rw [e];exact c6 0 0);refine am6 hy (ps:=[12]) (vs:=rows A) (by intro p hp;simp at hp;subst hp;exact of_decide_eq_true kr_) hw1 C.S (fun id hid=>by
   simp only;rw [l8 (hnb id (hC.sub id hid))];exact N1 id (hC.sub id hid))
  (fun m X hh=>∃ hs,X=(fun g w=>C.Y (m * B.length) g w hs)∧(∀ id,C.base id→hh id=hs id)∧hh ⟨gen,0,0⟩=some (.box [.fn (.yield C.l) [] []])∧∀ id,¬ C.S id→h id≠none→hh id=h id)
  (fun id X hh=>id=none∧∃ hs,X=(fun g w=>C.Z g w hs)∧(∀ id,C.base id→hh id=hs id)∧∀ id,¬ C.S id→h id≠none→hh id=h id)
  (by rintro i X hh ⟨hs,rfl,_⟩;exact hC.xY hbd _ _) (by rintro i X hh ⟨_,hs,rfl,_⟩;exact hC.xZ hbd _)
  (by
   rintro i X h1 h2 e ⟨hs,rfl,j1,j2,j3⟩;have hk:∀ id,h id≠none→h2 id=h1 id:=fun id hid=>e id (by simp only;rw [l8 (hnh id hid)];exact hid);exact ⟨hs,rfl,fun id hid=>(hk id (N1 id hid)).trans (j1 id hid),(e _ (by simp only [B0,ne_eq,reduceCtorEq,not_false_eq_true])).trans j2,fun id q1 q2=>(hk id q2).trans (j3 id q1 q2)⟩)
  (by
   rintro i X h1 h2 e ⟨h0,hs,rfl,j1,j3⟩;have hk:∀ id,h id≠none→h2 id=h1 id:=fun id hid=>e id (by simp only;rw [l8 (hnh id hid)];exact hid);exact ⟨h0,hs,rfl,fun id hid=>(hk id (N1 id hid)).trans (j1 id hid),fun id q1 q2=>(hk id q2).trans (j3 id q1 q2)⟩)
  N3 ?_ sg_ ⟨h,by rw [Nat.zero_mul],hb0,B0,fun id _ q2=>l8 (hnh id q2)⟩ rfl rfl ?_ ?_
 ·
  rintro ya yb gn i vv hi X oa ob ⟨l,f1,f2,f3⟩ d1 d2 lo1 lo2 hXS bp9 bj8 hgn hvv ⟨hs,rfl,jb,jx,js⟩ hnn toB fin finx;obtain ⟨v,hv,rfl⟩:=hvA i vv hvv;have xa:∀ m hs,XOk Tryz.prog (ya.at (fun g w=>C.Y m g w hs)):=fun m hs=>oa.x (bd:=C.bd) (hC.xY (Nat.le_refl _) m hs);have xb:∀ m hs,XOk Tryz.prog (yb.at (fun g w=>C.Y m g w hs)):=fun m hs=>ob.x (bd:=C.bd) (hC.xY (Nat.le_refl _) m hs);have hbb:C.bd≤yb.bd:=Nat.le_trans hbd (by rw [← bp9];exact bj8);refine ac8 (fun gm hgm=>?_);have hf:∀ r i,hi ⟨gm,r,i⟩=none:=c8 hgm;have hne:∀ id,hi id≠none→∀ r i,id≠⟨gm,r,i⟩:=fun id hid r i e=>hid (by rw [e];exact hf r i);have hbi:∀ id,C.base id→hi id≠none:=fun id hid=>by
   rw [jb id hid];have:=hnn id (by simp only;rw [l8 (hnb id hid)];exact N1 id hid);rw [jb id hid] at this;exact this
  have eg:((⟨gen,0,0⟩:GoAbs.Id)=⟨gm,2,0⟩)=False:=eq_false (hne ⟨gen,0,0⟩ (by rw [jx];simp) 2 0);clear hnn hvv hx;simp only [ax5]
  repeat' (first|(first|refine m9 (xa _ _) follows kr_ ?_)<;>try simp only [go_sem, *])
  refine toB _ _ gm hXS ?_;clear toB
  repeat' (first|(refine ⟨?_,?_⟩;focus ((repeat' (first|refine ⟨?_,?_⟩|refine .inr ?_));all_goals kernel_rfl))|(first|refine x9 ?_|refine cp pb ?_|refine m9 (xb _ _) follows kr_ ?_|refine u0 ?_)<;>try simp only [go_sem, *])
  have jx2:u9 hi ⟨gm,2,0⟩ (.box v.cells) ⟨gen,0,0⟩=some (.box [.fn (.yield C.l) [] []]):=by rw [l8 (hne _ (by rw [jx];simp) 2 0)];exact jx
  refine bg4 ob (ps:=[19]) (vs:=rows B) (by intro p hp;simp at hp;subst hp;exact of_decide_eq_true kr_) hw2 C.S (fun id hid=>by
    simp only;rw [l8 (hne id (hbi id (hC.sub id hid)) 2 0)];exact hbi id (hC.sub id hid))
   (fun m X hh=>∃ hs,X=(fun g w=>C.Y (i * B.length+m) g w hs)∧(∀ id,C.base id→hh id=hs id)∧hh ⟨gen,0,0⟩=some (.box [.fn (.yield C.l) [] []])∧hh ⟨gm,2,0⟩=some (.box v.cells)∧∀ id,¬ C.S id→hi id≠none→hh id=hi id)
   (fun id X hh=>id=none∧∃ hs,X=(fun g w=>C.Z g w hs)∧(∀ id,C.base id→hh id=hs id)∧∀ id,¬ C.S id→hi id≠none→hh id=hi id)
   (by rintro i X hh ⟨hs,rfl,_⟩;exact hC.xY hbb _ _) (by rintro i X hh ⟨_,hs,rfl,_⟩;exact hC.xZ hbb _)
   (by
    rintro m X h1 h2 e ⟨hs,rfl,k1,k2,k4,k3⟩;have hk:∀ id,hi id≠none→h2 id=h1 id:=fun id hid=>e id (by simp only;rw [l8 (hne id hid 2 0)];exact hid);exact ⟨hs,rfl,fun id hid=>(hk id (hbi id hid)).trans (k1 id hid),(hk _ (by rw [jx];simp)).trans k2,(e _ (by simp only [B0,ne_eq,reduceCtorEq,not_false_eq_true])).trans k4,fun id q1 q2=>(hk id q2).trans (k3 id q1 q2)⟩)
   (by
    rintro m X h1 h2 e ⟨h0,hs,rfl,k1,k3⟩;have hk:∀ id,hi id≠none→h2 id=h1 id:=fun id hid=>e id (by simp only;rw [l8 (hne id hid 2 0)];exact hid);exact ⟨h0,hs,rfl,fun id hid=>(hk id (hbi id hid)).trans (k1 id hid),fun id q1 q2=>(hk id q2).trans (k3 id q1 q2)⟩)
   N3 ?_ sg_ ⟨hs,by rw [Nat.add_zero],fun id hid=>(l8 (hne id (hbi id hid) 2 0)).trans (jb id hid),jx2,B0,fun id _ q2=>l8 (hne id q2 2 0)⟩
   (l0:=l) (by rw [f2];rfl) f3 d2 ?_ ?_
  ·
   rintro ya' yb' gn' m vv' hj X' oa' ob' ⟨l',f1',f2',f3'⟩ d1' d2' lo1' lo2' cQ7 cg5 co8 dk7 bV8 ⟨hs',rfl,kb,kx,kv,ks⟩ cB8 toB' fin' finx';obtain ⟨u,hu,rfl⟩:=hvB m vv' bV8;have hvP:(rows (aF0 A B))[i * B.length+m]? = some [V.agg (bM5 v u).cells]:=aD7 (cn1 hv hu);have xa':∀ m hs,XOk Tryz.prog (ya'.at (fun g w=>C.Y m g w hs)):=fun m hs=>oa'.x (bd:=C.bd) (hC.xY (Nat.le_refl _) m hs);have xb':∀ m hs,XOk Tryz.prog (yb'.at (fun g w=>C.Y m g w hs)):=fun m hs=>ob'.x (bd:=C.bd) (hC.xY (Nat.le_refl _) m hs);have cM8:C.bd≤yb'.bd:=Nat.le_trans hbb (by rw [← cg5];exact co8);refine ac8 (fun gk hgk=>?_);have hf':∀ r i,hj ⟨gk,r,i⟩=none:=c8 hgk;have aJ2:∀ id,hj id≠none→∀ r i,id≠⟨gk,r,i⟩:=fun id hid r i e=>hid (by rw [e];exact hf' r i);have eg1:((⟨gen,0,0⟩:GoAbs.Id)=⟨gk,4,0⟩)=False:=eq_false (aJ2 ⟨gen,0,0⟩ (by rw [kx];simp) 4 0);have eg2:((⟨gm,2,0⟩:GoAbs.Id)=⟨gk,4,0⟩)=False:=eq_false (aJ2 ⟨gm,2,0⟩ (by rw [kv];simp) 4 0);have hbj:∀ id,C.base id→hj id≠none:=fun id hid=>by
    have:=cB8 id (by simp only;rw [l8 (hne id (hbi id hid) 2 0)];exact hbi id hid);exact this
   clear cB8 bV8;simp only [ax5]
   repeat' (first|(first|refine m9 (xa' _ _) follows kr_ ?_)<;>try simp only [go_sem, *])
   refine toB' _ _ gk cQ7 ?_;clear toB';have hs1:∀ (hh:H),(∀ id,¬ C.S id→u9 hj ⟨gk,4,0⟩ (.box u.cells) id≠none→hh id=u9 hj ⟨gk,4,0⟩ (.box u.cells) id)→∀ id,¬ C.S id→hj id≠none→hh id=hj id:=fun hh e id q1 q2=>by
    have e2:=l8 (h:=hj) (o:=.box u.cells) (aJ2 id q2 4 0);rw [← e2];exact e id q1 (by rw [e2];exact q2)
   have nS:∀ id,(h id=none)→¬ C.S id:=fun id hid hs=>N1 id (hC.sub id hs) hid;have nb2:∀ id,hi id=none→¬ C.S id:=fun id hid hs=>hbi id (hC.sub id hs) hid
   repeat' (first|(first|refine x9 ?_|refine ah6 ob' K0 hC (fun b hb=>by rw [lo2',lo2];exact hb) cM8 hvP kr_ 5 rfl rfl rfl rfl rfl ?_|refine m9 (xb' _ _) follows kr_ ?_|refine u0 ?_)<;>try simp only [go_sem, *])
   refine ⟨by rw [bM5,PVl.p9];rfl,fun id hid=>by rw [if_neg (aJ2 id (hbj id hid) 4 0)];exact kb id hid,fun h' hh=>?_⟩;have hh1:=hs1 h' hh;have n0:¬ C.S ⟨gen,0,0⟩:=nS _ (c6 0 0);have n2:¬ C.S ⟨gm,2,0⟩:=nb2 _ (hf 2 0);have k0:=(hh1 _ n0 (by rw [kx];simp)).trans kx;have k2:=(hh1 _ n2 (by rw [kv];simp)).trans kv;clear hh;refine ⟨?_,?_⟩
   ·simp only [go_sem, *]
    repeat' (first|(first|refine x9 ?_|refine s9 ?_|refine z8 ?_|refine spf rfl ?_|refine r7 ?_)<;>try simp only [go_sem, *])
    refine fin' _ _ _ ⟨h',rfl,fun _ _=>rfl,k0,k2,fun id q1 q2=>?_⟩ hh1;exact (hh1 id q1 (by rw [ks id q1 q2];exact q2)).trans (ks id q1 q2)
   ·simp only [go_sem, *]
    repeat' (first|(first|refine s9 ?_|refine spt rfl ?_|refine D5 ?_)<;>try simp only [go_sem, *])
    refine E6 ?_;exact finx' _ _ none _ ⟨rfl,h',rfl,fun _ _=>rfl,fun id q1 q2=>(hh1 id q1 (by rw [ks id q1 q2];exact q2)).trans (ks id q1 q2)⟩ hh1
  ·rintro X' h' ⟨hs',rfl,kb,kx,kv,ks⟩ ab4
   refine r7 (r7 ?_);refine fin _ _ _ ⟨hs',?_,kb,kx,fun id q1 q2=>?_⟩ (fun id q1 q2=>ks id q1 q2)
   ·rw [aa2,Nat.succ_mul]
   ·exact (ks id q1 (by rw [js id q1 q2];exact q2)).trans (js id q1 q2)
  ·rintro id X' h' ⟨rfl,hs',rfl,kb,ks⟩ ab4
   refine E6 ?_;exact finx _ _ none _ ⟨rfl,hs',rfl,kb,fun id q1 q2=>(ks id q1 (by rw [js id q1 q2];exact q2)).trans (js id q1 q2)⟩ (fun id q1 q2=>ks id q1 q2)
 ·rintro D X' h' hD ok ⟨hs,rfl,jb,jx,js⟩ ab4
  refine r7 ?_;refine ai2 hC (.inr rfl) rfl K0 N3 hbd hD (fun g w hY=>.inl ?_) js;rw [aa2,ce8];rw [aa2] at hY;exact hC.Yh _ _ _ _ _ jb hY
 ·rintro D id X' h' hD ok ⟨rfl,hs,rfl,jb,js⟩ ab4
  refine E6 ?_;exact ai2 hC (.inl rfl) rfl K0 N3 hbd hD (fun g w hZ=>.inr (hC.Zh _ _ _ _ jb hZ)) js
theorem bk8 {C:Cons} {vs:List (List V)} (hC:ai4 Tryz.prog env C vs) (d:GoAbs.Id) (l:List Nat) :
  cS8 Tryz.prog env C vs 158 [.sl .any (ints (l.map fun (n:Nat)=>(n:Int))),.ptr d 0] [.agg (ak7 l).cells] (fun h=>h d=some (.box [.fn (.yield C.l) [] []])):=by
 refine bp6 Tryz.func158 rfl kr_ hC fun i g0 w0 h gen hv cx3 aM1 K0 N3 hbd hL=>?_;have hy:=aT2 (c:=⟨Tryz.prog,env,Tryz.f158.ntmps,Tryz.f158,g0,w0,h,.undef,h⟩) (R:=bj3 env C i g0 w0 h) hL;have hx:∀ j hs,XOk Tryz.prog ((yI ⟨Tryz.prog,env,Tryz.f158.ntmps,Tryz.f158,g0,w0,h,.undef,h⟩ C (bj3 env C i g0 w0 h)).at (fun g w=>C.Y j g w hs)):=fun j hs=>hy.x (hC.xY hbd j hs);have e:(ak7 l).cells=[.int .i64 2,.int .i64 0,.sl .any (ints (l.map fun (n:Nat)=>(n:Int))),.sl .any []]:=by rw [ak7,PVl.p9];rfl
 rw [e] at hv;have hwL:B2 (ints (l.map fun (n:Nat)=>(n:Int)))=ints (l.map fun (n:Nat)=>(n:Int)):=by simp only [go_sem, *]
 generalize ints (l.map fun (n:Nat)=>(n:Int))=L at *;replace cx3:h d=some (.box [.fn (.yield C.l) [] []]):=cx3
 repeat' (first|(first|refine x9 ?_|refine ah6 hy K0 hC (fun b hb=>hb) hbd hv kr_ 3 rfl rfl rfl rfl rfl ?_|refine m9 (hx _ _) follows kr_ ?_|refine u0 ?_)<;>try simp only [go_sem, *])
 refine fun h' hh=>⟨?_,?_⟩
 all_goals
  simp only [go_sem, *]
  repeat' (first|(first|refine x9 ?_|refine D5 ?_)<;>try simp only [go_sem, *])
 ·exact bz3 rfl sg_ (fun g w hY=>.inl ⟨rfl,hY⟩) hh
 ·exact bz3 rfl sg_ (fun g w hZ=>.inr ⟨rfl,hZ⟩) hh
theorem cw8 (b:Nat) (hb:b≤65536):Iter Tryz.prog env (.fn (.func 157) [] [.el [.int .i64 b] 0]) (rows (af9 b)):=by
 refine W7 Tryz.func157 rfl kr_ fun C g0 w0 h gen hC N1 aM1 K0 N3 hbd=>?_;have hy:=aT2 (c:=⟨Tryz.prog,env,Tryz.f157.ntmps,Tryz.f157,g0,w0,h,.undef,h⟩) (R:=ac1 env C (rows (af9 b)).length g0 w0 h) (fun l hl=>Nat.lt_of_lt_of_le (hC.lo l hl) hbd);obtain ⟨y,hyd⟩:∃ y,y=yI ⟨Tryz.prog,env,Tryz.f157.ntmps,Tryz.f157,g0,w0,h,.undef,h⟩ C (ac1 env C (rows (af9 b)).length g0 w0 h):=⟨_,rfl⟩;have hLo:y.Lo=C.L:=by rw [hyd];rfl
 have hyb:C.bd≤y.bd:=by rw [hyd];exact hbd
 rw [← hyd] at hy ⊢;have hx:∀ i hs,XOk Tryz.prog (y.at (fun g w=>C.Y i g w hs)):=fun i hs=>hy.x (hC.xY (Nat.le_refl _) i hs);have c6:∀ r i,h ⟨gen,r,i⟩=none:=c8 aM1;have hnb:∀ id,C.base id→id≠⟨gen,0,0⟩:=fun id hid e=>N1 id hid (by rw [e];exact c6 0 0);have hnh:∀ id,h id≠none→id≠⟨gen,0,0⟩:=fun id hid e=>hid (by rw [e];exact c6 0 0);have nS:¬ C.S ⟨gen,0,0⟩:=fun hs=>N1 _ (hC.sub _ hs) (c6 0 0);have hlen:(rows (af9 b)).length=1+b+b * b:=by rw [aa2,bV3]
 have v0:(rows (af9 b))[0]? = some [V.agg (ak7 []).cells]:=aD7 (cx9 b);have v1:∀ i,i<b→(rows (af9 b))[1+i]? = some [V.agg (ak7 [i]).cells]:=fun i hi=>aD7 (cx0 hi);have v2:∀ i m,i<b→m<b→(rows (af9 b))[1+b+(i * b+m)]? = some [V.agg (ak7 [i,m]).cells]:=fun i m hi hm=>aD7 (cB4 hi hm);have endZ:∀ gn (h':H),(∀ id,¬ C.S id→h id≠none→h' id=h id)→∀ tm,ARX ⟨Tryz.prog,env,Tryz.f157.ntmps,Tryz.f157,g0,w0,h,.undef,h⟩ (y.at (fun g w=>C.Z g w h')) gn [] .ret ⟨tm,h'⟩:=by
  intro gn h' hs tm;rw [hyd];exact ae8 (vs:=rows (af9 b)) (.inl rfl) rfl K0 (fun g w hZ=>.inr hZ) hs
 have endY:∀ gn (h' hs:H),(∀ id,C.base id→h' id=hs id)→(∀ id,¬ C.S id→h id≠none→h' id=h id)→∀ tm,ARX ⟨Tryz.prog,env,Tryz.f157.ntmps,Tryz.f157,g0,w0,h,.undef,h⟩ (y.at (fun g w=>C.Y (1+b+b * b) g w hs)) gn [] .normal ⟨tm,h'⟩:=by
  intro gn h' hs e1 e2 tm;rw [hyd];exact ae8 (vs:=rows (af9 b)) (.inr rfl) rfl K0 (fun g w hY=>.inl (by rw [hlen];exact hC.Yh _ _ _ _ _ e1 hY)) e2
 clear hyd hlen N3
 repeat' (first|(first|refine x9 ?_|refine aM5 hy K0 hC (fun b hb=>by rw [hLo];exact hb) hyb (bk8 hC ⟨gen,0,0⟩ []) v0 kr_ 1 rfl rfl rfl rfl rfl ?_|refine m9 (hx _ _) follows kr_ ?_|refine u0 ?_)<;>try simp only [go_sem, *])
 refine ⟨_,_,rfl,by simp [C7,H2,B2,ints],fun id hid=>by rw [if_neg (hnb id hid)],fun h' hh=>?_⟩;have own:h' ⟨gen,0,0⟩=some (.box [.fn (.yield C.l) [] []]):=(hh _ nS (by simp only [B0,ne_eq,reduceCtorEq,not_false_eq_true])).trans B0;have js:∀ id,¬ C.S id→h id≠none→h' id=h id:=fun id q1 q2=>(hh id q1 (by simp only;rw [l8 (hnh id q2)];exact q2)).trans (l8 (hnh id q2));clear hh hx;refine ⟨?_,?_⟩
 case refine_2 =>
  simp only [go_sem, *]
  repeat' (first|(first|refine s9 ?_|refine spt rfl ?_|refine D5 ?_)<;>try simp only [go_sem, *])
  exact E6 (endZ _ _ js _)
 have hx:∀ i hs,XOk Tryz.prog (y.at (fun g w=>C.Y i g w hs)):=fun i hs=>hy.x (hC.xY (Nat.le_refl _) i hs);simp only [go_sem, *]
 repeat' (first|(first|refine x9 ?_|refine s9 ?_|refine spf rfl ?_|refine z8 ?_|refine m9 (hx _ _) follows kr_ ?_|refine u0 ?_)<;>try simp only [go_sem, *])
 refine aA3 b (fun m X σ=>σ.tm 12=.int .i64 (m:Nat)∧σ.tm 11=.int .i64 b∧σ.tm 3=.fn (.func 158) [] [.ptr ⟨gen,0,0⟩ 0]∧σ.tm 1=.el [.int .i64 b] 0 ∧
  ∃ hs,X=(fun g w=>C.Y (1+m) g w hs)∧(∀ id,C.base id→σ.h id=hs id)∧σ.h ⟨gen,0,0⟩=some (.box [.fn (.yield C.l) [] []])∧(∀ id,¬ C.S id→h id≠none→σ.h id=h id)) ?_ ?_
 ·simp only [go_sem, *]
  exact ⟨rfl,h',rfl,fun _ _=>rfl,js⟩
 clear own js hx;intro y1 gn m X σ e1 e2 e3 e4 cv0 hm ⟨j12,j11,j3,j1,hs,hX,jb,jx,js⟩ next out
 subst hX;have hy1:=cv0 hy;have hx1:∀ i hs,XOk Tryz.prog (y1.at (fun g w=>C.Y i g w hs)):=fun i hs=>hy1.x (hC.xY (Nat.le_refl _) i hs);clear cv0 e1 e2;rcases Nat.lt_or_ge m b with hlt|hge
 ·have hd:=T5 hlt
  have hw:=z7 (i:=m) om_
  repeat' (first|(first|refine x9 ?_|refine s9 ?_|refine z8 ?_|refine spt rfl ?_|refine aM5 hy1 K0 hC (fun b hb=>by rw [e3,hLo];exact hb) (by rw [e4];exact hyb) (bk8 hC ⟨gen,0,0⟩ [m]) (v1 m hlt) kr_ 3 rfl rfl rfl rfl rfl ?_|refine m9 (hx1 _ _) follows kr_ ?_|refine u0 ?_)<;>try simp only [go_sem, *])
  refine ⟨_,_,rfl,by simp [C7,H2,B2,ints],jb,fun h' hh=>?_⟩;have own':=(hh _ nS (by simp only;rw [jx];simp)).trans jx;have js':∀ id,¬ C.S id→h id≠none→h' id=h id:=fun id q1 q2=>(hh id q1 (by simp only;rw [js id q1 q2];exact q2)).trans (js id q1 q2);clear hh;refine ⟨?_,?_⟩
  ·simp only [go_sem, *]
   repeat' (first|(first|refine x9 ?_|refine s9 ?_|refine z8 ?_|refine spf rfl ?_|refine r7 ?_|refine m9 (hx1 _ _) follows kr_ ?_)<;>try simp only [go_sem, *])
   refine next _ _ _ hlt ?_
   simp only [go_sem, *];exact ⟨h',rfl,fun _ _=>rfl,js'⟩
  ·simp only [go_sem, *]
   repeat' (first|(first|refine s9 ?_|refine spt rfl ?_|refine D5 ?_)<;>try simp only [go_sem, *])
   exact E6 (out _ _ _ gn (.inl rfl) (E6 (endZ _ _ js' _)))
 ·have hd:=O2 hge
  obtain rfl:m=b:=by omega
  repeat' (first|(first|refine x9 ?_|refine s9 ?_|refine z8 ?_|refine spf rfl ?_|refine m9 (hx1 _ _) follows kr_ ?_|refine F3 ?_|refine A5 ?_)<;>try simp only [go_sem, *])
  refine out _ _ _ gn (.inr ⟨_,rfl⟩) ?_;clear next out hx1 hy1
  have hx:∀ i hs,XOk Tryz.prog (y.at (fun g w=>C.Y i g w hs)):=fun i hs=>hy.x (hC.xY (Nat.le_refl _) i hs);refine A6 ?_
  repeat' (first|(first|refine x9 ?_|refine m9 (hx _ _) follows kr_ ?_|refine u0 ?_)<;>try simp only [go_sem, *])
  clear hx hd;refine aA3 m (fun a X σ'=>σ'.tm 22=.int .i64 (a:Nat)∧σ'.tm 21=.int .i64 m∧σ'.tm 3=.fn (.func 158) [] [.ptr ⟨gen,0,0⟩ 0]∧σ'.tm 1=.el [.int .i64 m] 0 ∧
   ∃ hs,X=(fun g w=>C.Y (1+m+a * m) g w hs)∧(∀ id,C.base id→σ'.h id=hs id)∧σ'.h ⟨gen,0,0⟩=some (.box [.fn (.yield C.l) [] []])∧(∀ id,¬ C.S id→h id≠none→σ'.h id=h id)) ?_ ?_
  ·simp only [go_sem, *]
   exact ⟨rfl,hs,by rw [Nat.zero_mul,Nat.add_zero],jb,js⟩
  clear j12 j11 j3 j1 jb jx js;intro y1 gn a X σ' e1 e2 e3 e4 cv0 ha ⟨j22,j21,j3,j1,hs,hX,jb,jx,js⟩ next out
  subst hX;have hy1:=cv0 hy;have hx1:∀ i hs,XOk Tryz.prog (y1.at (fun g w=>C.Y i g w hs)):=fun i hs=>hy1.x (hC.xY (Nat.le_refl _) i hs);clear cv0 e1 e2;rcases Nat.lt_or_ge a m with hlt|hge
  ·have hd:=T5 hlt
   have hw:=z7 (i:=a) om_
   repeat' (first|(first|refine x9 ?_|refine s9 ?_|refine z8 ?_|refine spt rfl ?_|refine m9 (hx1 _ _) follows kr_ ?_|refine u0 ?_)<;>try simp only [go_sem, *])
   refine aA3 m (fun q X σ''=>σ''.tm 26=.int .i64 (q:Nat)∧σ''.tm 25=.int .i64 m∧σ''.tm 5=.int .i64 (a:Nat)∧σ''.tm 22=.int .i64 (a:Nat)∧σ''.tm 21=.int .i64 m∧σ''.tm 3=.fn (.func 158) [] [.ptr ⟨gen,0,0⟩ 0]∧σ''.tm 1=.el [.int .i64 m] 0 ∧
    ∃ hs,X=(fun g w=>C.Y (1+m+(a * m+q)) g w hs)∧(∀ id,C.base id→σ''.h id=hs id)∧σ''.h ⟨gen,0,0⟩=some (.box [.fn (.yield C.l) [] []])∧(∀ id,¬ C.S id→h id≠none→σ''.h id=h id)) ?_ ?_
   ·simp only [go_sem, *]
    exact ⟨rfl,hs,by rw [Nat.add_zero],jb,js⟩
   clear j22 j21 j3 j1 jb jx js hd hx1;intro y2 gn q X σ'' f1 f2 f3 f4 cX6 hq ⟨j26,j25,j5,j22,j21,j3,j1,hs,hX,jb,jx,js⟩ next2 out2;subst hX;have hy2:=cX6 hy1;have hx2:∀ i hs,XOk Tryz.prog (y2.at (fun g w=>C.Y i g w hs)):=fun i hs=>hy2.x (hC.xY (Nat.le_refl _) i hs);clear cX6 f1 f2;rcases Nat.lt_or_ge q m with hlq|hgq
   ·have hd:=T5 hlq
    have hw2:=z7 (i:=q) om_
    repeat' (first|(first|refine x9 ?_|refine s9 ?_|refine z8 ?_|refine spt rfl ?_|refine aM5 hy2 K0 hC (fun b hb=>by rw [f3,e3,hLo];exact hb) (by rw [f4,e4];exact hyb) (bk8 hC ⟨gen,0,0⟩ [a,q]) (v2 a q hlt hlq) kr_ 4 rfl rfl rfl rfl rfl ?_|refine m9 (hx2 _ _) follows kr_ ?_|refine u0 ?_)<;>try simp only [go_sem, *])
    refine ⟨_,_,rfl,by simp [C7,H2,B2,ints],jb,fun h' hh=>?_⟩;have own':=(hh _ nS (by simp only;rw [jx];simp)).trans jx;have js':∀ id,¬ C.S id→h id≠none→h' id=h id:=fun id q1 q2=>(hh id q1 (by simp only;rw [js id q1 q2];exact q2)).trans (js id q1 q2);clear hh;refine ⟨?_,?_⟩
    ·simp only [go_sem, *]
     repeat' (first|(first|refine x9 ?_|refine s9 ?_|refine z8 ?_|refine spf rfl ?_|refine r7 ?_|refine m9 (hx2 _ _) follows kr_ ?_)<;>try simp only [go_sem, *])
     refine next2 _ _ _ hlq ?_;simp only [go_sem, *];exact ⟨h',rfl,fun _ _=>rfl,js'⟩
    ·simp only [go_sem, *]
     repeat' (first|(first|refine s9 ?_|refine spt rfl ?_|refine D5 ?_)<;>try simp only [go_sem, *])
     exact E6 (out2 _ _ _ gn (.inl rfl) (E6 (out _ _ _ gn (.inl rfl) (E6 (endZ _ _ js' _)))))
   ·have hd:=O2 hgq
    obtain rfl:q=m:=by omega
    repeat' (first|(first|refine x9 ?_|refine s9 ?_|refine z8 ?_|refine spf rfl ?_|refine m9 (hx2 _ _) follows kr_ ?_|refine F3 ?_|refine A5 ?_)<;>try simp only [go_sem, *])
    refine out2 _ _ _ gn (.inr ⟨_,rfl⟩) ?_;clear next2 out2 hx2 hy2;have hx1:∀ i hs,XOk Tryz.prog (y1.at (fun g w=>C.Y i g w hs)):=fun i hs=>hy1.x (hC.xY (Nat.le_refl _) i hs);refine A6 ?_
    repeat' (first|(first|refine x9 ?_|refine r7 ?_|refine m9 (hx1 _ _) follows kr_ ?_)<;>try simp only [go_sem, *])
    refine next _ _ _ hlt ?_
    simp only [go_sem, *];exact ⟨hs,by rw [Nat.succ_mul],jb,js⟩
  ·have hd:=O2 hge
   obtain rfl:a=m:=by omega
   repeat' (first|(first|refine x9 ?_|refine s9 ?_|refine z8 ?_|refine spf rfl ?_|refine m9 (hx1 _ _) follows kr_ ?_|refine F3 ?_|refine A5 ?_)<;>try simp only [go_sem, *])
   refine out _ _ _ gn (.inr ⟨_,rfl⟩) ?_;refine A6 ?_;exact endY _ _ _ jb js _
theorem aW0 {t:Ty} {b most:Nat} {L:List PVl} {fv:V} (hm:most≤65536) (hA:Iter Tryz.prog env fv (rows L)) (pa:Pure Tryz.prog env 61 [.agg t.cells,.int .i64 b] fv) :
  Iter Tryz.prog env (.fn (.func 60) [] [.el [.int .i64 most] 0,.el t.cells 0,.el [.int .i64 b] 0]) (rows (L.take most)):=by
 refine W7 Tryz.func60 rfl kr_ fun C g0 w0 h gen hC N1 aM1 K0 N3 hbd=>?_;have hy:=aT2 (c:=⟨Tryz.prog,env,Tryz.f60.ntmps,Tryz.f60,g0,w0,h,.undef,h⟩) (R:=ac1 env C (rows (L.take most)).length g0 w0 h) (fun l hl=>Nat.lt_of_lt_of_le (hC.lo l hl) hbd);have hx:∀ i hs,XOk Tryz.prog ((yI ⟨Tryz.prog,env,Tryz.f60.ntmps,Tryz.f60,g0,w0,h,.undef,h⟩ C (ac1 env C (rows (L.take most)).length g0 w0 h)).at (fun g w=>C.Y i g w hs)):=fun i hs=>hy.x (hC.xY hbd i hs);have c6:∀ r i,h ⟨gen,r,i⟩=none:=c8 aM1;have nS:∀ r i,¬ C.S ⟨gen,r,i⟩:=fun r i hs=>N1 _ (hC.sub _ hs) (c6 r i);have hnb:∀ id,h id≠none→∀ r i,id≠⟨gen,r,i⟩:=fun id hid r i e=>hid (by rw [e];exact c6 r i);rcases Nat.eq_zero_or_pos most with h0|cG7
 ·subst h0
  have z:((0:Nat):Int)=0:=rfl;rw [z]
  repeat' (first|(first|refine x9 ?_|refine s9 ?_|refine spt rfl ?_|refine D5 ?_|refine m9 (hx _ _) follows kr_ ?_)<;>try simp only [go_sem, *])
  refine E6 ?_;refine ae8 (vs:=rows (L.take 0)) (.inl rfl) rfl K0 (fun g w hY=>.inl ?_) (fun id q1 q2=>?_)
  ·exact hC.Yh _ _ _ _ _ (fun id hid=>by simp only;rw [l8 (hnb id (N1 id hid) 1 0),l8 (hnb id (N1 id hid) 0 0)]) hY
  ·simp only;rw [l8 (hnb id q2 1 0),l8 (hnb id q2 0 0)]
 have hd0:((most:Int)==0)=false:=by simp;omega
 repeat' (first|(first|refine x9 ?_|refine s9 ?_|refine spf rfl ?_|refine cp pa ?_|refine z8 ?_|refine m9 (hx _ _) follows kr_ ?_|refine u0 ?_)<;>try simp only [go_sem, *])
 have hvA:∀ (i:Nat) (vv:List V),(rows L)[i]? = some vv→∃ v,L[i]? = some v∧vv=[.agg v.cells]:=by
  intro i vv hh;unfold rows at hh;rw [List.getElem?_map] at hh;cases hv:L[i]? with
  | none=>rw [hv] at hh;simp at hh
  | some v=>rw [hv] at hh;simp at hh;exact ⟨v,rfl,hh.symm⟩
 have hw1:∀ vv∈rows L,vv.length=1:=by intro vv hh;unfold rows at hh;obtain ⟨v,_,rfl⟩:=List.mem_map.1 hh;rfl
 clear hx;have hlen:∀ m,L.length=m→m<most→(rows (L.take most)).length=m:=fun m e hlt=>by rw [aa2,List.length_take];omega
 refine am6 hy (ps:=[12]) (vs:=rows L) (by intro p hp;simp at hp;subst hp;exact of_decide_eq_true kr_) hw1 (fun id=>C.S id∨id=⟨gen,1,0⟩) (fun id hid=>by
   simp only;rcases hid with hid|rfl
   ·rw [l8 (hnb id (N1 id (hC.sub id hid)) 1 0),l8 (hnb id (N1 id (hC.sub id hid)) 0 0)];exact N1 id (hC.sub id hid)
   ·simp only [B0,ne_eq,reduceCtorEq,not_false_eq_true])
  (fun m X hh=>m<most∧∃ hs,X=(fun g w=>C.Y m g w hs)∧(∀ id,C.base id→hh id=hs id)∧hh ⟨gen,0,0⟩=some (.box [.fn (.yield C.l) [] []])∧hh ⟨gen,1,0⟩=some (.box [.int .i64 m])∧∀ id,¬ C.S id→h id≠none→hh id=h id)
  (fun id X hh=>id=none∧(∃ hs,(X=(fun g w=>C.Z g w hs)∨(X=(fun g w=>C.Y most g w hs)∧most≤L.length))∧(∀ id,C.base id→hh id=hs id))∧∀ id,¬ C.S id→h id≠none→hh id=h id)
  (by rintro i X hh ⟨_,hs,rfl,_⟩;exact hC.xY hbd _ _) (by rintro i X hh ⟨_,⟨hs,rfl|⟨rfl,_⟩,_⟩,_⟩;exact hC.xZ hbd _;exact hC.xY hbd _ _)
  (by
   rintro i X h1 h2 e ⟨q0,hs,rfl,j1,j2,j4,j3⟩;have hk:∀ id,h id≠none→h2 id=h1 id:=fun id hid=>e id (by simp only;rw [l8 (hnb id hid 1 0),l8 (hnb id hid 0 0)];exact hid);exact ⟨q0,hs,rfl,fun id hid=>(hk id (N1 id hid)).trans (j1 id hid),(e _ (by simp only [go_sem, *];simp)).trans j2,(e _ (by simp only [go_sem, *];simp)).trans j4,fun id q1 q2=>(hk id q2).trans (j3 id q1 q2)⟩)
  (by
   rintro i X h1 h2 e ⟨q0,⟨hs,hX,j1⟩,j3⟩;have hk:∀ id,h id≠none→h2 id=h1 id:=fun id hid=>e id (by simp only;rw [l8 (hnb id hid 1 0),l8 (hnb id hid 0 0)];exact hid);exact ⟨q0,⟨hs,hX,fun id hid=>(hk id (N1 id hid)).trans (j1 id hid)⟩,fun id q1 q2=>(hk id q2).trans (j3 id q1 q2)⟩)
  N3 ?_ sg_ ⟨cG7,h,rfl,fun id hid=>by simp only;rw [l8 (hnb id (N1 id hid) 1 0),l8 (hnb id (N1 id hid) 0 0)],sg_,by simp only [go_sem, *];rfl,fun id _ q2=>by simp only;rw [l8 (hnb id q2 1 0),l8 (hnb id q2 0 0)]⟩ rfl rfl ?_ ?_
 ·
  rintro ya yb gn i vv hi X oa ob ⟨l,f1,f2,f3⟩ d1 d2 lo1 lo2 hXS bp9 bj8 hgn hvv ⟨hlt,hs,rfl,jb,jx,jn,js⟩ hnn toB fin finx;obtain ⟨v,hv,rfl⟩:=hvA i vv hvv;have hvP:(rows (L.take most))[i]? = some [V.agg v.cells]:=aD7 (by rw [List.getElem?_take];rw [if_pos hlt];exact hv);have hiL:i<L.length:=(List.getElem?_eq_some_iff.1 hv).1;have xa:∀ m hs,XOk Tryz.prog (ya.at (fun g w=>C.Y m g w hs)):=fun m hs=>oa.x (bd:=C.bd) (hC.xY (Nat.le_refl _) m hs);have xb:∀ m hs,XOk Tryz.prog (yb.at (fun g w=>C.Y m g w hs)):=fun m hs=>ob.x (bd:=C.bd) (hC.xY (Nat.le_refl _) m hs);have hbb:C.bd≤yb.bd:=Nat.le_trans hbd (by rw [← bp9];exact bj8);refine ac8 (fun gm hgm=>?_);have hf:∀ r i,hi ⟨gm,r,i⟩=none:=c8 hgm;have hne:∀ id,hi id≠none→∀ r i,id≠⟨gm,r,i⟩:=fun id hid r i e=>hid (by rw [e];exact hf r i);have hbi:∀ id,C.base id→hi id≠none:=fun id hid=>by
   have:=hnn id (by simp only;rw [l8 (hnb id (N1 id hid) 1 0),l8 (hnb id (N1 id hid) 0 0)];exact N1 id hid);exact this
  have eg:(gen=gm)=False:=eq_false (fun e=>hne ⟨gen,0,0⟩ (by rw [jx];simp) 0 0 (by rw [e]));have eg':(gm=gen)=False:=eq_false (fun e=>hne ⟨gen,0,0⟩ (by rw [jx];simp) 0 0 (by rw [e]));have hw:=z7 (i:=i) om_;clear hnn hvv;simp only [ax5]
  repeat' (first|(first|refine m9 (xa _ _) follows kr_ ?_)<;>try simp only [go_sem, *])
  refine toB _ _ gm hXS ?_;clear toB xa;have hk:∀ id,hi id≠none→id≠⟨gen,1,0⟩→u9 (u9 hi ⟨gm,4,0⟩ (.box v.cells)) ⟨gen,1,0⟩ (.box [.int .i64 ((i+1:Nat):Int)]) id=hi id:=fun id q1 q2=>by
   rw [l8 q2,l8 (hne id q1 4 0)]
  repeat' (first|(first|refine x9 ?_|refine ah6 ob K0 hC (fun b hb=>by rw [lo2];exact hb) hbb hvP kr_ 2 rfl rfl rfl rfl rfl ?_|refine m9 (xb _ _) follows kr_ ?_|refine u0 ?_)<;>try simp only [go_sem, *])
  refine ⟨fun id hid=>by rw [if_neg (hnb id (N1 id (by exact hid)) 1 0),if_neg (hne id (hbi id hid) 4 0)];exact jb id hid,fun h' hh=>?_⟩;have j0:h' ⟨gen,0,0⟩=some (.box [.fn (.yield C.l) [] []]):=(hh _ (nS 0 0) (by simp only [go_sem, *];simp)).trans sg_;have j1:h' ⟨gen,1,0⟩=some (.box [.int .i64 ((i+1:Nat):Int)]):=(hh _ (nS 1 0) (by simp only [go_sem, *];simp)).trans sg_;have jk:∀ id,¬ (C.S id∨id=⟨gen,1,0⟩)→hi id≠none→h' id=hi id:=fun id q1 q2=>by
   have e2:=hk id q2 (fun e=>q1 (.inr e));exact (hh id (fun e=>q1 (.inl e)) (by simp only;rw [e2];exact q2)).trans e2
  have js':∀ id,¬ C.S id→h id≠none→h' id=h id:=fun id q1 q2 =>
   (jk id (fun e=>e.elim q1 (hnb id q2 1 0)) (by rw [js id q1 q2];exact q2)).trans (js id q1 q2)
  clear hh hk jx jn js jb;refine ⟨?_,?_⟩
  ·by_cases he:i+1=most
   ·have hd1:((most:Int)==(most:Int))=true:=by simp
    simp only [go_sem, *]
    repeat' (first|(first|refine x9 ?_|refine s9 ?_|refine spt rfl ?_|refine D5 ?_)<;>try simp only [go_sem, *])
    refine E6 ?_;exact finx _ _ none _ ⟨rfl,⟨h',.inr ⟨rfl,om_⟩,fun _ _=>rfl⟩,js'⟩ jk
   ·have hd1:(((i+1:Nat):Int)==(most:Int))=false:=by simp;omega
    simp only [go_sem, *]
    repeat' (first|(first|refine x9 ?_|refine s9 ?_|refine spf rfl ?_|refine z8 ?_|refine r7 ?_)<;>try simp only [go_sem, *])
    exact fin _ _ _ ⟨om_,h',rfl,fun _ _=>rfl,j0,j1,js'⟩ jk
  ·simp only [go_sem, *]
   repeat' (first|(first|refine s9 ?_|refine spt rfl ?_|refine D5 ?_)<;>try simp only [go_sem, *])
   refine E6 ?_;exact finx _ _ none _ ⟨rfl,⟨h',.inl rfl,fun _ _=>rfl⟩,js'⟩ jk
 ·rintro D X' h' hD ok ⟨hlt,hs,rfl,jb,jx,jn,js⟩ ab4
  refine r7 ?_;refine ai2 hC (.inr rfl) rfl K0 N3 hbd hD (fun g w hY=>.inl ?_) js;rw [aa2] at hlt hY;rw [hlen _ rfl hlt];exact hC.Yh _ _ _ _ _ jb hY
 ·rintro D id X' h' hD ok ⟨rfl,⟨hs,hX,jb⟩,js⟩ ab4
  refine E6 ?_;rcases hX with rfl|⟨rfl,hle⟩
  ·exact ai2 hC (.inl rfl) rfl K0 N3 hbd hD (fun g w hZ=>.inr (hC.Zh _ _ _ _ jb hZ)) js
  ·refine ai2 hC (.inl rfl) rfl K0 N3 hbd hD (fun g w hY=>.inl ?_) js
   rw [aa2,List.length_take,Nat.min_eq_left hle];exact hC.Yh _ _ _ _ _ jb hY
theorem cx7 (b:Nat):Pure Tryz.prog env 103 [.int .i64 b] (.fn (.func 157) [] [.el [.int .i64 b] 0]):=by
 intro h;refine en_ Tryz.func103 [.tmp 2] fun g0 w0 gen b7 hfr c6 m0=>?_;refine D6 ?_;refine B6 ?_;simp only [go_sem, *];refine L8 ⟨gen,0,0⟩ [(1,.el [.int .i64 b] 0),(2,.U9)] [] (cs:=[.int .i64 b]) rfl rfl b7 sg_ (c6 0 0) sp_ (g9.new (g9.refl _) (c6 0 0)) (by simp [InL,InV]) sp_ (by
  intro p hp;simp only [List.mem_cons,List.not_mem_nil,or_false] at hp;rcases hp with rfl|rfl
  ·exact ⟨.inr (.inr ⟨0,sg_,rfl⟩),by simp [InV,InL]⟩
  ·exact ⟨.inr (.inl sg_),by simp [InV]⟩) ?_
 simp only [List.foldr];exact wk_
theorem bl6 (t:Ty) (b m:Nat):Pure Tryz.prog env 34 [.agg t.cells,.int .i64 b,.int .i64 m] (.fn (.func 60) [] [.el [.int .i64 m] 0,.el t.cells 0,.el [.int .i64 b] 0]):=by
 intro h;refine en_ Tryz.func34 [.tmp 6] fun g0 w0 gen b7 hfr c6 m0=>?_;refine D6 ?_;refine B6 ?_;simp only [go_sem, *];refine L8 ⟨gen,0,0⟩ [(3,.el t.cells 0),(4,.ptr ⟨gen,0,1⟩ 0),(5,.ptr ⟨gen,0,2⟩ 0),(6,.U9)] [(⟨gen,0,1⟩,[.int .i64 b],[.int .i64 b]),(⟨gen,0,2⟩,[.int .i64 m],[.int .i64 m])] (cs:=t.cells) rfl rfl b7 sg_ (c6 0 0) sp_ (by repeat (first|exact g9.refl _|refine g9.new ?_ (c6 _ _))) sf_ (by intro b hb;simp only [List.mem_cons,List.not_mem_nil,or_false] at hb;rcases hb with rfl|rfl<;>exact ⟨c6 _ _,sg_,rfl,(by intro p hp;simp only [List.zip_cons_cons,List.zip_nil_left,List.zip_nil_right,List.mem_cons,List.not_mem_nil,or_false] at hp;subst hp;exact .inr (.inl rfl)),sg_⟩) (by
  intro p hp;simp only [List.mem_cons,List.not_mem_nil,or_false] at hp;rcases hp with rfl|rfl|rfl|rfl
  ·exact ⟨.inr (.inr ⟨0,sg_,rfl⟩),sf_⟩
  ·exact ⟨.inr (.inl sg_),sf_⟩
  ·exact ⟨.inr (.inl sg_),sf_⟩
  ·exact ⟨.inr (.inl sg_),sf_⟩) ?_
 simp only [List.foldr];refine L8 ⟨gen,0,1⟩ [(3,.el t.cells 0),(4,.el [.int .i64 b] 0),(5,.ptr ⟨gen,0,2⟩ 0),(6,.U9)] [(⟨gen,0,2⟩,[.int .i64 m],[.int .i64 m])] (cs:=[.int .i64 b]) rfl rfl b7 sg_ (c6 0 1) sp_ (by repeat (first|exact g9.refl _|refine g9.new ?_ (c6 _ _))) sf_ (by intro b hb;simp only [List.mem_cons,List.not_mem_nil,or_false] at hb;rcases hb with rfl<;>exact ⟨c6 _ _,sg_,rfl,(by intro p hp;simp only [List.zip_cons_cons,List.zip_nil_left,List.zip_nil_right,List.mem_cons,List.not_mem_nil,or_false] at hp;subst hp;exact .inr (.inl rfl)),sg_⟩) (by
  intro p hp;simp only [List.mem_cons,List.not_mem_nil,or_false] at hp;rcases hp with rfl|rfl|rfl|rfl
  ·exact ⟨.inr (.inl sg_),sf_⟩
  ·exact ⟨.inr (.inr ⟨0,sg_,rfl⟩),sf_⟩
  ·exact ⟨.inr (.inl sg_),sf_⟩
  ·exact ⟨.inr (.inl sg_),sf_⟩) ?_
 simp only [List.foldr];refine L8 ⟨gen,0,2⟩ [(3,.el t.cells 0),(4,.el [.int .i64 b] 0),(5,.el [.int .i64 m] 0),(6,.U9)] [] (cs:=[.int .i64 m]) rfl rfl b7 sg_ (c6 0 2) sp_ (by repeat (first|exact g9.refl _|refine g9.new ?_ (c6 _ _))) sf_ sp_ (by
  intro p hp;simp only [List.mem_cons,List.not_mem_nil,or_false] at hp;rcases hp with rfl|rfl|rfl|rfl
  ·exact ⟨.inr (.inl sg_),sf_⟩
  ·exact ⟨.inr (.inl sg_),sf_⟩
  ·exact ⟨.inr (.inr ⟨0,sg_,rfl⟩),sf_⟩
  ·exact ⟨.inr (.inl sg_),sf_⟩) ?_
 simp only [List.foldr];exact wk_
def cl1 (b:Nat) (t:Ty):V :=
 if t.kind==2 then .fn (.func 157) [] [.el [.int .i64 b] 0] else if t.kind==5 then .fn (.func 104) [] [] else if t.kind==3 then .fn (.func 105) [] [.el t.cells 0,.el [.int .i64 b] 0] else .fn (.func 106) [] [.el [.int .i64 b] 0]
theorem az3 (t:Ty) (b:Nat):Pure Tryz.prog env 61 [.agg t.cells,.int .i64 b] (cl1 b t):=by
 intro h;have h1:=cx7 b;unfold cl1;cases k2:(t.kind==2) with
 | true =>
  simp only [if_true];exact ek_ Tryz.func61 [.tmp 4]
 | false =>
 cases k5:(t.kind==5) with
 | true =>
  simp only [if_true,Bool.false_eq_true,if_false];exact ek_ Tryz.func61 [.tmp 4]
 | false =>
 simp only [if_true,Bool.false_eq_true,if_false];cases k3:(t.kind==3) with
 | true =>
  simp only [if_true];refine en_ Tryz.func61 [.tmp 4] fun g0 w0 gen b7 hfr c6 m0=>?_;refine D6 ?_;refine B6 ?_;simp only [go_sem, *];refine L8 ⟨gen,0,0⟩ [(2,.el t.cells 0),(3,.ptr ⟨gen,0,1⟩ 0),(4,.U9)] [(⟨gen,0,1⟩,[.int .i64 b],[.int .i64 b])] (cs:=t.cells) rfl rfl b7 sg_ (c6 0 0) sp_ (by repeat (first|exact g9.refl _|refine g9.new ?_ (c6 _ _))) sf_ (by intro b hb;simp only [List.mem_cons,List.not_mem_nil,or_false] at hb;rcases hb with rfl<;>exact ⟨c6 _ _,sg_,rfl,(by intro p hp;simp only [List.zip_cons_cons,List.zip_nil_left,List.zip_nil_right,List.mem_cons,List.not_mem_nil,or_false] at hp;subst hp;exact .inr (.inl rfl)),sg_⟩) (by
   intro p hp;simp only [List.mem_cons,List.not_mem_nil,or_false] at hp;rcases hp with rfl|rfl|rfl
   ·exact ⟨.inr (.inr ⟨0,sg_,rfl⟩),sf_⟩
   ·exact ⟨.inr (.inl sg_),sf_⟩
   ·exact ⟨.inr (.inl sg_),sf_⟩) ?_
  simp only [List.foldr];refine L8 ⟨gen,0,1⟩ [(2,.el t.cells 0),(3,.el [.int .i64 b] 0),(4,.U9)] [] (cs:=[.int .i64 b]) rfl rfl b7 sg_ (c6 0 1) sp_ (by repeat (first|exact g9.refl _|refine g9.new ?_ (c6 _ _))) sf_ sp_ (by
   intro p hp;simp only [List.mem_cons,List.not_mem_nil,or_false] at hp;rcases hp with rfl|rfl|rfl
   ·exact ⟨.inr (.inl sg_),sf_⟩
   ·exact ⟨.inr (.inr ⟨0,sg_,rfl⟩),sf_⟩
   ·exact ⟨.inr (.inl sg_),sf_⟩) ?_
  simp only [List.foldr];exact wk_
 | false =>
  simp only [Bool.false_eq_true,if_false];refine en_ Tryz.func61 [.tmp 4] fun g0 w0 gen b7 hfr c6 m0=>?_;refine D6 ?_;refine B6 ?_;simp only [go_sem, *];refine L8 ⟨gen,0,0⟩ [(2,.el t.cells 0),(3,.ptr ⟨gen,0,1⟩ 0),(4,.U9)] [(⟨gen,0,1⟩,[.int .i64 b],[.int .i64 b])] (cs:=t.cells) rfl rfl b7 sg_ (c6 0 0) sp_ (by repeat (first|exact g9.refl _|refine g9.new ?_ (c6 _ _))) sf_ (by intro b hb;simp only [List.mem_cons,List.not_mem_nil,or_false] at hb;rcases hb with rfl<;>exact ⟨c6 _ _,sg_,rfl,(by intro p hp;simp only [List.zip_cons_cons,List.zip_nil_left,List.zip_nil_right,List.mem_cons,List.not_mem_nil,or_false] at hp;subst hp;exact .inr (.inl rfl)),sg_⟩) (by
   intro p hp;simp only [List.mem_cons,List.not_mem_nil,or_false] at hp;rcases hp with rfl|rfl|rfl
   ·exact ⟨.inr (.inr ⟨0,sg_,rfl⟩),sf_⟩
   ·exact ⟨.inr (.inl sg_),sf_⟩
   ·exact ⟨.inr (.inl sg_),sf_⟩) ?_
  simp only [List.foldr];refine L8 ⟨gen,0,1⟩ [(2,.el t.cells 0),(3,.el [.int .i64 b] 0),(4,.U9)] [] (cs:=[.int .i64 b]) rfl rfl b7 sg_ (c6 0 1) sp_ (by repeat (first|exact g9.refl _|refine g9.new ?_ (c6 _ _))) sf_ sp_ (by
   intro p hp;simp only [List.mem_cons,List.not_mem_nil,or_false] at hp;rcases hp with rfl|rfl|rfl
   ·exact ⟨.inr (.inl sg_),sf_⟩
   ·exact ⟨.inr (.inr ⟨0,sg_,rfl⟩),sf_⟩
   ·exact ⟨.inr (.inl sg_),sf_⟩) ?_
  simp only [List.foldr];exact wk_
theorem aO2 (b:Nat) (hb:b≤65536) {t:Ty} (ht:PlT t):Iter Tryz.prog env (cl1 b t) (rows (O4 b t)):=by
 induction ht with
 | nat=>exact cM7 b hb
 | list=>exact cw8 b hb
 | unit=>exact cH3
 | @pair a c _ _ ih1 ih2 =>
  have:O4 b (E9 a c)=aF0 (O4 b a) (O4 b c):=by rw [E9,O4]
  rw [this];exact cy3 ih1 ih2 (az3 a b) (az3 c b)
end Go.Proofs.YteaijonkbbkkjaaGreatDoor
