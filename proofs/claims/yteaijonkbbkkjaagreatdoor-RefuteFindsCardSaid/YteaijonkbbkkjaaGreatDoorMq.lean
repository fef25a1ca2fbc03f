/-
 Walks: several parts in one text.
-/
import Derived.Test.YteaijonkbbkkjaaGreatDoorMa
import Derived.Test.YteaijonkbbkkjaaGreatDoorAbsDc
set_option linter.unusedSimpArgs false
set_option linter.unusedVariables false
set_option maxRecDepth 20000
set_option maxHeartbeats 4000000
namespace Go.Proofs.YteaijonkbbkkjaaGreatDoor
open Go GoAbs Go.Proofs
theorem it_nat (b:Nat) (hb:b≤65536):Iter Tryz.prog env (.fn (.func 106) [] [.el [.int .i64 b] 0]) (rows (valsN b)):=by
 refine iter_of_walk Tryz.func106 rfl (by kernel_rfl) fun C g0 w0 h gen hC hbase hgen hfree hlim hbd=>?_
 have hy:=yI_ok (c:=⟨Tryz.prog,env,Tryz.f106.ntmps,Tryz.f106,g0,w0,h,.undef,h⟩) (R:=iterR env C (rows (valsN b)).length g0 w0 h) (fun l hl=>Nat.lt_of_lt_of_le (hC.lo l hl) hbd)
 have hx:∀ i hs,XOk Tryz.prog ((yI ⟨Tryz.prog,env,Tryz.f106.ntmps,Tryz.f106,g0,w0,h,.undef,h⟩ C (iterR env C (rows (valsN b)).length g0 w0 h)).at (fun g w=>C.Y i g w hs)):=fun i hs=>hy.x (hC.xY hbd i hs)
 repeat' (first|(first|refine ARX_seq ?_|refine ARX_region (hx _ _) follows (by kernel_rfl) ?_|refine ARX_block ?_)<;>try simp only [go_sem, *])
 have hv:∀ i,i<b→(rows (valsN b))[i]? = some [V.agg (numP i).cells]:=fun i hi=>rows_at (valsN_at hi)
 have hlen:(rows (valsN b)).length=b:=by rw [rows_len,valsN_len]
 refine ARY_loop b (fun m X σ=>σ.tm 5=.int .i64 (m:Nat)∧σ.tm 4=.int .i64 b∧σ.tm 0=.fn (.yield C.l) [] []∧∃ hs,X=(fun g w=>C.Y m g w hs)∧(∀ id,C.base id→σ.h id=hs id)∧(∀ id,¬ C.S id→h id≠none→σ.h id=h id)) ?_ ?_
 ·simp only [go_sem, *]
  exact ⟨rfl,h,rfl,fun _ _=>rfl⟩
 intro y' gn m X σ e1 e2 e3 e4 hok' hm ⟨j5,j4,j0,hs,hX,jb,js⟩ next out
 subst hX
 have hy':=hok' hy
 have hx':∀ i hs,XOk Tryz.prog (y'.at (fun g w=>C.Y i g w hs)):=fun i hs=>hy'.x (bd:=C.bd) (hC.xY (Nat.le_refl _) i hs)
 have hz':∀ hs,XOk Tryz.prog (y'.at (fun g w=>C.Z g w hs)):=fun hs=>hy'.x (bd:=C.bd) (hC.xZ (Nat.le_refl _) hs)
 rcases Nat.lt_or_ge m b with hlt|hge
 ·have hd:=lt_true hlt
  have hw:=wrap_succ (i:=m) (by omega)
  repeat' (first|(first|refine ARX_seq ?_|refine ARX_condP ?_|refine ARX_skip ?_|refine spt rfl ?_|refine ARX_yield hy' hfree hC (fun b hb=>by rw [e3];exact hb) (by rw [e4];exact hbd) (hv m hlt) (by kernel_rfl) 3 rfl rfl rfl rfl rfl ?_|refine ARX_region (hx' _ _) follows (by kernel_rfl) ?_|refine ARX_block ?_)<;>try simp only [go_sem, *])
  refine ⟨rfl,jb,fun h' hh=>⟨?_,?_⟩⟩
  ·simp only [go_sem, *]
   repeat' (first|(first|refine ARX_seq ?_|refine ARX_condP ?_|refine ARX_skip ?_|refine spf rfl ?_|refine ARX_block_end ?_|refine ARX_region (hx' _ _) follows (by kernel_rfl) ?_)<;>try simp only [go_sem, *])
   refine next _ _ _ hlt ?_
   simp only [go_sem, *]
   exact ⟨h',rfl,fun _ _=>rfl,fun id h1 h2=>(hh id h1 (by rw [js id h1 h2];exact h2)).trans (js id h1 h2)⟩
  ·simp only [go_sem, *]
   repeat' (first|(first|refine ARX_condP ?_|refine spt rfl ?_|refine ARX_ret ?_)<;>try simp only [go_sem, *])
   refine ARX_out (out _ _ _ gn (.inl rfl) (ARX_out ?_))
   exact ARX_iend (vs:=rows (valsN b)) (.inl rfl) rfl hfree (fun g w hZ=>.inr hZ) (fun id h1 h2=>(hh id h1 (by rw [js id h1 h2];exact h2)).trans (js id h1 h2))
 ·have hd:=lt_false hge
  obtain rfl:m=b:=by omega
  repeat' (first|(first|refine ARX_seq ?_|refine ARX_condP ?_|refine ARX_skip ?_|refine spf rfl ?_|refine ARX_region (hx' _ _) follows (by kernel_rfl) ?_|refine ARX_exit ?_|refine ARX_code_exit ?_)<;>try simp only [go_sem, *])
  refine out _ _ _ gn (.inr ⟨_,rfl⟩) ?_
  refine ARX_block_hit ?_
  refine ARX_iend (vs:=rows (valsN m)) (.inr rfl) rfl hfree (fun g w hY=>.inl ?_) js
  rw [hlen]
  exact hC.Yh _ _ _ _ _ jb hY
theorem it_unit:Iter Tryz.prog env (.fn (.func 104) [] []) (rows [unitP]):=by
 refine iter_of_walk Tryz.func104 rfl (by kernel_rfl) fun C g0 w0 h gen hC hbase hgen hfree hlim hbd=>?_
 have hy:=yI_ok (c:=⟨Tryz.prog,env,Tryz.f104.ntmps,Tryz.f104,g0,w0,h,.undef,h⟩) (R:=iterR env C (rows [unitP]).length g0 w0 h) (fun l hl=>Nat.lt_of_lt_of_le (hC.lo l hl) hbd)
 have hv:(rows [unitP])[0]? = some [V.agg unitP.cells]:=rfl
 refine ARX_yield hy hfree hC (fun b hb=>hb) hbd hv (by kernel_rfl) 2 rfl rfl rfl rfl rfl ?_
 simp only [go_sem, *]
 refine ⟨rfl,fun h' hh=>⟨?_,?_⟩⟩
 ·simp only [go_sem, *]
  exact ARX_iend (vs:=rows [unitP]) (.inr rfl) rfl hfree (fun g w hY=>.inl hY) hh
 ·simp only [go_sem, *]
  exact ARX_iend (vs:=rows [unitP]) (.inr rfl) rfl hfree (fun g w hZ=>.inr hZ) hh
theorem it_pair {a c:Ty} {b:Nat} {A B:List PVl} {fa fb:V} (hA:Iter Tryz.prog env fa (rows A)) (hB:Iter Tryz.prog env fb (rows B))
  (pa:Pure Tryz.prog env 61 [.agg a.cells,.int .i64 b] fa) (pb:Pure Tryz.prog env 61 [.agg c.cells,.int .i64 b] fb) :
  Iter Tryz.prog env (.fn (.func 105) [] [.el (tPair a c).cells 0,.el [.int .i64 b] 0]) (rows (valsP A B)):=by
 refine iter_of_walk Tryz.func105 rfl (by kernel_rfl) fun C g0 w0 h gen hC hbase hgen hfree hlim hbd=>?_
 have hy:=yI_ok (c:=⟨Tryz.prog,env,Tryz.f105.ntmps,Tryz.f105,g0,w0,h,.undef,h⟩) (R:=iterR env C (rows (valsP A B)).length g0 w0 h) (fun l hl=>Nat.lt_of_lt_of_le (hC.lo l hl) hbd)
 have hx:∀ i hs,XOk Tryz.prog ((yI ⟨Tryz.prog,env,Tryz.f105.ntmps,Tryz.f105,g0,w0,h,.undef,h⟩ C (iterR env C (rows (valsP A B)).length g0 w0 h)).at (fun g w=>C.Y i g w hs)):=fun i hs=>hy.x (hC.xY hbd i hs)
 have hfr':∀ r i,h ⟨gen,r,i⟩=none:=fresh_of hgen
 have e:(tPair a c).cells=[.int .i64 3,.sl .any [a.cells,c.cells]]:=by rw [tPair,Ty.mk_cells];rfl
 rw [e]
 repeat' (first|(refine ⟨?_,?_⟩;focus ((repeat' (first|refine ⟨?_,?_⟩|refine .inr ?_));all_goals kernel_rfl))|(first|refine ARX_seq ?_|refine cp pa ?_|refine ARX_region (hx _ _) follows (by kernel_rfl) ?_|refine ARX_block ?_)<;>try simp only [go_sem, *])
 have hvA:∀ (i:Nat) (vv:List V),(rows A)[i]? = some vv→∃ v,A[i]? = some v∧vv=[.agg v.cells]:=by
  intro i vv hh
  unfold rows at hh
  rw [List.getElem?_map] at hh
  cases hv:A[i]? with
  | none=>rw [hv] at hh;simp at hh
  | some v=>rw [hv] at hh;simp at hh;exact ⟨v,rfl,hh.symm⟩
 have hvB:∀ (i:Nat) (vv:List V),(rows B)[i]? = some vv→∃ v,B[i]? = some v∧vv=[.agg v.cells]:=by
  intro i vv hh
  unfold rows at hh
  rw [List.getElem?_map] at hh
  cases hv:B[i]? with
  | none=>rw [hv] at hh;simp at hh
  | some v=>rw [hv] at hh;simp at hh;exact ⟨v,rfl,hh.symm⟩
 have hw1:∀ vv∈rows A,vv.length=1:=by intro vv hh;unfold rows at hh;obtain ⟨v,_,rfl⟩:=List.mem_map.1 hh;rfl
 have hw2:∀ vv∈rows B,vv.length=1:=by intro vv hh;unfold rows at hh;obtain ⟨v,_,rfl⟩:=List.mem_map.1 hh;rfl
 have hnb:∀ id,C.base id→id≠⟨gen,0,0⟩:=fun id hid e=>hbase id hid (by rw [e];exact hfr' 0 0)
 have hb0:∀ id,C.base id→hset h ⟨gen,0,0⟩ (.box [.fn (.yield C.l) [] []]) id=h id:=fun id hid=>hset_other (hnb id hid)
 have hnh:∀ id,h id≠none→id≠⟨gen,0,0⟩:=fun id hid e=>hid (by rw [e];exact hfr' 0 0)
 refine ARX_iter hy (ps:=[12]) (vs:=rows A) (by intro p hp;simp at hp;subst hp;exact of_decide_eq_true (by kernel_rfl)) hw1 C.S (fun id hid=>by
   simp only
   rw [hset_other (hnb id (hC.sub id hid))];exact hbase id (hC.sub id hid))
  (fun m X hh=>∃ hs,X=(fun g w=>C.Y (m * B.length) g w hs)∧(∀ id,C.base id→hh id=hs id)∧hh ⟨gen,0,0⟩=some (.box [.fn (.yield C.l) [] []])∧∀ id,¬ C.S id→h id≠none→hh id=h id)
  (fun id X hh=>id=none∧∃ hs,X=(fun g w=>C.Z g w hs)∧(∀ id,C.base id→hh id=hs id)∧∀ id,¬ C.S id→h id≠none→hh id=h id)
  (by rintro i X hh ⟨hs,rfl,_⟩;exact hC.xY hbd _ _) (by rintro i X hh ⟨_,hs,rfl,_⟩;exact hC.xZ hbd _)
  (by
   rintro i X h1 h2 e ⟨hs,rfl,j1,j2,j3⟩
   have hk:∀ id,h id≠none→h2 id=h1 id:=fun id hid=>e id (by simp only;rw [hset_other (hnh id hid)];exact hid)
   exact ⟨hs,rfl,fun id hid=>(hk id (hbase id hid)).trans (j1 id hid),(e _ (by simp only [hset_same,ne_eq,reduceCtorEq,not_false_eq_true])).trans j2,fun id q1 q2=>(hk id q2).trans (j3 id q1 q2)⟩)
  (by
   rintro i X h1 h2 e ⟨h0,hs,rfl,j1,j3⟩
   have hk:∀ id,h id≠none→h2 id=h1 id:=fun id hid=>e id (by simp only;rw [hset_other (hnh id hid)];exact hid)
   exact ⟨h0,hs,rfl,fun id hid=>(hk id (hbase id hid)).trans (j1 id hid),fun id q1 q2=>(hk id q2).trans (j3 id q1 q2)⟩)
  hlim ?_ (by simp only [go_sem, *]) ⟨h,by rw [Nat.zero_mul],hb0,hset_same,fun id _ q2=>hset_other (hnh id q2)⟩ rfl rfl ?_ ?_
 ·
  rintro ya yb gn i vv hi X oa ob ⟨l,f1,f2,f3⟩ d1 d2 lo1 lo2 hXS hbd1 hbd2 hgn hvv ⟨hs,rfl,jb,jx,js⟩ hnn toB fin finx
  obtain ⟨v,hv,rfl⟩:=hvA i vv hvv
  have xa:∀ m hs,XOk Tryz.prog (ya.at (fun g w=>C.Y m g w hs)):=fun m hs=>oa.x (bd:=C.bd) (hC.xY (Nat.le_refl _) m hs)
  have xb:∀ m hs,XOk Tryz.prog (yb.at (fun g w=>C.Y m g w hs)):=fun m hs=>ob.x (bd:=C.bd) (hC.xY (Nat.le_refl _) m hs)
  have hbb:C.bd≤yb.bd:=Nat.le_trans hbd (by rw [← hbd1];exact hbd2)
  refine ARX_gen (fun gm hgm=>?_)
  have hf:∀ r i,hi ⟨gm,r,i⟩=none:=fresh_of hgm
  have hne:∀ id,hi id≠none→∀ r i,id≠⟨gm,r,i⟩:=fun id hid r i e=>hid (by rw [e];exact hf r i)
  have hbi:∀ id,C.base id→hi id≠none:=fun id hid=>by
   rw [jb id hid]
   have:=hnn id (by simp only;rw [hset_other (hnb id hid)];exact hbase id hid)
   rw [jb id hid] at this;exact this
  have eg:((⟨gen,0,0⟩:GoAbs.Id)=⟨gm,2,0⟩)=False:=eq_false (hne ⟨gen,0,0⟩ (by rw [jx];simp) 2 0)
  clear hnn hvv hx
  simp only [updL]
  repeat' (first|(first|refine ARX_region (xa _ _) follows (by kernel_rfl) ?_)<;>try simp only [go_sem, *])
  refine toB _ _ gm hXS ?_
  clear toB
  repeat' (first|(refine ⟨?_,?_⟩;focus ((repeat' (first|refine ⟨?_,?_⟩|refine .inr ?_));all_goals kernel_rfl))|(first|refine ARX_seq ?_|refine cp pb ?_|refine ARX_region (xb _ _) follows (by kernel_rfl) ?_|refine ARX_block ?_)<;>try simp only [go_sem, *])
  have jx2:hset hi ⟨gm,2,0⟩ (.box v.cells) ⟨gen,0,0⟩=some (.box [.fn (.yield C.l) [] []]):=by rw [hset_other (hne _ (by rw [jx];simp) 2 0)];exact jx
  refine ARX_iterN ob (ps:=[19]) (vs:=rows B) (by intro p hp;simp at hp;subst hp;exact of_decide_eq_true (by kernel_rfl)) hw2 C.S (fun id hid=>by
    simp only
    rw [hset_other (hne id (hbi id (hC.sub id hid)) 2 0)];exact hbi id (hC.sub id hid))
   (fun m X hh=>∃ hs,X=(fun g w=>C.Y (i * B.length+m) g w hs)∧(∀ id,C.base id→hh id=hs id)∧hh ⟨gen,0,0⟩=some (.box [.fn (.yield C.l) [] []])∧hh ⟨gm,2,0⟩=some (.box v.cells)∧∀ id,¬ C.S id→hi id≠none→hh id=hi id)
   (fun id X hh=>id=none∧∃ hs,X=(fun g w=>C.Z g w hs)∧(∀ id,C.base id→hh id=hs id)∧∀ id,¬ C.S id→hi id≠none→hh id=hi id)
   (by rintro i X hh ⟨hs,rfl,_⟩;exact hC.xY hbb _ _) (by rintro i X hh ⟨_,hs,rfl,_⟩;exact hC.xZ hbb _)
   (by
    rintro m X h1 h2 e ⟨hs,rfl,k1,k2,k4,k3⟩
    have hk:∀ id,hi id≠none→h2 id=h1 id:=fun id hid=>e id (by simp only;rw [hset_other (hne id hid 2 0)];exact hid)
    exact ⟨hs,rfl,fun id hid=>(hk id (hbi id hid)).trans (k1 id hid),(hk _ (by rw [jx];simp)).trans k2,(e _ (by simp only [hset_same,ne_eq,reduceCtorEq,not_false_eq_true])).trans k4,fun id q1 q2=>(hk id q2).trans (k3 id q1 q2)⟩)
   (by
    rintro m X h1 h2 e ⟨h0,hs,rfl,k1,k3⟩
    have hk:∀ id,hi id≠none→h2 id=h1 id:=fun id hid=>e id (by simp only;rw [hset_other (hne id hid 2 0)];exact hid)
    exact ⟨h0,hs,rfl,fun id hid=>(hk id (hbi id hid)).trans (k1 id hid),fun id q1 q2=>(hk id q2).trans (k3 id q1 q2)⟩)
   hlim ?_ (by simp only [go_sem, *]) ⟨hs,by rw [Nat.add_zero],fun id hid=>(hset_other (hne id (hbi id hid) 2 0)).trans (jb id hid),jx2,hset_same,fun id _ q2=>hset_other (hne id q2 2 0)⟩
   (l0:=l) (by rw [f2];rfl) f3 d2 ?_ ?_
  ·
   rintro ya' yb' gn' m vv' hj X' oa' ob' ⟨l',f1',f2',f3'⟩ d1' d2' lo1' lo2' hXS' hbd1' hbd2' hgn' hvv' ⟨hs',rfl,kb,kx,kv,ks⟩ hnn' toB' fin' finx'
   obtain ⟨u,hu,rfl⟩:=hvB m vv' hvv'
   have hvP:(rows (valsP A B))[i * B.length+m]? = some [V.agg (pairP v u).cells]:=rows_at (valsP_at hv hu)
   have xa':∀ m hs,XOk Tryz.prog (ya'.at (fun g w=>C.Y m g w hs)):=fun m hs=>oa'.x (bd:=C.bd) (hC.xY (Nat.le_refl _) m hs)
   have xb':∀ m hs,XOk Tryz.prog (yb'.at (fun g w=>C.Y m g w hs)):=fun m hs=>ob'.x (bd:=C.bd) (hC.xY (Nat.le_refl _) m hs)
   have hbb':C.bd≤yb'.bd:=Nat.le_trans hbb (by rw [← hbd1'];exact hbd2')
   refine ARX_gen (fun gk hgk=>?_)
   have hf':∀ r i,hj ⟨gk,r,i⟩=none:=fresh_of hgk
   have hne':∀ id,hj id≠none→∀ r i,id≠⟨gk,r,i⟩:=fun id hid r i e=>hid (by rw [e];exact hf' r i)
   have eg1:((⟨gen,0,0⟩:GoAbs.Id)=⟨gk,4,0⟩)=False:=eq_false (hne' ⟨gen,0,0⟩ (by rw [kx];simp) 4 0)
   have eg2:((⟨gm,2,0⟩:GoAbs.Id)=⟨gk,4,0⟩)=False:=eq_false (hne' ⟨gm,2,0⟩ (by rw [kv];simp) 4 0)
   have hbj:∀ id,C.base id→hj id≠none:=fun id hid=>by
    have:=hnn' id (by simp only;rw [hset_other (hne id (hbi id hid) 2 0)];exact hbi id hid)
    exact this
   clear hnn' hvv'
   simp only [updL]
   repeat' (first|(first|refine ARX_region (xa' _ _) follows (by kernel_rfl) ?_)<;>try simp only [go_sem, *])
   refine toB' _ _ gk hXS' ?_
   clear toB'
   have hs1:∀ (hh:H),(∀ id,¬ C.S id→hset hj ⟨gk,4,0⟩ (.box u.cells) id≠none→hh id=hset hj ⟨gk,4,0⟩ (.box u.cells) id)→∀ id,¬ C.S id→hj id≠none→hh id=hj id:=fun hh e id q1 q2=>by
    have e2:=hset_other (h:=hj) (o:=.box u.cells) (hne' id q2 4 0)
    rw [← e2];exact e id q1 (by rw [e2];exact q2)
   have nS:∀ id,(h id=none)→¬ C.S id:=fun id hid hs=>hbase id (hC.sub id hs) hid
   have nb2:∀ id,hi id=none→¬ C.S id:=fun id hid hs=>hbi id (hC.sub id hs) hid
   repeat' (first|(first|refine ARX_seq ?_|refine ARX_yield ob' hfree hC (fun b hb=>by rw [lo2',lo2];exact hb) hbb' hvP (by kernel_rfl) 5 rfl rfl rfl rfl rfl ?_|refine ARX_region (xb' _ _) follows (by kernel_rfl) ?_|refine ARX_block ?_)<;>try simp only [go_sem, *])
   refine ⟨by rw [pairP,PVl.mk_cells];rfl,fun id hid=>by rw [if_neg (hne' id (hbj id hid) 4 0)];exact kb id hid,fun h' hh=>?_⟩
   have hh1:=hs1 h' hh
   have n0:¬ C.S ⟨gen,0,0⟩:=nS _ (hfr' 0 0)
   have n2:¬ C.S ⟨gm,2,0⟩:=nb2 _ (hf 2 0)
   have k0:=(hh1 _ n0 (by rw [kx];simp)).trans kx
   have k2:=(hh1 _ n2 (by rw [kv];simp)).trans kv
   clear hh
   refine ⟨?_,?_⟩
   ·simp only [go_sem, *]
    repeat' (first|(first|refine ARX_seq ?_|refine ARX_condP ?_|refine ARX_skip ?_|refine spf rfl ?_|refine ARX_block_end ?_)<;>try simp only [go_sem, *])
    refine fin' _ _ _ ⟨h',rfl,fun _ _=>rfl,k0,k2,fun id q1 q2=>?_⟩ hh1
    exact (hh1 id q1 (by rw [ks id q1 q2];exact q2)).trans (ks id q1 q2)
   ·simp only [go_sem, *]
    repeat' (first|(first|refine ARX_condP ?_|refine spt rfl ?_|refine ARX_ret ?_)<;>try simp only [go_sem, *])
    refine ARX_out ?_
    exact finx' _ _ none _ ⟨rfl,h',rfl,fun _ _=>rfl,fun id q1 q2=>(hh1 id q1 (by rw [ks id q1 q2];exact q2)).trans (ks id q1 q2)⟩ hh1
  ·rintro X' h' ⟨hs',rfl,kb,kx,kv,ks⟩ hsame
   refine ARX_block_end (ARX_block_end ?_)
   refine fin _ _ _ ⟨hs',?_,kb,kx,fun id q1 q2=>?_⟩ (fun id q1 q2=>ks id q1 q2)
   ·rw [rows_len,Nat.succ_mul]
   ·exact (ks id q1 (by rw [js id q1 q2];exact q2)).trans (js id q1 q2)
  ·rintro id X' h' ⟨rfl,hs',rfl,kb,ks⟩ hsame
   refine ARX_out ?_
   exact finx _ _ none _ ⟨rfl,hs',rfl,kb,fun id q1 q2=>(ks id q1 (by rw [js id q1 q2];exact q2)).trans (js id q1 q2)⟩ (fun id q1 q2=>ks id q1 q2)
 ·rintro D X' h' hD ok ⟨hs,rfl,jb,jx,js⟩ hsame
  refine ARX_block_end ?_
  refine ARX_iendM hC (.inr rfl) rfl hfree hlim hbd hD (fun g w hY=>.inl ?_) js
  rw [rows_len,valsP_len]
  rw [rows_len] at hY
  exact hC.Yh _ _ _ _ _ jb hY
 ·rintro D id X' h' hD ok ⟨rfl,hs,rfl,jb,js⟩ hsame
  refine ARX_out ?_
  exact ARX_iendM hC (.inl rfl) rfl hfree hlim hbd hD (fun g w hZ=>.inr (hC.Zh _ _ _ _ jb hZ)) js
theorem yf_list {C:Cons} {vs:List (List V)} (hC:ConsOk Tryz.prog env C vs) (d:GoAbs.Id) (l:List Nat) :
  YFun Tryz.prog env C vs 158 [.sl .any (ints (l.map fun (n:Nat)=>(n:Int))),.ptr d 0] [.agg (listP l).cells] (fun h=>h d=some (.box [.fn (.yield C.l) [] []])):=by
 refine yfun_of_walk Tryz.func158 rfl (by kernel_rfl) hC fun i g0 w0 h gen hv hpre hgen hfree hlim hbd hL=>?_
 have hy:=yI_ok (c:=⟨Tryz.prog,env,Tryz.f158.ntmps,Tryz.f158,g0,w0,h,.undef,h⟩) (R:=yfunR env C i g0 w0 h) hL
 have hx:∀ j hs,XOk Tryz.prog ((yI ⟨Tryz.prog,env,Tryz.f158.ntmps,Tryz.f158,g0,w0,h,.undef,h⟩ C (yfunR env C i g0 w0 h)).at (fun g w=>C.Y j g w hs)):=fun j hs=>hy.x (hC.xY hbd j hs)
 have e:(listP l).cells=[.int .i64 2,.int .i64 0,.sl .any (ints (l.map fun (n:Nat)=>(n:Int))),.sl .any []]:=by rw [listP,PVl.mk_cells];rfl
 rw [e] at hv
 have hwL:weakLL (ints (l.map fun (n:Nat)=>(n:Int)))=ints (l.map fun (n:Nat)=>(n:Int)):=by simp only [go_sem, *]
 generalize ints (l.map fun (n:Nat)=>(n:Int))=L at *
 replace hpre:h d=some (.box [.fn (.yield C.l) [] []]):=hpre
 repeat' (first|(first|refine ARX_seq ?_|refine ARX_yield hy hfree hC (fun b hb=>hb) hbd hv (by kernel_rfl) 3 rfl rfl rfl rfl rfl ?_|refine ARX_region (hx _ _) follows (by kernel_rfl) ?_|refine ARX_block ?_)<;>try simp only [go_sem, *])
 refine fun h' hh=>⟨?_,?_⟩
 all_goals
  simp only [go_sem, *]
  repeat' (first|(first|refine ARX_seq ?_|refine ARX_ret ?_)<;>try simp only [go_sem, *])
 ·exact ARX_yend rfl (by simp only [go_sem, *]) (fun g w hY=>.inl ⟨rfl,hY⟩) hh
 ·exact ARX_yend rfl (by simp only [go_sem, *]) (fun g w hZ=>.inr ⟨rfl,hZ⟩) hh
theorem it_list (b:Nat) (hb:b≤65536):Iter Tryz.prog env (.fn (.func 157) [] [.el [.int .i64 b] 0]) (rows (valsL b)):=by
 refine iter_of_walk Tryz.func157 rfl (by kernel_rfl) fun C g0 w0 h gen hC hbase hgen hfree hlim hbd=>?_
 have hy:=yI_ok (c:=⟨Tryz.prog,env,Tryz.f157.ntmps,Tryz.f157,g0,w0,h,.undef,h⟩) (R:=iterR env C (rows (valsL b)).length g0 w0 h) (fun l hl=>Nat.lt_of_lt_of_le (hC.lo l hl) hbd)
 obtain ⟨y,hyd⟩:∃ y,y=yI ⟨Tryz.prog,env,Tryz.f157.ntmps,Tryz.f157,g0,w0,h,.undef,h⟩ C (iterR env C (rows (valsL b)).length g0 w0 h):=⟨_,rfl⟩
 have hLo:y.Lo=C.L:=by rw [hyd];rfl
 have hyb:C.bd≤y.bd:=by rw [hyd];exact hbd
 rw [← hyd] at hy ⊢
 have hx:∀ i hs,XOk Tryz.prog (y.at (fun g w=>C.Y i g w hs)):=fun i hs=>hy.x (hC.xY (Nat.le_refl _) i hs)
 have hfr':∀ r i,h ⟨gen,r,i⟩=none:=fresh_of hgen
 have hnb:∀ id,C.base id→id≠⟨gen,0,0⟩:=fun id hid e=>hbase id hid (by rw [e];exact hfr' 0 0)
 have hnh:∀ id,h id≠none→id≠⟨gen,0,0⟩:=fun id hid e=>hid (by rw [e];exact hfr' 0 0)
 have nS:¬ C.S ⟨gen,0,0⟩:=fun hs=>hbase _ (hC.sub _ hs) (hfr' 0 0)
 have hlen:(rows (valsL b)).length=1+b+b * b:=by rw [rows_len,valsL_len]
 have v0:(rows (valsL b))[0]? = some [V.agg (listP []).cells]:=rows_at (valsL_0 b)
 have v1:∀ i,i<b→(rows (valsL b))[1+i]? = some [V.agg (listP [i]).cells]:=fun i hi=>rows_at (valsL_1 hi)
 have v2:∀ i m,i<b→m<b→(rows (valsL b))[1+b+(i * b+m)]? = some [V.agg (listP [i,m]).cells]:=fun i m hi hm=>rows_at (valsL_2 hi hm)
 have endZ:∀ gn (h':H),(∀ id,¬ C.S id→h id≠none→h' id=h id)→∀ tm,ARX ⟨Tryz.prog,env,Tryz.f157.ntmps,Tryz.f157,g0,w0,h,.undef,h⟩ (y.at (fun g w=>C.Z g w h')) gn [] .ret ⟨tm,h'⟩:=by
  intro gn h' hs tm
  rw [hyd]
  exact ARX_iend (vs:=rows (valsL b)) (.inl rfl) rfl hfree (fun g w hZ=>.inr hZ) hs
 have endY:∀ gn (h' hs:H),(∀ id,C.base id→h' id=hs id)→(∀ id,¬ C.S id→h id≠none→h' id=h id)→∀ tm,ARX ⟨Tryz.prog,env,Tryz.f157.ntmps,Tryz.f157,g0,w0,h,.undef,h⟩ (y.at (fun g w=>C.Y (1+b+b * b) g w hs)) gn [] .normal ⟨tm,h'⟩:=by
  intro gn h' hs e1 e2 tm
  rw [hyd]
  exact ARX_iend (vs:=rows (valsL b)) (.inr rfl) rfl hfree (fun g w hY=>.inl (by rw [hlen];exact hC.Yh _ _ _ _ _ e1 hY)) e2
 clear hyd hlen hlim
 repeat' (first|(first|refine ARX_seq ?_|refine ARX_ycall hy hfree hC (fun b hb=>by rw [hLo];exact hb) hyb (yf_list hC ⟨gen,0,0⟩ []) v0 (by kernel_rfl) 1 rfl rfl rfl rfl rfl ?_|refine ARX_region (hx _ _) follows (by kernel_rfl) ?_|refine ARX_block ?_)<;>try simp only [go_sem, *])
 refine ⟨_,_,rfl,by simp [weakL,weak,weakLL,ints],fun id hid=>by rw [if_neg (hnb id hid)],fun h' hh=>?_⟩
 have own:h' ⟨gen,0,0⟩=some (.box [.fn (.yield C.l) [] []]):=(hh _ nS (by simp only [hset_same,ne_eq,reduceCtorEq,not_false_eq_true])).trans hset_same
 have js:∀ id,¬ C.S id→h id≠none→h' id=h id:=fun id q1 q2=>(hh id q1 (by simp only;rw [hset_other (hnh id q2)];exact q2)).trans (hset_other (hnh id q2))
 clear hh hx
 refine ⟨?_,?_⟩
 case refine_2 =>
  simp only [go_sem, *]
  repeat' (first|(first|refine ARX_condP ?_|refine spt rfl ?_|refine ARX_ret ?_)<;>try simp only [go_sem, *])
  exact ARX_out (endZ _ _ js _)
 have hx:∀ i hs,XOk Tryz.prog (y.at (fun g w=>C.Y i g w hs)):=fun i hs=>hy.x (hC.xY (Nat.le_refl _) i hs)
 simp only [go_sem, *]
 repeat' (first|(first|refine ARX_seq ?_|refine ARX_condP ?_|refine spf rfl ?_|refine ARX_skip ?_|refine ARX_region (hx _ _) follows (by kernel_rfl) ?_|refine ARX_block ?_)<;>try simp only [go_sem, *])
 refine ARY_loop b (fun m X σ=>σ.tm 12=.int .i64 (m:Nat)∧σ.tm 11=.int .i64 b∧σ.tm 3=.fn (.func 158) [] [.ptr ⟨gen,0,0⟩ 0]∧σ.tm 1=.el [.int .i64 b] 0 ∧
  ∃ hs,X=(fun g w=>C.Y (1+m) g w hs)∧(∀ id,C.base id→σ.h id=hs id)∧σ.h ⟨gen,0,0⟩=some (.box [.fn (.yield C.l) [] []])∧(∀ id,¬ C.S id→h id≠none→σ.h id=h id)) ?_ ?_
 ·simp only [go_sem, *]
  exact ⟨rfl,h',rfl,fun _ _=>rfl,js⟩
 clear own js hx
 intro y1 gn m X σ e1 e2 e3 e4 hok1 hm ⟨j12,j11,j3,j1,hs,hX,jb,jx,js⟩ next out
 subst hX
 have hy1:=hok1 hy
 have hx1:∀ i hs,XOk Tryz.prog (y1.at (fun g w=>C.Y i g w hs)):=fun i hs=>hy1.x (hC.xY (Nat.le_refl _) i hs)
 clear hok1 e1 e2
 rcases Nat.lt_or_ge m b with hlt|hge
 ·have hd:=lt_true hlt
  have hw:=wrap_succ (i:=m) (by omega)
  repeat' (first|(first|refine ARX_seq ?_|refine ARX_condP ?_|refine ARX_skip ?_|refine spt rfl ?_|refine ARX_ycall hy1 hfree hC (fun b hb=>by rw [e3,hLo];exact hb) (by rw [e4];exact hyb) (yf_list hC ⟨gen,0,0⟩ [m]) (v1 m hlt) (by kernel_rfl) 3 rfl rfl rfl rfl rfl ?_|refine ARX_region (hx1 _ _) follows (by kernel_rfl) ?_|refine ARX_block ?_)<;>try simp only [go_sem, *])
  refine ⟨_,_,rfl,by simp [weakL,weak,weakLL,ints],jb,fun h' hh=>?_⟩
  have own':=(hh _ nS (by simp only;rw [jx];simp)).trans jx
  have js':∀ id,¬ C.S id→h id≠none→h' id=h id:=fun id q1 q2=>(hh id q1 (by simp only;rw [js id q1 q2];exact q2)).trans (js id q1 q2)
  clear hh
  refine ⟨?_,?_⟩
  ·simp only [go_sem, *]
   repeat' (first|(first|refine ARX_seq ?_|refine ARX_condP ?_|refine ARX_skip ?_|refine spf rfl ?_|refine ARX_block_end ?_|refine ARX_region (hx1 _ _) follows (by kernel_rfl) ?_)<;>try simp only [go_sem, *])
   refine next _ _ _ hlt ?_
   simp only [go_sem, *]
   exact ⟨h',rfl,fun _ _=>rfl,js'⟩
  ·simp only [go_sem, *]
   repeat' (first|(first|refine ARX_condP ?_|refine spt rfl ?_|refine ARX_ret ?_)<;>try simp only [go_sem, *])
   exact ARX_out (out _ _ _ gn (.inl rfl) (ARX_out (endZ _ _ js' _)))
 ·have hd:=lt_false hge
  obtain rfl:m=b:=by omega
  repeat' (first|(first|refine ARX_seq ?_|refine ARX_condP ?_|refine ARX_skip ?_|refine spf rfl ?_|refine ARX_region (hx1 _ _) follows (by kernel_rfl) ?_|refine ARX_exit ?_|refine ARX_code_exit ?_)<;>try simp only [go_sem, *])
  refine out _ _ _ gn (.inr ⟨_,rfl⟩) ?_
  clear next out hx1 hy1
  have hx:∀ i hs,XOk Tryz.prog (y.at (fun g w=>C.Y i g w hs)):=fun i hs=>hy.x (hC.xY (Nat.le_refl _) i hs)
  refine ARX_block_hit ?_
  repeat' (first|(first|refine ARX_seq ?_|refine ARX_region (hx _ _) follows (by kernel_rfl) ?_|refine ARX_block ?_)<;>try simp only [go_sem, *])
  clear hx hd
  refine ARY_loop m (fun a X σ'=>σ'.tm 22=.int .i64 (a:Nat)∧σ'.tm 21=.int .i64 m∧σ'.tm 3=.fn (.func 158) [] [.ptr ⟨gen,0,0⟩ 0]∧σ'.tm 1=.el [.int .i64 m] 0 ∧
   ∃ hs,X=(fun g w=>C.Y (1+m+a * m) g w hs)∧(∀ id,C.base id→σ'.h id=hs id)∧σ'.h ⟨gen,0,0⟩=some (.box [.fn (.yield C.l) [] []])∧(∀ id,¬ C.S id→h id≠none→σ'.h id=h id)) ?_ ?_
  ·simp only [go_sem, *]
   exact ⟨rfl,hs,by rw [Nat.zero_mul,Nat.add_zero],jb,js⟩
  clear j12 j11 j3 j1 jb jx js
  intro y1 gn a X σ' e1 e2 e3 e4 hok1 ha ⟨j22,j21,j3,j1,hs,hX,jb,jx,js⟩ next out
  subst hX
  have hy1:=hok1 hy
  have hx1:∀ i hs,XOk Tryz.prog (y1.at (fun g w=>C.Y i g w hs)):=fun i hs=>hy1.x (hC.xY (Nat.le_refl _) i hs)
  clear hok1 e1 e2
  rcases Nat.lt_or_ge a m with hlt|hge
  ·have hd:=lt_true hlt
   have hw:=wrap_succ (i:=a) (by omega)
   repeat' (first|(first|refine ARX_seq ?_|refine ARX_condP ?_|refine ARX_skip ?_|refine spt rfl ?_|refine ARX_region (hx1 _ _) follows (by kernel_rfl) ?_|refine ARX_block ?_)<;>try simp only [go_sem, *])
   refine ARY_loop m (fun q X σ''=>σ''.tm 26=.int .i64 (q:Nat)∧σ''.tm 25=.int .i64 m∧σ''.tm 5=.int .i64 (a:Nat)∧σ''.tm 22=.int .i64 (a:Nat)∧σ''.tm 21=.int .i64 m∧σ''.tm 3=.fn (.func 158) [] [.ptr ⟨gen,0,0⟩ 0]∧σ''.tm 1=.el [.int .i64 m] 0 ∧
    ∃ hs,X=(fun g w=>C.Y (1+m+(a * m+q)) g w hs)∧(∀ id,C.base id→σ''.h id=hs id)∧σ''.h ⟨gen,0,0⟩=some (.box [.fn (.yield C.l) [] []])∧(∀ id,¬ C.S id→h id≠none→σ''.h id=h id)) ?_ ?_
   ·simp only [go_sem, *]
    exact ⟨rfl,hs,by rw [Nat.add_zero],jb,js⟩
   clear j22 j21 j3 j1 jb jx js hd hx1
   intro y2 gn q X σ'' f1 f2 f3 f4 hok2 hq ⟨j26,j25,j5,j22,j21,j3,j1,hs,hX,jb,jx,js⟩ next2 out2
   subst hX
   have hy2:=hok2 hy1
   have hx2:∀ i hs,XOk Tryz.prog (y2.at (fun g w=>C.Y i g w hs)):=fun i hs=>hy2.x (hC.xY (Nat.le_refl _) i hs)
   clear hok2 f1 f2
   rcases Nat.lt_or_ge q m with hlq|hgq
   ·have hd:=lt_true hlq
    have hw2:=wrap_succ (i:=q) (by omega)
    repeat' (first|(first|refine ARX_seq ?_|refine ARX_condP ?_|refine ARX_skip ?_|refine spt rfl ?_|refine ARX_ycall hy2 hfree hC (fun b hb=>by rw [f3,e3,hLo];exact hb) (by rw [f4,e4];exact hyb) (yf_list hC ⟨gen,0,0⟩ [a,q]) (v2 a q hlt hlq) (by kernel_rfl) 4 rfl rfl rfl rfl rfl ?_|refine ARX_region (hx2 _ _) follows (by kernel_rfl) ?_|refine ARX_block ?_)<;>try simp only [go_sem, *])
    refine ⟨_,_,rfl,by simp [weakL,weak,weakLL,ints],jb,fun h' hh=>?_⟩
    have own':=(hh _ nS (by simp only;rw [jx];simp)).trans jx
    have js':∀ id,¬ C.S id→h id≠none→h' id=h id:=fun id q1 q2=>(hh id q1 (by simp only;rw [js id q1 q2];exact q2)).trans (js id q1 q2)
    clear hh
    refine ⟨?_,?_⟩
    ·simp only [go_sem, *]
     repeat' (first|(first|refine ARX_seq ?_|refine ARX_condP ?_|refine ARX_skip ?_|refine spf rfl ?_|refine ARX_block_end ?_|refine ARX_region (hx2 _ _) follows (by kernel_rfl) ?_)<;>try simp only [go_sem, *])
     refine next2 _ _ _ hlq ?_
     simp only [go_sem, *]
     exact ⟨h',rfl,fun _ _=>rfl,js'⟩
    ·simp only [go_sem, *]
     repeat' (first|(first|refine ARX_condP ?_|refine spt rfl ?_|refine ARX_ret ?_)<;>try simp only [go_sem, *])
     exact ARX_out (out2 _ _ _ gn (.inl rfl) (ARX_out (out _ _ _ gn (.inl rfl) (ARX_out (endZ _ _ js' _)))))
   ·have hd:=lt_false hgq
    obtain rfl:q=m:=by omega
    repeat' (first|(first|refine ARX_seq ?_|refine ARX_condP ?_|refine ARX_skip ?_|refine spf rfl ?_|refine ARX_region (hx2 _ _) follows (by kernel_rfl) ?_|refine ARX_exit ?_|refine ARX_code_exit ?_)<;>try simp only [go_sem, *])
    refine out2 _ _ _ gn (.inr ⟨_,rfl⟩) ?_
    clear next2 out2 hx2 hy2
    have hx1:∀ i hs,XOk Tryz.prog (y1.at (fun g w=>C.Y i g w hs)):=fun i hs=>hy1.x (hC.xY (Nat.le_refl _) i hs)
    refine ARX_block_hit ?_
    repeat' (first|(first|refine ARX_seq ?_|refine ARX_block_end ?_|refine ARX_region (hx1 _ _) follows (by kernel_rfl) ?_)<;>try simp only [go_sem, *])
    refine next _ _ _ hlt ?_
    simp only [go_sem, *]
    exact ⟨hs,by rw [Nat.succ_mul],jb,js⟩
  ·have hd:=lt_false hge
   obtain rfl:a=m:=by omega
   repeat' (first|(first|refine ARX_seq ?_|refine ARX_condP ?_|refine ARX_skip ?_|refine spf rfl ?_|refine ARX_region (hx1 _ _) follows (by kernel_rfl) ?_|refine ARX_exit ?_|refine ARX_code_exit ?_)<;>try simp only [go_sem, *])
   refine out _ _ _ gn (.inr ⟨_,rfl⟩) ?_
   refine ARX_block_hit ?_
   exact endY _ _ _ jb js _
theorem it_first {t:Ty} {b most:Nat} {L:List PVl} {fv:V} (hm:most≤65536) (hA:Iter Tryz.prog env fv (rows L)) (pa:Pure Tryz.prog env 61 [.agg t.cells,.int .i64 b] fv) :
  Iter Tryz.prog env (.fn (.func 60) [] [.el [.int .i64 most] 0,.el t.cells 0,.el [.int .i64 b] 0]) (rows (L.take most)):=by
 refine iter_of_walk Tryz.func60 rfl (by kernel_rfl) fun C g0 w0 h gen hC hbase hgen hfree hlim hbd=>?_
 have hy:=yI_ok (c:=⟨Tryz.prog,env,Tryz.f60.ntmps,Tryz.f60,g0,w0,h,.undef,h⟩) (R:=iterR env C (rows (L.take most)).length g0 w0 h) (fun l hl=>Nat.lt_of_lt_of_le (hC.lo l hl) hbd)
 have hx:∀ i hs,XOk Tryz.prog ((yI ⟨Tryz.prog,env,Tryz.f60.ntmps,Tryz.f60,g0,w0,h,.undef,h⟩ C (iterR env C (rows (L.take most)).length g0 w0 h)).at (fun g w=>C.Y i g w hs)):=fun i hs=>hy.x (hC.xY hbd i hs)
 have hfr':∀ r i,h ⟨gen,r,i⟩=none:=fresh_of hgen
 have nS:∀ r i,¬ C.S ⟨gen,r,i⟩:=fun r i hs=>hbase _ (hC.sub _ hs) (hfr' r i)
 have hnb:∀ id,h id≠none→∀ r i,id≠⟨gen,r,i⟩:=fun id hid r i e=>hid (by rw [e];exact hfr' r i)
 rcases Nat.eq_zero_or_pos most with h0|hpos
 ·subst h0
  have z:((0:Nat):Int)=0:=rfl
  rw [z]
  repeat' (first|(first|refine ARX_seq ?_|refine ARX_condP ?_|refine spt rfl ?_|refine ARX_ret ?_|refine ARX_region (hx _ _) follows (by kernel_rfl) ?_)<;>try simp only [go_sem, *])
  refine ARX_out ?_
  refine ARX_iend (vs:=rows (L.take 0)) (.inl rfl) rfl hfree (fun g w hY=>.inl ?_) (fun id q1 q2=>?_)
  ·exact hC.Yh _ _ _ _ _ (fun id hid=>by simp only;rw [hset_other (hnb id (hbase id hid) 1 0),hset_other (hnb id (hbase id hid) 0 0)]) hY
  ·simp only;rw [hset_other (hnb id q2 1 0),hset_other (hnb id q2 0 0)]
 have hd0:((most:Int)==0)=false:=by simp;omega
 repeat' (first|(first|refine ARX_seq ?_|refine ARX_condP ?_|refine spf rfl ?_|refine cp pa ?_|refine ARX_skip ?_|refine ARX_region (hx _ _) follows (by kernel_rfl) ?_|refine ARX_block ?_)<;>try simp only [go_sem, *])
 have hvA:∀ (i:Nat) (vv:List V),(rows L)[i]? = some vv→∃ v,L[i]? = some v∧vv=[.agg v.cells]:=by
  intro i vv hh
  unfold rows at hh
  rw [List.getElem?_map] at hh
  cases hv:L[i]? with
  | none=>rw [hv] at hh;simp at hh
  | some v=>rw [hv] at hh;simp at hh;exact ⟨v,rfl,hh.symm⟩
 have hw1:∀ vv∈rows L,vv.length=1:=by intro vv hh;unfold rows at hh;obtain ⟨v,_,rfl⟩:=List.mem_map.1 hh;rfl
 clear hx
 have hlen:∀ m,L.length=m→m<most→(rows (L.take most)).length=m:=fun m e hlt=>by rw [rows_len,List.length_take];omega
 refine ARX_iter hy (ps:=[12]) (vs:=rows L) (by intro p hp;simp at hp;subst hp;exact of_decide_eq_true (by kernel_rfl)) hw1 (fun id=>C.S id∨id=⟨gen,1,0⟩) (fun id hid=>by
   simp only
   rcases hid with hid|rfl
   ·rw [hset_other (hnb id (hbase id (hC.sub id hid)) 1 0),hset_other (hnb id (hbase id (hC.sub id hid)) 0 0)];exact hbase id (hC.sub id hid)
   ·simp only [hset_same,ne_eq,reduceCtorEq,not_false_eq_true])
  (fun m X hh=>m<most∧∃ hs,X=(fun g w=>C.Y m g w hs)∧(∀ id,C.base id→hh id=hs id)∧hh ⟨gen,0,0⟩=some (.box [.fn (.yield C.l) [] []])∧hh ⟨gen,1,0⟩=some (.box [.int .i64 m])∧∀ id,¬ C.S id→h id≠none→hh id=h id)
  (fun id X hh=>id=none∧(∃ hs,(X=(fun g w=>C.Z g w hs)∨(X=(fun g w=>C.Y most g w hs)∧most≤L.length))∧(∀ id,C.base id→hh id=hs id))∧∀ id,¬ C.S id→h id≠none→hh id=h id)
  (by rintro i X hh ⟨_,hs,rfl,_⟩;exact hC.xY hbd _ _) (by rintro i X hh ⟨_,⟨hs,rfl|⟨rfl,_⟩,_⟩,_⟩;exact hC.xZ hbd _;exact hC.xY hbd _ _)
  (by
   rintro i X h1 h2 e ⟨q0,hs,rfl,j1,j2,j4,j3⟩
   have hk:∀ id,h id≠none→h2 id=h1 id:=fun id hid=>e id (by simp only;rw [hset_other (hnb id hid 1 0),hset_other (hnb id hid 0 0)];exact hid)
   exact ⟨q0,hs,rfl,fun id hid=>(hk id (hbase id hid)).trans (j1 id hid),(e _ (by simp only [go_sem, *];simp)).trans j2,(e _ (by simp only [go_sem, *];simp)).trans j4,fun id q1 q2=>(hk id q2).trans (j3 id q1 q2)⟩)
  (by
   rintro i X h1 h2 e ⟨q0,⟨hs,hX,j1⟩,j3⟩
   have hk:∀ id,h id≠none→h2 id=h1 id:=fun id hid=>e id (by simp only;rw [hset_other (hnb id hid 1 0),hset_other (hnb id hid 0 0)];exact hid)
   exact ⟨q0,⟨hs,hX,fun id hid=>(hk id (hbase id hid)).trans (j1 id hid)⟩,fun id q1 q2=>(hk id q2).trans (j3 id q1 q2)⟩)
  hlim ?_ (by simp only [go_sem, *]) ⟨hpos,h,rfl,fun id hid=>by simp only;rw [hset_other (hnb id (hbase id hid) 1 0),hset_other (hnb id (hbase id hid) 0 0)],by simp only [go_sem, *],by simp only [go_sem, *];rfl,fun id _ q2=>by simp only;rw [hset_other (hnb id q2 1 0),hset_other (hnb id q2 0 0)]⟩ rfl rfl ?_ ?_
 ·
  rintro ya yb gn i vv hi X oa ob ⟨l,f1,f2,f3⟩ d1 d2 lo1 lo2 hXS hbd1 hbd2 hgn hvv ⟨hlt,hs,rfl,jb,jx,jn,js⟩ hnn toB fin finx
  obtain ⟨v,hv,rfl⟩:=hvA i vv hvv
  have hvP:(rows (L.take most))[i]? = some [V.agg v.cells]:=rows_at (by rw [List.getElem?_take];rw [if_pos hlt];exact hv)
  have hiL:i<L.length:=(List.getElem?_eq_some_iff.1 hv).1
  have xa:∀ m hs,XOk Tryz.prog (ya.at (fun g w=>C.Y m g w hs)):=fun m hs=>oa.x (bd:=C.bd) (hC.xY (Nat.le_refl _) m hs)
  have xb:∀ m hs,XOk Tryz.prog (yb.at (fun g w=>C.Y m g w hs)):=fun m hs=>ob.x (bd:=C.bd) (hC.xY (Nat.le_refl _) m hs)
  have hbb:C.bd≤yb.bd:=Nat.le_trans hbd (by rw [← hbd1];exact hbd2)
  refine ARX_gen (fun gm hgm=>?_)
  have hf:∀ r i,hi ⟨gm,r,i⟩=none:=fresh_of hgm
  have hne:∀ id,hi id≠none→∀ r i,id≠⟨gm,r,i⟩:=fun id hid r i e=>hid (by rw [e];exact hf r i)
  have hbi:∀ id,C.base id→hi id≠none:=fun id hid=>by
   have:=hnn id (by simp only;rw [hset_other (hnb id (hbase id hid) 1 0),hset_other (hnb id (hbase id hid) 0 0)];exact hbase id hid)
   exact this
  have eg:(gen=gm)=False:=eq_false (fun e=>hne ⟨gen,0,0⟩ (by rw [jx];simp) 0 0 (by rw [e]))
  have eg':(gm=gen)=False:=eq_false (fun e=>hne ⟨gen,0,0⟩ (by rw [jx];simp) 0 0 (by rw [e]))
  have hw:=wrap_succ (i:=i) (by omega)
  clear hnn hvv
  simp only [updL]
  repeat' (first|(first|refine ARX_region (xa _ _) follows (by kernel_rfl) ?_)<;>try simp only [go_sem, *])
  refine toB _ _ gm hXS ?_
  clear toB xa
  have hk:∀ id,hi id≠none→id≠⟨gen,1,0⟩→hset (hset hi ⟨gm,4,0⟩ (.box v.cells)) ⟨gen,1,0⟩ (.box [.int .i64 ((i+1:Nat):Int)]) id=hi id:=fun id q1 q2=>by
   rw [hset_other q2,hset_other (hne id q1 4 0)]
  repeat' (first|(first|refine ARX_seq ?_|refine ARX_yield ob hfree hC (fun b hb=>by rw [lo2];exact hb) hbb hvP (by kernel_rfl) 2 rfl rfl rfl rfl rfl ?_|refine ARX_region (xb _ _) follows (by kernel_rfl) ?_|refine ARX_block ?_)<;>try simp only [go_sem, *])
  refine ⟨fun id hid=>by rw [if_neg (hnb id (hbase id (by exact hid)) 1 0),if_neg (hne id (hbi id hid) 4 0)];exact jb id hid,fun h' hh=>?_⟩
  have j0:h' ⟨gen,0,0⟩=some (.box [.fn (.yield C.l) [] []]):=(hh _ (nS 0 0) (by simp only [go_sem, *];simp)).trans (by simp only [go_sem, *])
  have j1:h' ⟨gen,1,0⟩=some (.box [.int .i64 ((i+1:Nat):Int)]):=(hh _ (nS 1 0) (by simp only [go_sem, *];simp)).trans (by simp only [go_sem, *])
  have jk:∀ id,¬ (C.S id∨id=⟨gen,1,0⟩)→hi id≠none→h' id=hi id:=fun id q1 q2=>by
   have e2:=hk id q2 (fun e=>q1 (.inr e))
   exact (hh id (fun e=>q1 (.inl e)) (by simp only;rw [e2];exact q2)).trans e2
  have js':∀ id,¬ C.S id→h id≠none→h' id=h id:=fun id q1 q2 =>
   (jk id (fun e=>e.elim q1 (hnb id q2 1 0)) (by rw [js id q1 q2];exact q2)).trans (js id q1 q2)
  clear hh hk jx jn js jb
  refine ⟨?_,?_⟩
  ·by_cases he:i+1=most
   ·have hd1:((most:Int)==(most:Int))=true:=by simp
    simp only [go_sem, *]
    repeat' (first|(first|refine ARX_seq ?_|refine ARX_condP ?_|refine spt rfl ?_|refine ARX_ret ?_)<;>try simp only [go_sem, *])
    refine ARX_out ?_
    exact finx _ _ none _ ⟨rfl,⟨h',.inr ⟨rfl,by omega⟩,fun _ _=>rfl⟩,js'⟩ jk
   ·have hd1:(((i+1:Nat):Int)==(most:Int))=false:=by simp;omega
    simp only [go_sem, *]
    repeat' (first|(first|refine ARX_seq ?_|refine ARX_condP ?_|refine spf rfl ?_|refine ARX_skip ?_|refine ARX_block_end ?_)<;>try simp only [go_sem, *])
    exact fin _ _ _ ⟨by omega,h',rfl,fun _ _=>rfl,j0,j1,js'⟩ jk
  ·simp only [go_sem, *]
   repeat' (first|(first|refine ARX_condP ?_|refine spt rfl ?_|refine ARX_ret ?_)<;>try simp only [go_sem, *])
   refine ARX_out ?_
   exact finx _ _ none _ ⟨rfl,⟨h',.inl rfl,fun _ _=>rfl⟩,js'⟩ jk
 ·rintro D X' h' hD ok ⟨hlt,hs,rfl,jb,jx,jn,js⟩ hsame
  refine ARX_block_end ?_
  refine ARX_iendM hC (.inr rfl) rfl hfree hlim hbd hD (fun g w hY=>.inl ?_) js
  rw [rows_len] at hlt hY
  rw [hlen _ rfl hlt]
  exact hC.Yh _ _ _ _ _ jb hY
 ·rintro D id X' h' hD ok ⟨rfl,⟨hs,hX,jb⟩,js⟩ hsame
  refine ARX_out ?_
  rcases hX with rfl|⟨rfl,hle⟩
  ·exact ARX_iendM hC (.inl rfl) rfl hfree hlim hbd hD (fun g w hZ=>.inr (hC.Zh _ _ _ _ jb hZ)) js
  ·refine ARX_iendM hC (.inl rfl) rfl hfree hlim hbd hD (fun g w hY=>.inl ?_) js
   rw [rows_len,List.length_take,Nat.min_eq_left hle]
   exact hC.Yh _ _ _ _ _ jb hY
theorem c_lists (b:Nat):Pure Tryz.prog env 103 [.int .i64 b] (.fn (.func 157) [] [.el [.int .i64 b] 0]):=by
 intro h
 refine en_ Tryz.func103 [.tmp 2] fun g0 w0 gen hrel hfr hfr' hres=>?_
 refine AR_seq ?_
 refine AR_region ?_
 simp only [go_sem, *]
 refine AR_freezePL ⟨gen,0,0⟩ [(1,.el [.int .i64 b] 0),(2,.nilf)] [] (cs:=[.int .i64 b]) rfl rfl hrel (by simp only [go_sem, *]) (hfr' 0 0) (by simp) (Agree.new (Agree.refl _) (hfr' 0 0)) (by simp [InL,InV]) (by simp) (by
  intro p hp
  simp only [List.mem_cons,List.not_mem_nil,or_false] at hp
  rcases hp with rfl|rfl
  ·exact ⟨.inr (.inr ⟨0,by simp only [go_sem, *],rfl⟩),by simp [InV,InL]⟩
  ·exact ⟨.inr (.inl (by simp only [go_sem, *])),by simp [InV]⟩) ?_
 simp only [List.foldr]
 exact wk_
theorem c_first (t:Ty) (b m:Nat):Pure Tryz.prog env 34 [.agg t.cells,.int .i64 b,.int .i64 m] (.fn (.func 60) [] [.el [.int .i64 m] 0,.el t.cells 0,.el [.int .i64 b] 0]):=by
 intro h
 refine en_ Tryz.func34 [.tmp 6] fun g0 w0 gen hrel hfr hfr' hres=>?_
 refine AR_seq ?_
 refine AR_region ?_
 simp only [go_sem, *]
 refine AR_freezePL ⟨gen,0,0⟩ [(3,.el t.cells 0),(4,.ptr ⟨gen,0,1⟩ 0),(5,.ptr ⟨gen,0,2⟩ 0),(6,.nilf)] [(⟨gen,0,1⟩,[.int .i64 b],[.int .i64 b]),(⟨gen,0,2⟩,[.int .i64 m],[.int .i64 m])] (cs:=t.cells) rfl rfl hrel (by simp only [go_sem, *]) (hfr' 0 0) (by simp) (by repeat (first|exact Agree.refl _|refine Agree.new ?_ (hfr' _ _))) (by simp only [go_sem, *,List.foldr_cons,List.foldr_nil,ne_eq,reduceCtorEq,not_false_eq_true]) (by intro b hb;simp only [List.mem_cons,List.not_mem_nil,or_false] at hb;rcases hb with rfl|rfl<;>exact ⟨hfr' _ _,by simp only [go_sem, *],rfl,(by intro p hp;simp only [List.zip_cons_cons,List.zip_nil_left,List.zip_nil_right,List.mem_cons,List.not_mem_nil,or_false] at hp;subst hp;exact .inr (.inl rfl)),by simp only [go_sem, *]⟩) (by
  intro p hp
  simp only [List.mem_cons,List.not_mem_nil,or_false] at hp
  rcases hp with rfl|rfl|rfl|rfl
  ·exact ⟨.inr (.inr ⟨0,by simp only [go_sem, *],rfl⟩),by simp only [go_sem, *,List.foldr_cons,List.foldr_nil,ne_eq,reduceCtorEq,not_false_eq_true]⟩
  ·exact ⟨.inr (.inl (by simp only [go_sem, *])),by simp only [go_sem, *,List.foldr_cons,List.foldr_nil,ne_eq,reduceCtorEq,not_false_eq_true]⟩
  ·exact ⟨.inr (.inl (by simp only [go_sem, *])),by simp only [go_sem, *,List.foldr_cons,List.foldr_nil,ne_eq,reduceCtorEq,not_false_eq_true]⟩
  ·exact ⟨.inr (.inl (by simp only [go_sem, *])),by simp only [go_sem, *,List.foldr_cons,List.foldr_nil,ne_eq,reduceCtorEq,not_false_eq_true]⟩) ?_
 simp only [List.foldr]
 refine AR_freezePL ⟨gen,0,1⟩ [(3,.el t.cells 0),(4,.el [.int .i64 b] 0),(5,.ptr ⟨gen,0,2⟩ 0),(6,.nilf)] [(⟨gen,0,2⟩,[.int .i64 m],[.int .i64 m])] (cs:=[.int .i64 b]) rfl rfl hrel (by simp only [go_sem, *]) (hfr' 0 1) (by simp) (by repeat (first|exact Agree.refl _|refine Agree.new ?_ (hfr' _ _))) (by simp only [go_sem, *,List.foldr_cons,List.foldr_nil,ne_eq,reduceCtorEq,not_false_eq_true]) (by intro b hb;simp only [List.mem_cons,List.not_mem_nil,or_false] at hb;rcases hb with rfl<;>exact ⟨hfr' _ _,by simp only [go_sem, *],rfl,(by intro p hp;simp only [List.zip_cons_cons,List.zip_nil_left,List.zip_nil_right,List.mem_cons,List.not_mem_nil,or_false] at hp;subst hp;exact .inr (.inl rfl)),by simp only [go_sem, *]⟩) (by
  intro p hp
  simp only [List.mem_cons,List.not_mem_nil,or_false] at hp
  rcases hp with rfl|rfl|rfl|rfl
  ·exact ⟨.inr (.inl (by simp only [go_sem, *])),by simp only [go_sem, *,List.foldr_cons,List.foldr_nil,ne_eq,reduceCtorEq,not_false_eq_true]⟩
  ·exact ⟨.inr (.inr ⟨0,by simp only [go_sem, *],rfl⟩),by simp only [go_sem, *,List.foldr_cons,List.foldr_nil,ne_eq,reduceCtorEq,not_false_eq_true]⟩
  ·exact ⟨.inr (.inl (by simp only [go_sem, *])),by simp only [go_sem, *,List.foldr_cons,List.foldr_nil,ne_eq,reduceCtorEq,not_false_eq_true]⟩
  ·exact ⟨.inr (.inl (by simp only [go_sem, *])),by simp only [go_sem, *,List.foldr_cons,List.foldr_nil,ne_eq,reduceCtorEq,not_false_eq_true]⟩) ?_
 simp only [List.foldr]
 refine AR_freezePL ⟨gen,0,2⟩ [(3,.el t.cells 0),(4,.el [.int .i64 b] 0),(5,.el [.int .i64 m] 0),(6,.nilf)] [] (cs:=[.int .i64 m]) rfl rfl hrel (by simp only [go_sem, *]) (hfr' 0 2) (by simp) (by repeat (first|exact Agree.refl _|refine Agree.new ?_ (hfr' _ _))) (by simp only [go_sem, *,List.foldr_cons,List.foldr_nil,ne_eq,reduceCtorEq,not_false_eq_true]) (by simp) (by
  intro p hp
  simp only [List.mem_cons,List.not_mem_nil,or_false] at hp
  rcases hp with rfl|rfl|rfl|rfl
  ·exact ⟨.inr (.inl (by simp only [go_sem, *])),by simp only [go_sem, *,List.foldr_cons,List.foldr_nil,ne_eq,reduceCtorEq,not_false_eq_true]⟩
  ·exact ⟨.inr (.inl (by simp only [go_sem, *])),by simp only [go_sem, *,List.foldr_cons,List.foldr_nil,ne_eq,reduceCtorEq,not_false_eq_true]⟩
  ·exact ⟨.inr (.inr ⟨0,by simp only [go_sem, *],rfl⟩),by simp only [go_sem, *,List.foldr_cons,List.foldr_nil,ne_eq,reduceCtorEq,not_false_eq_true]⟩
  ·exact ⟨.inr (.inl (by simp only [go_sem, *])),by simp only [go_sem, *,List.foldr_cons,List.foldr_nil,ne_eq,reduceCtorEq,not_false_eq_true]⟩) ?_
 simp only [List.foldr]
 exact wk_
def fvals (b:Nat) (t:Ty):V :=
 if t.kind==2 then .fn (.func 157) [] [.el [.int .i64 b] 0] else if t.kind==5 then .fn (.func 104) [] [] else if t.kind==3 then .fn (.func 105) [] [.el t.cells 0,.el [.int .i64 b] 0] else .fn (.func 106) [] [.el [.int .i64 b] 0]
theorem c_values (t:Ty) (b:Nat):Pure Tryz.prog env 61 [.agg t.cells,.int .i64 b] (fvals b t):=by
 intro h
 have h1:=c_lists b
 unfold fvals
 cases k2:(t.kind==2) with
 | true =>
  simp only [if_true]
  exact ek_ Tryz.func61 [.tmp 4]
 | false =>
 cases k5:(t.kind==5) with
 | true =>
  simp only [if_true,Bool.false_eq_true,if_false]
  exact ek_ Tryz.func61 [.tmp 4]
 | false =>
 simp only [if_true,Bool.false_eq_true,if_false]
 cases k3:(t.kind==3) with
 | true =>
  simp only [if_true]
  refine en_ Tryz.func61 [.tmp 4] fun g0 w0 gen hrel hfr hfr' hres=>?_
  refine AR_seq ?_
  refine AR_region ?_
  simp only [go_sem, *]
  refine AR_freezePL ⟨gen,0,0⟩ [(2,.el t.cells 0),(3,.ptr ⟨gen,0,1⟩ 0),(4,.nilf)] [(⟨gen,0,1⟩,[.int .i64 b],[.int .i64 b])] (cs:=t.cells) rfl rfl hrel (by simp only [go_sem, *]) (hfr' 0 0) (by simp) (by repeat (first|exact Agree.refl _|refine Agree.new ?_ (hfr' _ _))) (by simp only [go_sem, *,List.foldr_cons,List.foldr_nil,ne_eq,reduceCtorEq,not_false_eq_true]) (by intro b hb;simp only [List.mem_cons,List.not_mem_nil,or_false] at hb;rcases hb with rfl<;>exact ⟨hfr' _ _,by simp only [go_sem, *],rfl,(by intro p hp;simp only [List.zip_cons_cons,List.zip_nil_left,List.zip_nil_right,List.mem_cons,List.not_mem_nil,or_false] at hp;subst hp;exact .inr (.inl rfl)),by simp only [go_sem, *]⟩) (by
   intro p hp
   simp only [List.mem_cons,List.not_mem_nil,or_false] at hp
   rcases hp with rfl|rfl|rfl
   ·exact ⟨.inr (.inr ⟨0,by simp only [go_sem, *],rfl⟩),by simp only [go_sem, *,List.foldr_cons,List.foldr_nil,ne_eq,reduceCtorEq,not_false_eq_true]⟩
   ·exact ⟨.inr (.inl (by simp only [go_sem, *])),by simp only [go_sem, *,List.foldr_cons,List.foldr_nil,ne_eq,reduceCtorEq,not_false_eq_true]⟩
   ·exact ⟨.inr (.inl (by simp only [go_sem, *])),by simp only [go_sem, *,List.foldr_cons,List.foldr_nil,ne_eq,reduceCtorEq,not_false_eq_true]⟩) ?_
  simp only [List.foldr]
  refine AR_freezePL ⟨gen,0,1⟩ [(2,.el t.cells 0),(3,.el [.int .i64 b] 0),(4,.nilf)] [] (cs:=[.int .i64 b]) rfl rfl hrel (by simp only [go_sem, *]) (hfr' 0 1) (by simp) (by repeat (first|exact Agree.refl _|refine Agree.new ?_ (hfr' _ _))) (by simp only [go_sem, *,List.foldr_cons,List.foldr_nil,ne_eq,reduceCtorEq,not_false_eq_true]) (by simp) (by
   intro p hp
   simp only [List.mem_cons,List.not_mem_nil,or_false] at hp
   rcases hp with rfl|rfl|rfl
   ·exact ⟨.inr (.inl (by simp only [go_sem, *])),by simp only [go_sem, *,List.foldr_cons,List.foldr_nil,ne_eq,reduceCtorEq,not_false_eq_true]⟩
   ·exact ⟨.inr (.inr ⟨0,by simp only [go_sem, *],rfl⟩),by simp only [go_sem, *,List.foldr_cons,List.foldr_nil,ne_eq,reduceCtorEq,not_false_eq_true]⟩
   ·exact ⟨.inr (.inl (by simp only [go_sem, *])),by simp only [go_sem, *,List.foldr_cons,List.foldr_nil,ne_eq,reduceCtorEq,not_false_eq_true]⟩) ?_
  simp only [List.foldr]
  exact wk_
 | false =>
  simp only [Bool.false_eq_true,if_false]
  refine en_ Tryz.func61 [.tmp 4] fun g0 w0 gen hrel hfr hfr' hres=>?_
  refine AR_seq ?_
  refine AR_region ?_
  simp only [go_sem, *]
  refine AR_freezePL ⟨gen,0,0⟩ [(2,.el t.cells 0),(3,.ptr ⟨gen,0,1⟩ 0),(4,.nilf)] [(⟨gen,0,1⟩,[.int .i64 b],[.int .i64 b])] (cs:=t.cells) rfl rfl hrel (by simp only [go_sem, *]) (hfr' 0 0) (by simp) (by repeat (first|exact Agree.refl _|refine Agree.new ?_ (hfr' _ _))) (by simp only [go_sem, *,List.foldr_cons,List.foldr_nil,ne_eq,reduceCtorEq,not_false_eq_true]) (by intro b hb;simp only [List.mem_cons,List.not_mem_nil,or_false] at hb;rcases hb with rfl<;>exact ⟨hfr' _ _,by simp only [go_sem, *],rfl,(by intro p hp;simp only [List.zip_cons_cons,List.zip_nil_left,List.zip_nil_right,List.mem_cons,List.not_mem_nil,or_false] at hp;subst hp;exact .inr (.inl rfl)),by simp only [go_sem, *]⟩) (by
   intro p hp
   simp only [List.mem_cons,List.not_mem_nil,or_false] at hp
   rcases hp with rfl|rfl|rfl
   ·exact ⟨.inr (.inr ⟨0,by simp only [go_sem, *],rfl⟩),by simp only [go_sem, *,List.foldr_cons,List.foldr_nil,ne_eq,reduceCtorEq,not_false_eq_true]⟩
   ·exact ⟨.inr (.inl (by simp only [go_sem, *])),by simp only [go_sem, *,List.foldr_cons,List.foldr_nil,ne_eq,reduceCtorEq,not_false_eq_true]⟩
   ·exact ⟨.inr (.inl (by simp only [go_sem, *])),by simp only [go_sem, *,List.foldr_cons,List.foldr_nil,ne_eq,reduceCtorEq,not_false_eq_true]⟩) ?_
  simp only [List.foldr]
  refine AR_freezePL ⟨gen,0,1⟩ [(2,.el t.cells 0),(3,.el [.int .i64 b] 0),(4,.nilf)] [] (cs:=[.int .i64 b]) rfl rfl hrel (by simp only [go_sem, *]) (hfr' 0 1) (by simp) (by repeat (first|exact Agree.refl _|refine Agree.new ?_ (hfr' _ _))) (by simp only [go_sem, *,List.foldr_cons,List.foldr_nil,ne_eq,reduceCtorEq,not_false_eq_true]) (by simp) (by
   intro p hp
   simp only [List.mem_cons,List.not_mem_nil,or_false] at hp
   rcases hp with rfl|rfl|rfl
   ·exact ⟨.inr (.inl (by simp only [go_sem, *])),by simp only [go_sem, *,List.foldr_cons,List.foldr_nil,ne_eq,reduceCtorEq,not_false_eq_true]⟩
   ·exact ⟨.inr (.inr ⟨0,by simp only [go_sem, *],rfl⟩),by simp only [go_sem, *,List.foldr_cons,List.foldr_nil,ne_eq,reduceCtorEq,not_false_eq_true]⟩
   ·exact ⟨.inr (.inl (by simp only [go_sem, *])),by simp only [go_sem, *,List.foldr_cons,List.foldr_nil,ne_eq,reduceCtorEq,not_false_eq_true]⟩) ?_
  simp only [List.foldr]
  exact wk_
theorem it_values (b:Nat) (hb:b≤65536) {t:Ty} (ht:PlT t):Iter Tryz.prog env (fvals b t) (rows (vals b t)):=by
 induction ht with
 | nat=>exact it_nat b hb
 | list=>exact it_list b hb
 | unit=>exact it_unit
 | @pair a c _ _ ih1 ih2 =>
  have:vals b (tPair a c)=valsP (vals b a) (vals b c):=by rw [tPair,vals]
  rw [this]
  exact it_pair ih1 ih2 (c_values a b) (c_values c b)
end Go.Proofs.YteaijonkbbkkjaaGreatDoor
