/-
 Walks: the truth of a decidable formula.
-/
import Derived.Test.YtmnplkmphgkooaaGreatDoorMi
set_option linter.unusedSimpArgs false
set_option linter.unusedVariables false
set_option maxRecDepth 20000
set_option maxHeartbeats 4000000
namespace Go.Proofs.YtmnplkmphgkooaaGreatDoor
open Go GoAbs Go.Proofs
theorem num_is {m:Nat} {t:Tm} (hm:m≤65536) (gt:TmG t) (ht:HasTy TyG [] t tNat) (zt:tmSz t≤4096):NumIs m t (evN m t):=by
 obtain ⟨r,u,o,h1,h2,h3⟩:=evN_at (m:=m) ht
 unfold NumIs
 rw [h2]
 exact c_machEval hm h1 gt.toW ht (gt.err0 zt) (by omega)
def AnsOk (lim:Nat) (a:Ans):Prop:=a.2.1≤lim∧(a.1=true→a.2.2=0)
theorem tr_eq {d:GoAbs.Id} {lim w:Nat} {x y:Tm} (hl:lim≤65536) (hw:w≤lim) (gx:TmG x) (gy:TmG y) (tx:HasTy TyG [] x tNat) (ty:HasTy TyG [] y tNat) (zx:tmSz x≤4096) (zy:tmSz y≤4096) :
  TrT d lim (fmEq x y) w (dE lim w x y).1 (dE lim w x y).2.1 (dE lim w x y).2.2∧AnsOk lim (dE lim w x y):=by
 obtain ⟨bx,_⟩:=evN_le (m:=lim - w) tx gx.toW (by omega)
 have by':∀ v,(evN (lim - v) y).2.1≤lim - v:=fun v=>(evN_le ty gy.toW (by omega)).1
 have h:=c_trEq d lim w x y (evN (lim - w) x) (evN (lim - (w+(evN (lim - w) x).2.1)) y) hl hw (num_is (by omega) gx tx zx) bx
  (fun _=>⟨num_is (by omega) gy ty zy,by have:=by' (w+(evN (lim - w) x).2.1);omega⟩)
 have hy:=by' (w+(evN (lim - w) x).2.1)
 have e:eqR w (evN (lim - w) x) (evN (lim - (w+(evN (lim - w) x).2.1)) y)=dE lim w x y:=by
  unfold eqR dE dN
  cases h1:(evN (lim - w) x).2.2 with
  | true=>simp
  | false =>
   simp only [Bool.false_eq_true,if_false]
   cases h2:(evN (lim - (w+(evN (lim - w) x).2.1)) y).2.2 with
   | true=>simp
   | false=>simp
 rw [e] at h
 refine ⟨h,?_⟩
 rw [← e]
 unfold eqR AnsOk
 split
 ·exact ⟨hw,by simp⟩
 ·split
  ·exact ⟨by simp only;omega,by simp⟩
  ·exact ⟨by simp only;omega,by simp⟩
theorem tr_bnd {d:GoAbs.Id} {lim:Nat} {all:Bool} {a:Fm} (D:Nat→Fm→Ans) (hl:lim≤65536) (da:Dc [tNat] a) (za:fmSz a≤4096)
  (hD:∀ f w,Dc [] f→fmSz f≤4096→fdp f=fdp a→w≤lim→TrT d lim f w (D w f).1 (D w f).2.1 (D w f).2.2∧AnsOk lim (D w f)) :
  ∀ n k w,w≤lim→BndS d lim all a n k w (dB D lim all a n k w).1 (dB D lim all a n k w).2.1 (dB D lim all a n k w).2.2∧AnsOk lim (dB D lim all a n k w)
 | 0,k,w,hw=>⟨.done,hw,fun _=>rfl⟩
 | n+1,k,w,hw=>by
  rw [dB]
  by_cases hlt:lim≤w
  ·rw [if_pos hlt]
   exact ⟨.limit hlt,hw,by simp⟩
  rw [if_neg hlt]
  have hp:WithT d lim a k (w+1) (dW D a k (w+1)).1 (dW D a k (w+1)).2.1 (dW D a k (w+1)).2.2∧AnsOk lim (dW D a k (w+1)):=by
   unfold dW
   by_cases hk:4096≤k
   ·rw [if_pos hk]
    exact ⟨c_withBig d lim a k (w+1) hk,by simp only [AnsOk];exact ⟨by omega,by simp⟩⟩
   rw [if_neg hk]
   have zk:tmSz (numT k)=k+1:=tmSz_num k
   have hP:=c_formulaPut a (da.G (u:=true)).toW (da.G (u:=true)) za (da.least (by simp;omega)) (numT k) (numT_W k) (numT_G k) (by omega) ((HasTy.num (Q:=TyG) (g:=[]) k).least _ (by omega) (by simp;omega))
   unfold fmErrV at hP
   cases hz:((putR a (numT k)).2 != 0) with
   | true =>
    simp only [if_true]
    exact ⟨c_withErr d lim a k (w+1) (by omega) _ _ hz hP,by simp only [AnsOk];exact ⟨by omega,by simp⟩⟩
   | false =>
    have hz':(putR a (numT k)).2=0:=by simpa using hz
    simp only [Bool.false_eq_true,if_false]
    obtain ⟨p1,p2,p3⟩:=da.put za (by omega:k<4096) hz'
    obtain ⟨t1,t2⟩:=hD _ (w+1) p1 p2 p3 (by omega)
    rw [hz'] at hP
    exact ⟨c_withOk d lim a k (w+1) (by omega) _ hP t1,t2⟩
  generalize dW D a k (w+1)=p at hp
  obtain ⟨hp1,hp2⟩:=hp
  cases hs:(p.2.2 != 0||p.1 != all) with
  | true =>
   simp only [if_true]
   exact ⟨.stop (by omega) hp1 hs,hp2⟩
  | false =>
   simp only [Bool.false_eq_true,if_false]
   simp only [Bool.or_eq_false_iff,bne_eq_false_iff_eq] at hs
   obtain ⟨s1,s2⟩:=hs
   rw [s1,s2] at hp1
   obtain ⟨r1,r2⟩:=tr_bnd D hl da za hD n (k+1) p.2.1 hp2.1
   exact ⟨.step (by omega) hp1 r1,r2⟩
theorem tr_ok {d:GoAbs.Id} {lim:Nat} (hl:lim≤65536):∀ (n:Nat) (f:Fm) (w:Nat),fdp f≤n→Dc [] f→fmSz f≤4096→w≤lim →
  TrT d lim f w (dT lim n w f).1 (dT lim n w f).2.1 (dT lim n w f).2.2∧AnsOk lim (dT lim n w f)
 | 0,f,w,hn,_,_,_=>by have:=fdp_pos f;omega
 | n + 1,f,w,hn,hf,zf,hw=>by
  generalize hg:([]:List Ty)=g at hf
  cases hf with
  | @eq _ x y gx gy tx ty =>
   subst hg
   rw [fmSz_eq] at zf
   rw [dT_eq]
   exact tr_eq hl hw gx gy tx ty (by omega) (by omega)
  | @two _ k a b hk da db =>
   subst hg
   rw [fmSz_two] at zf
   rw [fdp_two] at hn
   obtain ⟨a1,a2⟩:=tr_ok hl n a w (by omega) da (by omega) hw
   rcases hk with rfl|rfl
   ·rw [dT_and]
    obtain ⟨b1,b2⟩:=tr_ok hl n b (dT lim n w a).2.1 (by omega) db (by omega) a2.1
    refine ⟨c_trAnd d lim w a b _ _ a1 a2.2 (fun _=>b1),?_⟩
    split
    ·exact b2
    ·exact a2
   ·rw [dT_imp]
    obtain ⟨b1,b2⟩:=tr_ok hl n b (dT lim n w a).2.1 (by omega) db (by omega) a2.1
    have:=c_trImp d lim w a b (dT lim n w a) (dT lim n (dT lim n w a).2.1 b) a1 (fun _ _=>b1)
    refine ⟨this,?_⟩
    split
    ·exact ⟨a2.1,by simp⟩
    ·exact b2
  | @bnd _ all q a gq tq oq da =>
   subst hg
   rw [bnd_sz] at zf
   rw [fdp_bnd] at hn
   rw [dT_bnd]
   obtain ⟨gt,tt,zt⟩:=bnd_term gq tq oq (by omega)
   obtain ⟨u1,u2⟩:=evN_le (m:=lim - w) tt gt.toW (by omega)
   have hN:=c_eNumber d w lim (tPut q 0 zeroT) (evN (lim - w) (tPut q 0 zeroT)) hw hl (by omega) (num_is (by omega) gt tt (by omega))
   have hc:q.count 0=0:=by
    rw [gq.count_occ (by omega) (tq.least _ (by omega) (by simp;omega)) (by omega) (by omega),oq];rfl
   have hB:FmG true (bndF all q a):=bndF_G gq da.G
   have hO:=c_ofBnd all q gq.toW hc a (da.G (u:=true)).toW hB.toW (hB.err0 (by rw [bnd_sz];omega))
   have wk:weak (.agg (.bool all::((tPut q 0 zeroT).cells++a.cells)))=.agg (.bool all::((tPut q 0 zeroT).cells++a.cells)):=by
    rw [weak,weakL,weakL_app',weakL_Tm,weakL_Fm,weak]
   unfold dN
   cases ho:(evN (lim - w) (tPut q 0 zeroT)).2.2 with
   | true =>
    rw [ho] at hN
    simp only [if_true,Bool.not_true] at hN ⊢
    exact ⟨⟨_,_,228,hO,wk,by kernel_rfl,c_bndOver d lim w all _ a hN⟩,hw,by simp⟩
   | false =>
    rw [ho] at hN
    simp only [Bool.false_eq_true,if_false,Bool.not_false,bne_self_eq_false] at hN ⊢
    obtain ⟨s1,s2⟩:=tr_bnd (d:=d) (all:=all) (fun w f=>dT lim n w f) hl da (by omega) (fun f w df zf hd hw=>tr_ok hl n f w (by omega) df zf hw)
     (evN (lim - w) (tPut q 0 zeroT)).1 0 (w+(evN (lim - w) (tPut q 0 zeroT)).2.1) (by omega)
    exact ⟨⟨_,_,228,hO,wk,by kernel_rfl,c_bndGo d lim w _ _ _ all _ _ _ a (by have:=u2 ho;omega) hl hN s1⟩,s2⟩
theorem c_may (n:Nat) (hn:n≤65536):Pure Tryz.prog env 67 [.int .i64 n] (.bool true):=by
 intro h
 have d1:decide ((n:Int)≥0)=true:=by simp
 have d2:decide ((n:Int)≤65536)=true:=by simp;omega
 have dt:decide True=true:=rfl
 clear hn
 exact ek_ Tryz.func67 [.tmp 2]
theorem c_decLook {f:Fm} (hf:Dc [] f) (zf:fmSz f≤4096):Pure Tryz.prog env 66 [.sl .any [],.agg f.cells,.bool true] (.int .i64 0):=by
 intro h
 have h1:=c_formulaTyped [] (by simp) (by simp) f hf.ty ((hf.G (u:=true)).err0 zf) zf (hf.G (u:=true)).toW
 have h2:=c_clsDecidable f (hf.G (u:=true)).toW
 have e:f.has 4=(true,0):=by
  unfold Fm.has
  rw [(hf.G (u:=true)).err0 zf,hf.fld (by simp;omega)]
  rfl
 rw [e] at h2
 unfold boolErrV at h2
 simp only [List.map_nil] at h1 h2
 have n0:((0:Int) != 0)=false:=rfl
 clear hf zf e
 exact ek_ Tryz.func66 [.tmp 6]
def decV (a:Ans):V:=if a.2.2 != 0 then .tup [.bool false,.int .i64 0,.int .i64 a.2.2] else .tup [.bool a.1,.int .i64 a.2.1,.int .i64 0]
theorem c_decTruth {f:Fm} (hf:Dc [] f) (zf:fmSz f≤4096) (lim:Nat) (hl:lim≤65536):Pure Tryz.prog env 32 [.agg f.cells,.int .i64 lim] (decV (dT lim (fdp f) 0 f)):=by
 intro h
 have h1:=c_may lim hl
 have h2:=c_decLook hf zf
 have hT:=fun d=>(tr_ok (d:=d) hl (fdp f) f 0 (Nat.le_refl _) hf zf (by omega)).1
 generalize dT lim (fdp f) 0 f=a at *
 obtain ⟨b,w',e⟩:=a
 simp only at hT
 have n0:((0:Int) != 0)=false:=rfl
 have z0:((0:Nat):Int)=0:=rfl
 unfold decV
 clear hf zf hl
 cases he:(e != 0) with
 | true =>
  simp only [if_true]
  refine en_ Tryz.func32 [.tmp 4,.tmp 5,.tmp 6] fun g0 w0 gen hrel hfr hfr' hres=>?_
  obtain ⟨T1,u1,k1,p1,q1,m1,t1⟩:=hT ⟨gen,4,2⟩
  unfold eb at t1
  rw [z0] at t1
  clear hT
  repeat' (first
   |(refine ⟨?_,?_⟩;focus ((repeat' (first|refine ⟨?_,?_⟩|refine .inr ?_));all_goals kernel_rfl))
   |exact hin _|exact agf (by assumption)
   | (first|refine wp rfl ?_|refine spt rfl ?_|refine spf rfl ?_|(refine spl (fun hc=>?_) fun hc=>?_)<;>(try rw [beq_iff_eq] at hc)<;>try simp only [hc]|refine cp h1 ?_|refine cp h2 ?_|refine cp p1 ?_|refine invThen_at (m1) ?_|(refine ct (t1) ?_ ?_;focus ((simp only [go_sem, *]<;>rfl);done))|refine finF hrel ?_ ?_ ?_)<;>try simp only [go_sem, *])
 | false =>
  obtain rfl:e=0:=by simpa using he
  simp only [Bool.false_eq_true,if_false]
  refine en_ Tryz.func32 [.tmp 4,.tmp 5,.tmp 6] fun g0 w0 gen hrel hfr hfr' hres=>?_
  obtain ⟨T1,u1,k1,p1,q1,m1,t1⟩:=hT ⟨gen,4,2⟩
  unfold eb at t1
  rw [z0] at t1
  clear hT
  repeat' (first
   |(refine ⟨?_,?_⟩;focus ((repeat' (first|refine ⟨?_,?_⟩|refine .inr ?_));all_goals kernel_rfl))
   |exact hin _|exact agf (by assumption)
   | (first|refine wp rfl ?_|refine spt rfl ?_|refine spf rfl ?_|(refine spl (fun hc=>?_) fun hc=>?_)<;>(try rw [beq_iff_eq] at hc)<;>try simp only [hc]|refine cp h1 ?_|refine cp h2 ?_|refine cp p1 ?_|refine invThen_at (m1) ?_|(refine ct (t1) ?_ ?_;focus ((simp only [go_sem, *]<;>rfl);done))|refine finF hrel ?_ ?_ ?_)<;>try simp only [go_sem, *])
end Go.Proofs.YtmnplkmphgkooaaGreatDoor
