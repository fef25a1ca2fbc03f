/-
 The abstract layer: plain laws, further ones.
-/
import Derived.Test.YtbfilinnoedfeaaGreatDoorAbsDb
import Derived.Test.YtbfilinnoedfeaaGreatDoorAbsD
import Derived.Test.YtbfilinnoedfeaaGreatDoorAbsB
set_option linter.unusedSimpArgs false
set_option linter.unusedVariables false
set_option linter.unusedSectionVars false
namespace GoAbs
open Go
/- Content types. -/
/- realize. -/
theorem FmG.qk {u:Bool} {k:Int} (hk:k=4∨k=5∨(u=true∧(k=6∨k=7))):k=4∨k=5∨k=6∨k=7:=by
 rcases hk with h|h|⟨_,h|h⟩<;>simp [h]
theorem below_q {k:Int} (hk:k=4∨k=5∨k=6∨k=7):fmBelow k=1:=by rcases hk with rfl|rfl|rfl|rfl<;>rfl
theorem fdp_q {k:Int} {t:Ty} {a:Fm}:fdp (fmQ k t a)=fdp a+1:=by simp [fmQ,fdp,fdpL]
/- Existential quantifiers are counted. -/
mutual
def Fm.rv (F:Tm→Int→Tm):Fm→Int→Fm
 | .mk k t l a,b=>.mk k t (l.map fun x=>F x b) (Fm.rvL F a (evB k b))
def Fm.rvL (F:Tm→Int→Tm):List Fm→Int→List Fm
 | [],_=>[]
 | t::l,b=>t.rv F b::Fm.rvL F l b
end
theorem Fm.rvL_map {F:Tm→Int→Tm}:∀ (l:List Fm) (b:Int),Fm.rvL F l b=l.map fun t=>t.rv F b
 | [],b=>by simp [Fm.rvL]
 | t::l,b=>by simp [Fm.rvL,Fm.rvL_map l b]
theorem Fm.rv_eq (F:Tm→Int→Tm) (f:Fm) (b:Int):f.rv F b=.mk f.kind f.type (f.terms.map fun x=>F x b) (f.args.map fun x=>x.rv F (evB f.kind b)):=by
 cases f;rw [Fm.rv,Fm.rvL_map];rfl
/- The context of a sequent, and the places of its hypotheses. -/
mutual
def Fm.sm (F:Tm→Int→Int):Fm→Int→Int→Int
 | .mk k _ l a,b,n=>Fm.smL F a (evB k b) (l.foldl (fun n t=>addW n (F t b)) n)
def Fm.smL (F:Tm→Int→Int):List Fm→Int→Int→Int
 | [],_,n=>n
 | f::l,b,n=>Fm.smL F l b (f.sm F b n)
end
theorem Fm.smL_fold {F:Tm→Int→Int}:∀ (l:List Fm) (b n:Int),Fm.smL F l b n=l.foldl (fun n f=>f.sm F b n) n
 | [],b,n=>by simp [Fm.smL]
 | t::l,b,n=>by simp [Fm.smL,Fm.smL_fold l b]
theorem Fm.sm_eq (F:Tm→Int→Int) (f:Fm) (b n:Int):f.sm F b n=f.args.foldl (fun n x=>x.sm F (evB f.kind b) n) (f.terms.foldl (fun n t=>addW n (F t b)) n):=by
 cases f;rw [Fm.sm,Fm.smL_fold];rfl
theorem foldl_take_succ {α:Type} {g:Int→α→Int} {l:List α} {i:Nat} {x:α} (h:l[i]? = some x) (n:Int):(l.take (i+1)).foldl g n=g ((l.take i).foldl g n) x:=by
 rw [List.take_add_one,h];simp
theorem TmG.rb_put {s:Tm} (hs:TmG s) (zs:tmSz s≤5000) (ls:s.least 536870912=true) {a:Int} (ha0:0≤a) (ha:a≤100000):∀ (n:Nat) {t:Tm},TmG t→tmSz t≤n→t.least 1000000000=true→∀ d:Int,0≤d→d+n≤100000 →
  t.rb (putG a s) d=tmInn s 0 t (a+d)
 | 0,t,h,hn,_,_,_,_=>by have:=tmSz_pos t;omega
 | n + 1,t,h,hn,hl,d,h0,hd=>by
  revert hn hl
  have e0:addW 0 (a+d)=a+d:=by rw [addW_eq (by omega) (by omega) (by omega) (by omega)];omega
  refine h.cases' (p:=fun t=>tmSz t≤n+1→t.least 1000000000=true→t.rb (putG a s) d=tmInn s 0 t (a+d)) ?_ ?_
  ·intro i hi _ hl
   have hi2:=var_j hl
   rw [tmVar,Tm.rb,tmInn,e0]
   simp only [beq_self_eq_true,if_true,putG]
   rw [subW_eq (by omega) (by omega) (by omega) (by omega),addW_eq (a:=a) (by omega) (by omega) (by omega) (by omega)]
   have e1:(i - d==a)=(i==a+d):=by
    by_cases h:i=a+d
    ·have h1:(i==a+d)=true:=by simpa using h
     rw [h1];simp;omega
    ·have h1:(i==a+d)=false:=by simpa using h
     rw [h1];simp;omega
   have e2:decide (i - d>a)=decide (i>a+d):=by
    by_cases h:i>a+d
    ·rw [decide_eq_true h,decide_eq_true (by omega)]
    ·rw [decide_eq_false h,decide_eq_false (by omega)]
   rw [e1,e2,tLift_up hs zs ls (by omega) (by omega) (by omega) (by omega)]
   rfl
  ·intro k ty l hk _ hg _ hn hl
   rw [tmSz] at hn
   rw [Tm.least,Bool.and_eq_true] at hl
   have hr:=tmBelow_range k
   have e:addW (a+d) (tmBelow k)=a+(d+tmBelow k):=by rw [addW_eq (by omega) (by omega) (by omega) (by omega)];omega
   rw [Tm.rb,Tm.rbL_map,tmInn,tmInnL_map,hk,e,below_eq h0 (by omega)]
   simp only [Bool.false_eq_true,if_false]
   congr 1
   refine List.map_congr_left fun y hy=>?_
   exact TmG.rb_put hs zs ls ha0 ha n (hg y hy) (by have:=tmSzL_mem hy;omega) (Tm.leastL_iff.1 hl.2 y hy) _ (by omega) (by omega)
theorem tPut_inn {s t:Tm} (hs:TmG s) (zs:tmSz s≤5000) (ls:s.least 536870912=true) (ht:TmG t) (zt:tmSz t≤5000) (lt:t.least 536870912=true) {a:Int} (ha0:0≤a) (ha:a≤50000):tPut t a s=tmInn s 0 t a:=by
 have:=TmG.rb_put hs zs ls ha0 (by omega:a≤100000) _ ht (Nat.le_refl _) (least_mono (by omega) _ lt) 0 (by omega) (by omega)
 rw [Int.add_zero] at this
 exact this
theorem rv_put {u:Bool} {s:Tm} (hs:TmG s) (zs:tmSz s≤5000) (ls:s.least 536870912=true) {f:Fm} (h:FmG u f):fmSz f≤5000→f.least 536870912=true→∀ d:Int,0≤d→d+fmSz f≤50000 →
  f.rv (fun t b=>tPut t (addW 0 b) s) d=fmInn s 0 f d:=by
 induction h with
 | @eq x y hx hy =>
  intro hz hl d h0 hd
  rw [fmSz_eq] at hd hz
  obtain ⟨l1,l2⟩:=fleast_eq.1 hl
  rw [fmInn_eqn,fmEq,Fm.rv_eq]
  simp only [Fm.kind,Fm.terms,Fm.args,Fm.type,List.map_cons,List.map_nil]
  rw [addW_z h0 (by omega),tPut_inn hs zs ls hx (by omega) l1 h0 (by omega),tPut_inn hs zs ls hy (by omega) l2 h0 (by omega)]
  rfl
 | @two k p q hk _ _ h1 h2 =>
  intro hz hl d h0 hd
  rw [fmSz_two] at hd hz
  obtain ⟨l1,l2⟩:=fleast_parts2 hl
  rw [fmInn_two,fmTwo,Fm.rv_eq]
  simp only [Fm.kind,Fm.terms,Fm.args,Fm.type,List.map_cons,List.map_nil]
  rw [evB_eq h0 (by omega),below_two hk,Int.add_zero,addW_zero h0 (by omega),h1 (by omega) l1 d h0 (by omega),h2 (by omega) l2 d h0 (by omega)]
  rfl
 | @q k t p hk hs' _ h1 =>
  intro hz hl d h0 hd
  rw [fmSz_q] at hd hz
  rw [fmInn_q,fmQ,Fm.rv_eq]
  simp only [Fm.kind,Fm.terms,Fm.args,Fm.type,List.map_cons,List.map_nil]
  rw [evB_eq h0 (by omega),below_q (FmG.qk hk),addW_eq (by omega) (by omega) (by omega) (by omega),h1 (by omega) (fleast_part hl) _ (by omega) (by omega)]
  rfl
theorem sm_occ {u:Bool} {f:Fm} (h:FmG u f):fmSz f≤5000→f.least 536870912=true→∀ (d:Int) (n:Nat),0≤d→d+fmSz f≤50000→n+fmSz f≤50000 →
  f.sm (fun t b=>t.count (addW 0 b)) d (n:Int)=((n+fmOcc f d:Nat):Int):=by
 induction h with
 | @eq x y hx hy =>
  intro hz hl d n h0 hd hn
  rw [fmSz_eq] at hd hz hn
  obtain ⟨l1,l2⟩:=fleast_eq.1 hl
  have o1:=tmOcc_le x d
  have o2:=tmOcc_le y d
  rw [Fm.sm_eq,fmOcc_eq,fmEq]
  simp only [Fm.kind,Fm.terms,Fm.args,List.foldl_cons,List.foldl_nil]
  rw [addW_z h0 (by omega),hx.count_occ (by omega) (least_mono (by omega) _ l1) h0 (by omega),hy.count_occ (by omega) (least_mono (by omega) _ l2) h0 (by omega),
   addW_eq (a:=(n:Int)) (by omega) (by omega) (by omega) (by omega),addW_eq (by omega) (by omega) (by omega) (by omega)]
  omega
 | @two k p q hk _ _ h1 h2 =>
  intro hz hl d n h0 hd hn
  rw [fmSz_two] at hd hz hn
  obtain ⟨l1,l2⟩:=fleast_parts2 hl
  have o1:=fmOcc_le p d
  rw [Fm.sm_eq,fmOcc_two hk,fmTwo]
  simp only [Fm.kind,Fm.terms,Fm.args,List.foldl_cons,List.foldl_nil]
  rw [evB_eq h0 (by omega),below_two hk,Int.add_zero,h1 (by omega) l1 d n h0 (by omega) (by omega),h2 (by omega) l2 d _ h0 (by omega) (by omega)]
  omega
 | @q k t p hk hs' _ h1 =>
  intro hz hl d n h0 hd hn
  rw [fmSz_q] at hd hz hn
  rw [Fm.sm_eq,fmOcc_q (FmG.qk hk),fmQ]
  simp only [Fm.kind,Fm.terms,Fm.args,List.foldl_cons,List.foldl_nil]
  rw [evB_eq h0 (by omega),below_q (FmG.qk hk),h1 (by omega) (fleast_part hl) _ n (by omega) (by omega) (by omega)]
theorem HasTy.least {g:List Ty} {t:Tm} {s:Ty} (h:HasTy TyG g t s):∀ M:Int,1≤M→(g.length:Int)+tmSz t≤M→t.least M=true:=by
 induction h with
 | var hi h=>intro M hM hb;rw [tmSz_v] at hb;exact least_v (by omega)
 | lam hG _ ih=>intro M hM hb;rw [tmSz_T1] at hb;exact least_T1 hM (ih M hM (by simp;omega))
 | n0 hN=>intro M hM hb;exact least_mk (by omega) (by simp)
 | n1 hN _ ih=>intro M hM hb;rw [tmSz_T1] at hb;exact least_T1 hM (ih M hM (by omega))
 | n2 hN _ _ ih1 ih2=>intro M hM hb;rw [tmSz_T2] at hb;exact least_mk (by omega) (by simp [ih1 M hM (by omega),ih2 M hM (by omega)])
 | n3 hN _ _ _ ih1 ih2 ih3=>intro M hM hb;rw [tmSz_T3] at hb;exact least_T3 hM (ih1 M hM (by omega)) (ih2 M hM (by omega)) (ih3 M hM (by omega))
theorem TmG.toW {t:Tm} (h:TmG t):TmW t:=by
 induction h with
 | @plain k l a ha hl ht _ ih =>
  refine tm0_W ?_ ih
  have:a≤3:=by
   unfold arity at ha
   split at ha
   ·cases ha
   ·rename_i hk
    have:k=1∨k=2∨k=3∨k=4∨k=5∨k=6∨k=7∨k=8∨k=9∨k=10∨k=11∨k=12∨k=13:=by omega
    rcases this with rfl|rfl|rfl|rfl|rfl|rfl|rfl|rfl|rfl|rfl|rfl|rfl|rfl<;>simp [arities] at ha<;>omega
  omega
 | var=>exact tmVar_W _
 | @typd k t l a ha hl ht hg _ ih =>
  have:a≤3:=by
   unfold arity at ha
   split at ha
   ·cases ha
   ·rename_i hk
    have:k=1∨k=2∨k=3∨k=4∨k=5∨k=6∨k=7∨k=8∨k=9∨k=10∨k=11∨k=12∨k=13:=by omega
    rcases this with rfl|rfl|rfl|rfl|rfl|rfl|rfl|rfl|rfl|rfl|rfl|rfl|rfl<;>simp [arities] at ha<;>omega
  exact .mk _ _ _ _ hg.1.W (by omega) ih
theorem FmG.toW {u:Bool} {f:Fm} (h:FmG u f):FmW f:=by
 induction h with
 | eq hx hy=>exact fmEq_W hx.toW hy.toW
 | two hk _ _ h1 h2=>exact .mk _ _ _ _ tZero_W (by simp) (by simp) (by simp) (by simp [h1,h2])
 | q hk hs _ h1=>exact .mk _ _ _ _ hs.1.W (by simp) (by simp) (by simp) (by simp [h1])
inductive Dc:List Ty→Fm→Prop
 | eq {g:List Ty} {x y:Tm}:TmG x→TmG y→HasTy TyG g x tNat→HasTy TyG g y tNat→Dc g (fmEq x y)
 | two {g:List Ty} {k:Int} {a b:Fm} (hk:k=2∨k=3):Dc g a→Dc g b→Dc g (fmTwo k a b)
 | bnd {g:List Ty} {all:Bool} {q:Tm} {a:Fm}:TmG q→HasTy TyG (g++[tNat]) q tNat→tmOcc q 0=0→Dc (g++[tNat]) a→Dc g (bndF all q a)
theorem Dc.G {u:Bool} {g:List Ty} {f:Fm} (h:Dc g f):FmG u f:=by
 induction h with
 | eq h1 h2 _ _=>exact .eq h1 h2
 | two hk _ _ h1 h2=>exact .two hk h1 h2
 | bnd hq _ _ _ h1=>exact bndF_G hq h1
theorem bnd_sz {all:Bool} {q:Tm} {a:Fm}:fmSz (bndF all q a)=tmSz q+fmSz a+24:=by
 rw [bndF_sz]
theorem Dc.ty {g:List Ty} {f:Fm} (h:Dc g f):FmTy TyG g f:=by
 induction h with
 | eq _ _ h1 h2=>exact .eq h1 h2
 | two hk _ _ h1 h2=>exact .two hk h1 h2
 | bnd _ hq _ _ h1=>exact bnd_ty' hq h1
theorem Dc.least {g:List Ty} {f:Fm} (h:Dc g f):(g.length:Int)+fmSz f≤100000→f.least 536870912=true:=by
 induction h with
 | eq _ _ h1 h2 =>
  intro hb
  rw [fmSz_eq] at hb
  exact fleast_eq.2 ⟨h1.least _ (by omega) (by omega),h2.least _ (by omega) (by omega)⟩
 | two hk _ _ h1 h2 =>
  intro hb
  rw [fmSz_two] at hb
  exact fleast_two (h1 (by omega)) (h2 (by omega))
 | @bnd g all q a _ hq _ _ h1 =>
  intro hb
  rw [bnd_sz] at hb
  have hl:q.least 536870912=true:=hq.least _ (by omega) (by simp;omega)
  have hless:(lessF (tmVar 0) q).least 536870912=true :=
   least_eqn (least_2 (by omega) (least_2 (by omega) (least_sub (by omega)) (least_1 (by omega) (least_v (by omega)))) hl) (least_0 (by omega))
  exact least_q (least_two hless (h1 (by simp;omega)))
theorem bnd_inn {s:Tm} {all:Bool} {q:Tm} {a:Fm} {d:Int} (hd:0≤d) (hd2:d≤100000) :
  fmInn s 0 (bndF all q a) d=bndF all (tmInn s 0 q (d+1)) (fmInn s 0 a (d+1)):=by
 have e0:addW (d+1) (tmBelow 3)=d+1:=addW_zero (by omega) (by omega)
 have hb:fmBelow (if all then 4 else 5)=1:=by cases all<;>rfl
 have hb2:fmBelow (if all then 3 else 2)=0:=by cases all<;>rfl
 unfold bndF lessF
 rw [fmInn_q,hb,addW_eq (by omega) (by omega) (by omega) (by omega),fmInn_two,hb2,addW_zero (by omega) (by omega),fmInn_eqn,inn_tm0 rfl,e0,inn_tm0 rfl]
 simp only [List.map_cons,List.map_nil]
 rw [inn_cl 19 _ (by rw [left_sz];omega) 1 (d+1) left_cl (by omega) (by omega) (by omega)]
theorem Dc.inn {s:Tm} (gs:TmG s) (ts:HasTy TyG [] s tNat) (zs:tmSz s≤4096) {g':List Ty} {f:Fm} (h:Dc g' f):∀ l:List Ty,g'=[tNat]++l→l.length+fmSz f≤10000→Dc l (fmInn s 0 f (l.length:Int)):=by
 have ls:s.least 536870912=true:=ts.least _ (by omega) (by simp;omega)
 induction h with
 | @eq g x y gx gy h1 h2 =>
  intro l e hb
  rw [fmSz_eq] at hb
  subst e
  rw [fmInn_eqn]
  have lx:x.least 536870912=true:=h1.least _ (by omega) (by simp;omega)
  have ly:y.least 536870912=true:=h2.least _ (by omega) (by simp;omega)
  exact .eq (TmG.inn gs ls _ gx (Nat.le_refl _) lx _ (by omega) (by omega)) (TmG.inn gs ls _ gy (Nat.le_refl _) ly _ (by omega) (by omega))
   (h1.inn [] l rfl ts (by omega) (by simp;omega)) (h2.inn [] l rfl ts (by omega) (by simp;omega))
 | @two g k a b hk _ _ ih1 ih2 =>
  intro l e hb
  rw [fmSz_two] at hb
  rw [fmInn_two,below_two hk,addW_zero (by omega) (by omega)]
  exact .two hk (ih1 l e (by omega)) (ih2 l e (by omega))
 | @bnd g all q a gq hq oq _ ih =>
  intro l e hb
  rw [bnd_sz] at hb
  subst e
  rw [bnd_inn (by omega) (by omega)]
  have lq:q.least 536870912=true:=hq.least _ (by omega) (by simp;omega)
  have e1:((l.length:Int)+1)=((l++[tNat]).length:Int):=by simp
  refine .bnd ?_ ?_ ?_ ?_
  ·exact TmG.inn gs ls _ gq (Nat.le_refl _) lq _ (by omega) (by omega)
  ·rw [e1];exact hq.inn [] (l++[tNat]) (by simp) ts (by simp;omega) (by simp;omega)
  ·rw [TmG.inn_occ gs (by omega) (least_mono (by omega) _ ls) _ gq (Nat.le_refl _) (least_mono (by omega) _ lq) _ 0 (by omega) (by omega) (by omega)];exact oq
  ·rw [e1];exact ih (l++[tNat]) (by simp) (by simp;omega)
def evN (m:Nat) (t:Tm):Nat × Nat × Bool:=match ev m (m+1) 0 t [] with|some (r,u,o)=>(r.num,u,o)|none=>(0,0,true)
theorem evN_at {m:Nat} {t:Tm} (ht:HasTy TyG [] t tNat):∃ r u o,ev m (m+1) 0 t []=some (r,u,o)∧evN m t=(r.num,u,o)∧u≤m:=by
 obtain ⟨r,u,o,h1,_,h3,_⟩:=ev_P (Q:=TyG) (most:=m) (m+1) 0 t [] [] tNat (by omega) (by omega) ht ⟨rfl,by simp⟩
 exact ⟨r,u,o,h1,by simp [evN,h1],h3⟩
theorem evN_le {m:Nat} {t:Tm} (ht:HasTy TyG [] t tNat) (wt:TmW t) (hm:m≤65536):(evN m t).2.1≤m∧((evN m t).2.2=false→(evN m t).1≤m):=by
 obtain ⟨r,u,o,h1,h2,h3⟩:=evN_at (m:=m) ht
 rw [h2]
 refine ⟨h3,fun ho=>?_⟩
 simp only at ho
 subst ho
 obtain ⟨_,_,h4⟩:=ev_W (by omega) (m+1) 0 0 t [] r u false h1 (by omega) (by omega) wt (by simp) (by simp)
 have:=(h4 rfl).2.n1
 omega
abbrev Ans:=Bool × Nat × Int
def putR (f:Fm) (s:Tm):Fm × Int:=if fmSz f+fmOcc f 0 * (tmSz s - 1)≤4096 then (fmInn s 0 f 0,0) else (zeroF,4)
def dN (lim w:Nat) (t:Tm):Nat × Nat × Int:=if (evN (lim - w) t).2.2 then (0,w,5) else ((evN (lim - w) t).1,w+(evN (lim - w) t).2.1,0)
def dW (D:Nat→Fm→Ans) (f:Fm) (k w:Nat):Ans :=
 if 4096≤k then (false,w,4) else if (putR f (numT k)).2 != 0 then (false,w,(putR f (numT k)).2) else D w (putR f (numT k)).1
def dB (D:Nat→Fm→Ans) (lim:Nat) (all:Bool) (f:Fm):Nat→Nat→Nat→Ans
 | 0,_,w=>(all,w,0)
 | n+1,k,w=>if lim≤w then (false,w,5) else
  if (dW D f k (w+1)).2.2 != 0||(dW D f k (w+1)).1 != all then dW D f k (w+1) else dB D lim all f n (k+1) (dW D f k (w+1)).2.1
def dE (lim w:Nat) (x y:Tm):Ans :=
 if (dN lim w x).2.2 != 0 then (false,(dN lim w x).2.1,(dN lim w x).2.2)
 else if (dN lim (dN lim w x).2.1 y).2.2 != 0 then (false,(dN lim (dN lim w x).2.1 y).2.1,(dN lim (dN lim w x).2.1 y).2.2)
 else ((dN lim w x).1==(dN lim (dN lim w x).2.1 y).1,(dN lim (dN lim w x).2.1 y).2.1,0)
def dT (lim:Nat):Nat→Nat→Fm→Ans
 | 0,w,_=>(false,w,0)
 | n+1,w,f =>
  if f.kind==1 then dE lim w (f.terms.getD 0 zeroT) (f.terms.getD 1 zeroT)
  else if f.kind==2 then (if (dT lim n w (fa f 0)).1 then dT lim n (dT lim n w (fa f 0)).2.1 (fa f 1) else dT lim n w (fa f 0))
  else if f.kind==3 then
   (if (dT lim n w (fa f 0)).2.2 != 0||!(dT lim n w (fa f 0)).1 then ((dT lim n w (fa f 0)).2.2==0,(dT lim n w (fa f 0)).2.1,(dT lim n w (fa f 0)).2.2) else dT lim n (dT lim n w (fa f 0)).2.1 (fa f 1))
  else if (dN lim w (tPut (bndTerm f) 0 zeroT)).2.2 != 0 then (false,(dN lim w (tPut (bndTerm f) 0 zeroT)).2.1,(dN lim w (tPut (bndTerm f) 0 zeroT)).2.2)
  else dB (fun w f=>dT lim n w f) lim (f.kind==4) (bndBody f) (dN lim w (tPut (bndTerm f) 0 zeroT)).1 0 (dN lim w (tPut (bndTerm f) 0 zeroT)).2.1
theorem dT_eq {lim n w:Nat} {x y:Tm}:dT lim (n+1) w (fmEq x y)=dE lim w x y:=rfl
theorem dT_and {lim n w:Nat} {a b:Fm}:dT lim (n+1) w (fmTwo 2 a b)=if (dT lim n w a).1 then dT lim n (dT lim n w a).2.1 b else dT lim n w a:=rfl
theorem dT_imp {lim n w:Nat} {a b:Fm}:dT lim (n+1) w (fmTwo 3 a b) =
  if (dT lim n w a).2.2 != 0||!(dT lim n w a).1 then ((dT lim n w a).2.2==0,(dT lim n w a).2.1,(dT lim n w a).2.2) else dT lim n (dT lim n w a).2.1 b:=rfl
theorem dT_bnd {lim n w:Nat} {all:Bool} {q:Tm} {a:Fm}:dT lim (n+1) w (bndF all q a) =
  if (dN lim w (tPut q 0 zeroT)).2.2 != 0 then (false,(dN lim w (tPut q 0 zeroT)).2.1,(dN lim w (tPut q 0 zeroT)).2.2)
  else dB (fun w f=>dT lim n w f) lim all a (dN lim w (tPut q 0 zeroT)).1 0 (dN lim w (tPut q 0 zeroT)).2.1:=by
 cases all<;>rfl
theorem fdp_bnd {all:Bool} {q:Tm} {a:Fm}:fdp (bndF all q a)=fdp a+2:=by
 have:=fdp_pos a
 unfold bndF
 rw [fdp_q,fdp_two,lessF,fdp_eqn];omega
theorem fdp_inn {s:Tm}:∀ (f:Fm) (d:Int),fdp (fmInn s 0 f d)=fdp f:=by
 intro f
 induction f using Fm.ind with|h f ih=>?_
 intro d
 obtain ⟨k,t,l,a⟩:=f
 rw [fmInn,fmInnL_map,fdp,fdp]
 congr 1
 have:∀ (l:List Fm) (d:Int),(∀ x∈l,∀ d,fdp (fmInn s 0 x d)=fdp x)→fdpL (l.map fun x=>fmInn s 0 x d)=fdpL l:=by
  intro l
  induction l with
  | nil=>intro d _;rfl
  | cons x l ih2=>intro d h;rw [List.map_cons,fdpL,fdpL,h x (by simp),ih2 d (fun y hy=>h y (by simp [hy]))]
 exact this a _ (fun x hx d=>ih x hx d)
theorem bnd_term {q:Tm} (gq:TmG q) (hq:HasTy TyG [tNat] q tNat) (oq:tmOcc q 0=0) (zq:tmSz q≤4096):TmG (tPut q 0 zeroT)∧HasTy TyG [] (tPut q 0 zeroT) tNat∧tmSz (tPut q 0 zeroT)=tmSz q:=by
 have g0:TmG (tm0 4 []):=.t0 ar4 rfl
 have lq:q.least 536870912=true:=hq.least _ (by omega) (by simp;omega)
 have key:∀ (n:Nat) {s s' t:Tm},TmG t→tmSz t≤n→∀ d:Int,0≤d→d+n≤100000→tmOcc t d=0→t.least 1000000000=true→t.rb (putG 0 s) d=t.rb (putG 0 s') d:=by
  intro n
  induction n with
  | zero=>intro s s' t _ hn;have:=tmSz_pos t;omega
  | succ n ih =>
   intro s s' t gt hn d h0 hd ho hl
   revert hn ho hl
   refine gt.cases' (p:=fun t=>tmSz t≤n+1→tmOcc t d=0→t.least 1000000000=true→t.rb (putG 0 s) d=t.rb (putG 0 s') d) ?_ ?_
   ·intro i hi _ ho hl
    have hi2:=var_j hl
    rw [tmVar,tmOcc] at ho
    simp only [beq_self_eq_true,if_true] at ho
    have hne:i≠d:=by intro e;subst e;simp at ho
    rw [tmVar,Tm.rb,Tm.rb]
    simp only [beq_self_eq_true,if_true,putG]
    rw [subW_eq (by omega) (by omega) (by omega) (by omega)]
    have:(i - d==0)=false:=by simp;omega
    rw [this];rfl
   ·intro k ty l hk _ hg _ hn ho hl
    rw [tmSz] at hn
    rw [Tm.least,Bool.and_eq_true] at hl
    rw [tmOcc,hk] at ho
    simp only [Bool.false_eq_true,if_false] at ho
    have hr:=tmBelow_range k
    rw [Tm.rb,Tm.rbL_map,Tm.rb,Tm.rbL_map,hk,below_eq h0 (by omega)]
    simp only [Bool.false_eq_true,if_false]
    congr 1
    refine List.map_congr_left fun y hy=>?_
    have hoy:tmOcc y (d+tmBelow k)=0:=by
     have:∀ {l:List Tm},y∈l→tmOccL l (d+tmBelow k)=0→tmOcc y (d+tmBelow k)=0:=by
      intro l
      induction l with
      | nil=>intro h;simp at h
      | cons z l ihl =>
       intro h h2
       rw [tmOccL] at h2
       rcases List.mem_cons.1 h with rfl|h
       ·omega
       ·exact ihl h (by omega)
     exact this hy ho
    exact ih (hg y hy) (by have:=tmSzL_mem hy;omega) _ (by omega) (by omega) hoy (Tm.leastL_iff.1 hl.2 y hy)
 have e:tPut q 0 zeroT=tmInn (tm0 4 []) 0 q 0:=by
  rw [← tPut_inn g0 (by simp [tm0,tmSz,tmSzL]) (least_0 (by omega)) gq (by omega) lq (by omega) (by omega)]
  exact key _ gq (Nat.le_refl _) 0 (by omega) (by omega) oq (least_mono (by omega) _ lq)
 rw [e]
 refine ⟨TmG.inn g0 (least_0 (by omega)) _ gq (Nat.le_refl _) lq 0 (by omega) (by omega),?_,?_⟩
 ·have:=hq.inn [] [] rfl (HasTy.num 0) (by simp;omega) (by simp [numT,tm0,tmSz,tmSzL])
  exact this
 ·rw [TmG.inn_sz _ gq (Nat.le_refl _) 0 (by omega) (by omega),oq];omega
theorem Dc.put {a:Fm} (h:Dc [tNat] a) (za:fmSz a≤4096) {k:Nat} (hk:k<4096) (hp:(putR a (numT k)).2=0):Dc [] (putR a (numT k)).1∧fmSz (putR a (numT k)).1≤4096∧fdp (putR a (numT k)).1=fdp a:=by
 have zk:tmSz (numT k)=k+1:=tmSz_num k
 unfold putR at hp ⊢
 split at hp
 ·rename_i hle
  rw [if_pos hle]
  refine ⟨h.inn (numT_G k) (HasTy.num k) (by omega) [] rfl (by simp;omega),?_,fdp_inn _ _⟩
  rw [(h.G (u:=true)).inn_sz 0 (by omega) (by omega)]
  exact hle
 ·simp at hp
theorem Dc.fld {g:List Ty} {f:Fm} (h:Dc g f):g.length+fmSz f≤50000→f.fl.d=true:=by
 induction h with
 | eq _ _ _ _=>intro _;rw [Fm.fl_eqn]
 | two hk _ _ h1 h2 =>
  intro hb
  rw [fmSz_two] at hb
  rw [Fm.fl_two hk,h1 (by omega),h2 (by omega)];rfl
 | @bnd g all q a gq tq oq _ h1 =>
  intro hb
  rw [bnd_sz] at hb
  rw [bndF_fl (by rw [gq.count_occ (by omega) (tq.least _ (by omega) (by simp;omega)) (by omega) (by omega),oq];rfl)]
  exact h1 (by simp;omega)
def numsT (m:Nat):List Tm:=(List.range (m+1)).map numT
def consT (a l:Tm):Tm:=tm0 8 [a,l]
def nilT:Tm:=tm0 7 []
def listsT (m:Nat):List Tm :=
 nilT::((numsT m).map fun a=>consT a nilT)++(numsT m).flatMap fun a=>(numsT m).map fun b=>consT a (consT b nilT)
def pairUp (r:List Tm):List Tm→List Tm→List Tm
 | out,[]=>out
 | out,a::l =>
  let o:=out++r.map fun b=>tm0 10 [a,b]
  if o.length≥64 then o else pairUp r o l
def candN:Nat→Ty→Nat→List Tm
 | 0,_,_=>[]
 | n+1,t,m =>
  let o:List Tm :=
   if t.kind==1 then numsT m
   else if t.kind==2 then listsT m
   else match t.kind==3,t.kind==4,t.args with
    | true,_,[a,b]=>pairUp (candN n b m) [] (candN n a m)
    | _,true,[a,b]=>(if Ty.same a b then [tmT 2 a [tmVar 0]] else [])++(candN n b m).map fun c=>tmT 2 a [c]
    | _,_,_=>[tm0 13 []]
  o.take 64
theorem candN_nat {n m:Nat}:candN (n+1) tNat m=(numsT m).take 64:=by simp [candN,tNat,Ty.kind]
theorem candN_list {n m:Nat}:candN (n+1) tList m=(listsT m).take 64:=by simp [candN,tList,Ty.kind]
theorem candN_unit {n m:Nat}:candN (n+1) tUnit m=[tm0 13 []]:=by simp [candN,tUnit,Ty.kind,Ty.args]
theorem candN_pair {n m:Nat} {a b:Ty}:candN (n+1) (tPair a b) m=(pairUp (candN n b m) [] (candN n a m)).take 64:=by simp [candN,tPair,Ty.kind,Ty.args]
theorem candN_fun {n m:Nat} {a b:Ty}:candN (n+1) (tFun a b) m=((if Ty.same a b then [tmT 2 a [tmVar 0]] else [])++(candN n b m).map fun c=>tmT 2 a [c]).take 64:=by simp [candN,tFun,Ty.kind,Ty.args]
theorem candN_len:∀ {n m:Nat} {t:Ty},(candN n t m).length≤64
 | 0,_,_=>by simp [candN]
 | n+1,_,_=>by rw [candN];simp only [List.length_take];omega
theorem numsT_len {m:Nat}:(numsT m).length=m+1:=by simp [numsT]
theorem numsT_get {m i:Nat} (h:i≤m):(numsT m)[i]? = some (numT i):=by simp [numsT,List.getElem?_range (show i<m+1 by omega)]
structure CandOk (g:List Ty) (t:Ty) (B:Nat) (x:Tm):Prop where
 ty:HasTy TyG g x t
 gd:TmG x
 sz:tmSz x≤B
 w:TmW x
theorem CandOk.up {g:List Ty} {t:Ty} {B C:Nat} {x:Tm} (h:CandOk g t B x) (hb:B≤C):CandOk g t C x:=⟨h.ty,h.gd,Nat.le_trans h.sz hb,h.w⟩
theorem CandOk.num {g:List Ty} {m:Nat}:∀ i,i≤m→CandOk g tNat (m+1) (numT i):=fun i hi=>⟨.num i,numT_G i,by rw [tmSz_num];omega,numT_W i⟩
theorem numsT_ok {g:List Ty} {m:Nat}:∀ x∈numsT m,CandOk g tNat (m+1) x:=by
 intro x hx
 simp only [numsT,List.mem_map,List.mem_range] at hx
 obtain ⟨i,hi,rfl⟩:=hx
 exact .num i (by omega)
theorem nilT_ok {g:List Ty}:CandOk g tList 1 nilT:=⟨.n0 (ty:=.mk 0 []) .nil,.t0 rfl rfl,by unfold nilT;rw [tmSz_0];omega,tm0_W0⟩
theorem consT_ok {g:List Ty} {A B:Nat} {a l:Tm} (ha:CandOk g tNat A a) (hl:CandOk g tList B l):CandOk g tList (A+B+1) (consT a l) :=
 ⟨.n2 (ty:=.mk 0 []) .cons ha.ty hl.ty,.t2 rfl rfl ha.gd hl.gd,by unfold consT;rw [tmSz_2];have:=ha.sz;have:=hl.sz;omega,tm0_W2 ha.w hl.w⟩
theorem listsT_ok {g:List Ty} {m:Nat}:∀ x∈listsT m,CandOk g tList (2 * m+6) x:=by
 intro x hx
 simp only [listsT,List.cons_append,List.mem_cons,List.mem_append,List.mem_map,List.mem_flatMap] at hx
 rcases hx with rfl|⟨a,ha,rfl⟩|⟨a,ha,b,hb,rfl⟩
 ·exact nilT_ok.up (by omega)
 ·exact (consT_ok (numsT_ok _ ha) nilT_ok).up (by omega)
 ·exact (consT_ok (numsT_ok _ ha) (consT_ok (numsT_ok _ hb) nilT_ok)).up (by omega)
theorem pairUp_mem {r:List Tm}:∀ {l out:List Tm} {x:Tm},x∈pairUp r out l→x∈out∨∃ a∈l,∃ b∈r,x=tm0 10 [a,b]
 | [],_,_,h=>.inl h
 | c::l,out,x,h=>by
  have one:x∈out++(r.map fun b=>tm0 10 [c,b])→x∈out∨∃ a∈c::l,∃ b∈r,x=tm0 10 [a,b]:=by
   intro h
   rcases List.mem_append.1 h with h|h
   ·exact .inl h
   ·obtain ⟨b,hb,rfl⟩:=List.mem_map.1 h
    exact .inr ⟨c,by simp,b,hb,rfl⟩
  rw [pairUp] at h
  split at h
  ·exact one h
  ·rcases pairUp_mem h with h|⟨a,ha,b,hb,rfl⟩
   ·exact one h
   ·exact .inr ⟨a,by simp [ha],b,hb,rfl⟩
theorem pairUp_pos {r:List Tm} (hr:1≤r.length):∀ {l out:List Tm},1≤l.length∨1≤out.length→1≤(pairUp r out l).length
 | [],out,h=>by rw [pairUp];simpa using h
 | c::l,out,h=>by
  rw [pairUp]
  split
  ·simp;omega
  ·exact pairUp_pos hr (.inr (by simp;omega))
def EvM (m:Nat) (E F:Evl):Prop:=∀ u t e r u',u≤m→E u t e=some (r,u',false)→u≤u'∧u'≤m∧F u t e=some (r,u',false)
section
variable {m:Nat} {E F:Evl} (hM:EvM m E F)
include hM
end
def AnsC (a:Ans):Prop:=(a.1=true→a.2.2=0)∧(a.2.2=0∨a.2.2=4∨a.2.2=5)
theorem putR_code (f:Fm) (s:Tm):(putR f s).2=0∨(putR f s).2=4:=by unfold putR;split<;>simp
theorem dN_code (lim w:Nat) (t:Tm):(dN lim w t).2.2=0∨(dN lim w t).2.2=5:=by unfold dN;split<;>simp
theorem dE_code (lim w:Nat) (x y:Tm):AnsC (dE lim w x y):=by
 unfold dE AnsC
 split
 ·exact ⟨by simp,by rcases dN_code lim w x with h|h<;>simp [h]⟩
 ·split
  ·exact ⟨by simp,by rcases dN_code lim (dN lim w x).2.1 y with h|h<;>simp [h]⟩
  ·exact ⟨fun _=>rfl,.inl rfl⟩
theorem dB_code {lim:Nat} {D:Nat→Fm→Ans} {all:Bool} {a:Fm} (hD:∀ k w,k<4096→(putR a (numT k)).2=0→AnsC (D w (putR a (numT k)).1)):∀ n k w,AnsC (dB D lim all a n k w)
 | 0,k,w=>⟨fun _=>rfl,.inl rfl⟩
 | n+1,k,w=>by
  rw [dB]
  split
  ·exact ⟨by simp,by simp⟩
  ·split
   ·unfold dW
    by_cases hk:4096≤k
    ·rw [if_pos hk];exact ⟨by simp,by simp⟩
    rw [if_neg hk]
    rcases putR_code a (numT k) with h|h
    ·rw [h];simp only [bne_self_eq_false,Bool.false_eq_true,if_false];exact hD k _ (by omega) h
    ·rw [h];exact ⟨by simp,by simp⟩
   ·exact dB_code hD n (k+1) _
theorem dT_code {lim:Nat}:∀ (n:Nat) (f:Fm) (w:Nat),fdp f≤n→Dc [] f→fmSz f≤4096→AnsC (dT lim n w f)
 | 0,f,w,hn,_,_=>by have:=fdp_pos f;omega
 | n+1,f,w,hn,hf,zf=>by
  generalize hg:([]:List Ty)=g at hf
  cases hf with
  | eq _ _ _ _=>rw [dT_eq];exact dE_code _ _ _ _
  | @two _ k x y hk da db =>
   subst hg
   rw [fmSz_two] at zf
   rw [fdp_two] at hn
   have ihx:=fun w=>dT_code (lim:=lim) n x w (by omega) da (by omega)
   have ihy:=fun w=>dT_code (lim:=lim) n y w (by omega) db (by omega)
   rcases hk with rfl|rfl
   ·rw [dT_and]
    split
    ·exact ihy _
    ·exact ihx w
   ·rw [dT_imp]
    split
    ·exact ⟨fun h=>by simpa using h,(ihx w).2⟩
    ·exact ihy _
  | @bnd _ all q a gq tq oq da =>
   subst hg
   rw [bnd_sz] at zf
   rw [fdp_bnd] at hn
   rw [dT_bnd]
   split
   ·exact ⟨by simp,by rcases dN_code lim w (tPut q 0 zeroT) with h|h<;>simp [h]⟩
   ·refine dB_code (fun k w hk hp=>?_) _ _ _
    obtain ⟨p1,p2,p3⟩:=da.put (by omega) hk hp
    exact dT_code n _ w (by omega) p1 p2
section
variable {f g:Fm} (hf:Dc [] f) (hg:Dc [] g) (zf:fmSz f≤1000) (zg:fmSz g≤1000)
include hf hg zf zg
end
section
variable {all:Bool} {f:Fm} {n:Nat} (hf:Dc [tNat] f) (zf:fmSz f≤1000) (hn:n≤5)
include hf zf hn
end
inductive PVl where
 | mk (kind num:Int) (list:List Int) (args:List PVl)
def PVl.kind:PVl→Int | .mk k _ _ _=>k
def PVl.num:PVl→Int | .mk _ n _ _=>n
def PVl.list:PVl→List Int | .mk _ _ l _=>l
def PVl.args:PVl→List PVl | .mk _ _ _ a=>a
theorem PVl.ind {p:PVl→Prop} (h:∀ t,(∀ x∈t.args,p x)→p t):∀ t,p t:=by
 intro t
 refine PVl.rec (motive_1:=p) (motive_2:=fun l=>∀ x∈l,p x) (fun k n l a i1=>h _ i1) (by simp) (fun a l ha hl x hx=>?_) t
 rcases List.mem_cons.1 hx with rfl|hx
 ·exact ha
 ·exact hl x hx
mutual
def PVl.cells:PVl→List V
 | .mk k n l a=>[.int .i64 k,.int .i64 n,.sl .any (ints l),.sl .any (PVl.rows a)]
def PVl.rows:List PVl→List (List V)
 | []=>[]
 | r::l=>r.cells::PVl.rows l
end
theorem PVl.rows_eq:∀ l,PVl.rows l=l.map PVl.cells
 | []=>by simp [PVl.rows]
 | t::l=>by simp [PVl.rows,PVl.rows_eq l]
theorem PVl.cells_eq (t:PVl):t.cells=[.int .i64 t.kind,.int .i64 t.num,.sl .any (ints t.list),.sl .any (t.args.map PVl.cells)]:=by
 cases t;simp [PVl.cells,PVl.rows_eq,PVl.kind,PVl.num,PVl.list,PVl.args]
section
variable (t:PVl)
theorem PVl.cells_len:t.cells.length=4:=by rw [PVl.cells_eq];rfl
theorem PVl.cells_0:t.cells[0]? = some (.int .i64 t.kind):=by rw [PVl.cells_eq];rfl
theorem PVl.cells_1:t.cells[1]? = some (.int .i64 t.num):=by rw [PVl.cells_eq];rfl
theorem PVl.cells_2:t.cells[2]? = some (.sl .any (ints t.list)):=by rw [PVl.cells_eq];rfl
theorem PVl.cells_3:t.cells[3]? = some (.sl .any (t.args.map PVl.cells)):=by rw [PVl.cells_eq];rfl
theorem PVl.cells_take:List.take 4 t.cells=t.cells:=List.take_of_length_le (by rw [PVl.cells_len];exact Nat.le_refl _)
theorem PVl.cells_one:t.cells.all oneV=true:=by rw [PVl.cells_eq];rfl
end
theorem splice_PVl {cs:List V} {t:PVl} (h:cs.length=4):splice cs 0 t.cells=t.cells:=splice_full (by rw [h,PVl.cells_len])
theorem weakL_PVl:∀ t:PVl,weakL t.cells=t.cells:=by
 intro t
 induction t using PVl.ind with
 | h t i1 =>
  rw [PVl.cells_eq]
  have e1:weakLL (t.args.map PVl.cells)=t.args.map PVl.cells:=by
   rw [weakLL_eq,List.map_map];exact List.map_congr_left fun x hx=>i1 x hx
  simp only [weakL,weak,weakLL_ints,e1]
theorem weakLL_PVl (l:List PVl):weakLL (l.map PVl.cells)=l.map PVl.cells:=by
 rw [weakLL_eq,List.map_map];exact List.map_congr_left fun x _=>weakL_PVl x
section
variable {S:Id→Prop}
theorem InL_PVl:∀ t:PVl,InL S t.cells:=by
 intro t
 induction t using PVl.ind with
 | h t i1 =>
  rw [PVl.cells_eq]
  have e1:InLL S (t.args.map PVl.cells):=by
   rw [InLL_mem];intro l hl;obtain ⟨x,hx,rfl⟩:=List.mem_map.1 hl;exact i1 x hx
  simp only [InL,InV,capIn,true_and,and_true,InLL_ints,e1]
theorem InLL_PVl (l:List PVl):InLL S (l.map PVl.cells):=by
 rw [InLL_mem];intro x hx;obtain ⟨y,_,rfl⟩:=List.mem_map.1 hx;exact InL_PVl y
end
theorem all_len_PVl (l:List PVl):(l.map PVl.cells).all (fun e=>e.length==4)=true:=by simp [PVl.cells_len]
theorem all_one_PVl (l:List PVl):(l.map PVl.cells).flatten.all oneV=true:=by
 rw [List.all_eq_true];intro v hv
 obtain ⟨c,hc,hv⟩:=List.mem_flatten.1 hv
 obtain ⟨x,_,rfl⟩:=List.mem_map.1 hc
 exact List.all_eq_true.1 (PVl.cells_one x) v hv
attribute [go_sem] InL_PVl InLL_PVl
attribute [go_sem] PVl.cells_len PVl.cells_0 PVl.cells_1 PVl.cells_2 PVl.cells_3 PVl.cells_take PVl.cells_one splice_PVl weakL_PVl weakLL_PVl all_len_PVl all_one_PVl
theorem candN_num {n m:Nat} (hm:m≤16):candN (n+1) tNat m=numsT m:=by rw [candN_nat,List.take_of_length_le (by rw [numsT_len];omega)]
section
variable {P:Program} {env:Nat→Option (List V)} {g:G} {w:World} {h:H} {ρc:Operand→Value} (r:Rel env g w h)
include r
end
section
variable {F:Fence} (hF:∀ f,F.fn f) (hdp:F.depth=none) {m:Nat} {ds:List Deferred}
variable {P:Program} (hcl:∀ k args w R,Calls P k args w R→CallsIn F (m - 1) P k args w R)
variable {env:Nat→Option (List V)} {ops:Array Oper} {gen reg n:Nat} (hn:dstOk n ops=true) (hok:drawOk ops=true)
include hF hdp hcl hn hok
end
section
variable {F:Fence} (hF:∀ f,F.fn f) {m:Nat} {P:Program} {ops:Array Oper}
include hF
end
section
variable {F:Fence} (hF:∀ f,F.fn f) {m:Nat} {ds:List Deferred} {P:Program} {env:Nat→Option (List V)} {ops:Array Oper} {n:Nat}
include hF
end
theorem RV.weakEls {g:G} {w:World} {cv:Value} {c:Cap} {es:List (List V)} (h:RV g w cv (.sl c es)):RV g w cv (.sl c (weakLL es)):=by
 cases h with
 | sl a cap _ _ k cell hk hcap hrun hr hc =>
  have hl:(weakLL es).length=es.length:=by rw [weakLL_eq];simp
  rw [← hl]
  refine .sl a cap c _ k cell ?_ (by rw [hl];exact hcap) ?_ ?_ (by rw [hl];exact hc)
  ·intro e he
   rw [weakLL_eq] at he
   obtain ⟨e0,h0,rfl⟩:=List.mem_map.1 he
   rw [weakL_length];exact hk e0 h0
  ·intro hne
   rw [hl]
   exact hrun (by intro e;subst e;exact hne rfl)
  ·intro i v hv
   rw [flat_weakLL] at hv
   obtain ⟨u,hu,rfl⟩:=weakL_get hv
   exact (hr i u hu).weak
theorem AR_weakEls {c:Ctx} {gen:Nat} {k:List It} {e:Exit} {σ:St} (t:Nat) {cc:Cap} {es:List (List V)} (ht:σ.tm t=.sl cc es)
  (h:AR c gen k e ⟨upd σ.tm (some t) (.sl cc (weakLL es)),σ.h⟩):AR c gen k e σ :=
 fun ok hm g a w hx r=>h ok hm g a w hx ⟨r.rel,fun t'=>by
  by_cases e:t'=t
  ·subst e
   simp only [upd_at,if_true]
   have:=r.tm t'
   rw [ht] at this
   exact this.weakEls
  ·simp only [upd_at,if_neg e];exact r.tm t',r.size,r.defers⟩
theorem OwnS.weakEls {h0 h:H} {c:Cap} {k:Nat} {es:List (List V)} (a:OwnS h0 h (.sl c es) k es):OwnS h0 h (.sl c (weakLL es)) k (weakLL es):=by
 have hl:(weakLL es).length=es.length:=by rw [weakLL_eq];simp
 rcases a with a|⟨i,h1,h2,h3⟩
 ·cases a;exact .inl rfl
 ·cases h1;exact .inr ⟨i,rfl,by rw [hl];exact h2,h3⟩
theorem weakLL_appU (a b:List (List V)):weakLL (a++b)=weakLL a++weakLL b:=by rw [weakLL_eq,weakLL_eq,weakLL_eq,List.map_append]
end GoAbs
