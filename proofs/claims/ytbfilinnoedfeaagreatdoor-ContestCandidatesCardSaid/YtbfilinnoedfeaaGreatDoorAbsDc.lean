/-
 The abstract layer: plain laws, further ones.
-/
import Derived.Test.YtbfilinnoedfeaaGreatDoorAbsDb
import Derived.Test.YtbfilinnoedfeaaGreatDoorAbsD
import Derived.Test.YtbfilinnoedfeaaGreatDoorAbsB
import Derived.LoopNIn
set_option linter.unusedSimpArgs false
set_option linter.unusedVariables false
set_option linter.unusedSectionVars false
namespace GoAbs
open Go
end GoAbs
namespace GoAbs
open Go
/- Content types. -/
def ctJoin (k:Int) (x y:Ty × Int):Ty × Int :=
 if x.2 != 0 then (tZero,x.2) else if y.2 != 0 then (tZero,y.2) else if tyErr (.mk k [x.1,y.1]) != 0 then (tZero,tyErr (.mk k [x.1,y.1])) else (.mk k [x.1,y.1],0)
def ctCase (k:Int) (t:Ty) (ps:List (Bool × (Ty × Int))):Ty × Int :=
 if k==2 then (if (ps.getD 0 (false,(tUnit,0))).1 then (if (ps.getD 1 (false,(tUnit,0))).1 then ctJoin 3 (ps.getD 0 (false,(tUnit,0))).2 (ps.getD 1 (false,(tUnit,0))).2 else (ps.getD 0 (false,(tUnit,0))).2) else (ps.getD 1 (false,(tUnit,0))).2)
 else if k==3 then (if (ps.getD 1 (false,(tUnit,0))).1 then (if (ps.getD 0 (false,(tUnit,0))).1 then ctJoin 4 (ps.getD 0 (false,(tUnit,0))).2 (ps.getD 1 (false,(tUnit,0))).2 else (ps.getD 1 (false,(tUnit,0))).2) else (tUnit,0))
 else if k==4 then (if (ps.getD 0 (false,(tUnit,0))).1 then ctJoin 4 (t,0) (ps.getD 0 (false,(tUnit,0))).2 else (tUnit,0))
 else if k==5 then (if (ps.getD 0 (false,(tUnit,0))).1 then ctJoin 3 (t,0) (ps.getD 0 (false,(tUnit,0))).2 else (t,0))
 else if k==1 then (tUnit,0) else (ps.getD 0 (false,(tUnit,0))).2
mutual
def Fm.ct:Fm→Ty × Int
 | .mk k t _ a=>ctCase k t (Fm.ctL a)
def Fm.ctL:List Fm→List (Bool × (Ty × Int))
 | []=>[]
 | f::l=>(f.fl.c,f.ct)::Fm.ctL l
end
/- realize. -/
end GoAbs
namespace GoAbs
open Go
theorem FmG.qk {u:Bool} {k:Int} (hk:k=4∨k=5∨(u=true∧(k=6∨k=7))):k=4∨k=5∨k=6∨k=7:=by
 rcases hk with h|h|⟨_,h|h⟩<;>simp [h]
theorem below_q {k:Int} (hk:k=4∨k=5∨k=6∨k=7):fmBelow k=1:=by rcases hk with rfl|rfl|rfl|rfl<;>rfl
theorem fdp_q {k:Int} {t:Ty} {a:Fm}:fdp (fmQ k t a)=fdp a+1:=by simp [fmQ,fdp,fdpL]
/- Existential quantifiers are counted. -/
end GoAbs
namespace GoAbs
open Go
theorem ctJoin_G {k:Int} (hk:k=3∨k=4) {x y:Ty × Int} (hx:(x.2=0∧TyG x.1)∨x.2=4) (hy:(y.2=0∧TyG y.1)∨y.2=4) :
  ((ctJoin k x y).2=0∧TyG (ctJoin k x y).1∧x.2=0∧y.2=0∧(ctJoin k x y).1=.mk k [x.1,y.1])∨(ctJoin k x y).2=4:=by
 unfold ctJoin
 rcases hx with ⟨ex,gx⟩|ex
 case inr=>rw [ex];right;rfl
 rcases hy with ⟨ey,gy⟩|ey
 case inr=>rw [ex,ey];right;rfl
 have hF:TyF (.mk k [x.1,y.1]):=by
  rcases hk with rfl|rfl
  ·exact .pair gx.1 gy.1
  ·exact .func gx.1 gy.1
 have hs:tySz (.mk k [x.1,y.1])=tySz x.1+tySz y.1+1:=by
  rcases hk with rfl|rfl
  ·exact tySz_pair
  ·exact tySz_fun
 have z1:=gx.2
 have z2:=gy.2
 have he:=hF.err (by omega)
 rw [ex,ey]
 by_cases h64:tySz (.mk k [x.1,y.1])≤64
 ·rw [if_pos h64] at he
  rw [he]
  exact .inl ⟨rfl,⟨hF,h64⟩,rfl,rfl,rfl⟩
 ·rw [if_neg h64] at he
  rw [he]
  right;rfl
/-- What is kept of a term on the way. -/
structure TmR (L:Int) (t:Tm):Prop where
 gd:TmG t
 sz:tmSz t≤20000
 l:t.least L=true
theorem TmR.cut {L:Int} {t:Tm} (h:TmR L t) (hz:t.szW≤4096):tmSz t≤4096:=by
 have:=t.szW_nodes _ (h.gd.nodes_val (by have:=h.sz;omega));omega
theorem TmR.mono {L L':Int} (hL:L≤L') {t:Tm} (h:TmR L t):TmR L' t:=⟨h.gd,h.sz,least_mono hL _ h.l⟩
end GoAbs
namespace GoAbs
open Go
/-- Formulas with the right kinds and types. -/
inductive FmC:Fm→Prop
 | eq {t:Ty} {l:List Tm}:FmC (.mk 1 t l [])
 | two {k:Int} {t:Ty} {l:List Tm} {a b:Fm} (hk:k=2∨k=3):FmC a→FmC b→FmC (.mk k t l [a,b])
 | q {k:Int} {s:Ty} {l:List Tm} {a:Fm} (hk:k=4∨k=5∨k=6∨k=7) (hs:TyG s):FmC a→FmC (.mk k s l [a])
theorem FmC.arg {f x:Fm} (h:FmC f) (hx:x∈f.args):FmC x:=by
 cases h with
 | eq=>simp [Fm.args] at hx
 | two _ ha hb=>simp [Fm.args] at hx;rcases hx with rfl|rfl<;>assumption
 | q _ _ ha=>simp [Fm.args] at hx;subst hx;exact ha
theorem ctk_1 {t:Ty} {l:List Tm}:(Fm.mk 1 t l []).ct=(tUnit,0)∧(Fm.mk 1 t l []).fl.c=false:=⟨rfl,by rw [Fm.fl_1 rfl]⟩
theorem ctk_2 {t:Ty} {l:List Tm} {a b:Fm}:(Fm.mk 2 t l [a,b]).ct=(if a.fl.c then (if b.fl.c then ctJoin 3 a.ct b.ct else a.ct) else b.ct)∧(Fm.mk 2 t l [a,b]).fl.c=(b.fl.c||a.fl.c) :=
 ⟨by rw [Fm.ct,Fm.ctL,Fm.ctL,Fm.ctL];rfl,by rw [Fm.fl_2 (f:=.mk 2 t l [a,b]) (.inl rfl) rfl];rfl⟩
theorem ctk_3 {t:Ty} {l:List Tm} {a b:Fm}:(Fm.mk 3 t l [a,b]).ct=(if b.fl.c then (if a.fl.c then ctJoin 4 a.ct b.ct else b.ct) else (tUnit,0))∧(Fm.mk 3 t l [a,b]).fl.c=b.fl.c :=
 ⟨by rw [Fm.ct,Fm.ctL,Fm.ctL,Fm.ctL];rfl,by rw [Fm.fl_2 (f:=.mk 3 t l [a,b]) (.inr rfl) rfl];show (b.fl.c||false)=_;rw [Bool.or_false]⟩
theorem ctk_4 {s:Ty} {l:List Tm} {a:Fm}:(Fm.mk 4 s l [a]).ct=(if a.fl.c then ctJoin 4 (s,0) a.ct else (tUnit,0))∧(Fm.mk 4 s l [a]).fl.c=a.fl.c :=
 ⟨by rw [Fm.ct,Fm.ctL,Fm.ctL];rfl,by rw [Fm.fl_q (f:=.mk 4 s l [a]) (by simp [Fm.kind]) rfl];show (a.fl.c||false)=_;rw [Bool.or_false]⟩
theorem ctk_5 {s:Ty} {l:List Tm} {a:Fm}:(Fm.mk 5 s l [a]).ct=(if a.fl.c then ctJoin 3 (s,0) a.ct else (s,0))∧(Fm.mk 5 s l [a]).fl.c=true :=
 ⟨by rw [Fm.ct,Fm.ctL,Fm.ctL];rfl,by rw [Fm.fl_q (f:=.mk 5 s l [a]) (by simp [Fm.kind]) rfl];show (a.fl.c||true)=_;rw [Bool.or_true]⟩
theorem ctk_67 {k:Int} (hk:k=6∨k=7) {s:Ty} {l:List Tm} {a:Fm}:(Fm.mk k s l [a]).ct=a.ct∧(Fm.mk k s l [a]).fl.c=a.fl.c:=by
 rcases hk with rfl|rfl
 ·exact ⟨by rw [Fm.ct,Fm.ctL,Fm.ctL];rfl,by rw [Fm.fl_q (f:=.mk 6 s l [a]) (by simp [Fm.kind]) rfl];show (a.fl.c||false)=_;rw [Bool.or_false]⟩
 ·exact ⟨by rw [Fm.ct,Fm.ctL,Fm.ctL];rfl,by rw [Fm.fl_q (f:=.mk 7 s l [a]) (by simp [Fm.kind]) rfl];show (a.fl.c||false)=_;rw [Bool.or_false]⟩
/-- What a content type may be. -/
def CtOk (p:Ty × Int):Prop:=(p.2=0∧TyG p.1)∨p=(tZero,4)
theorem ctJoin_ok {k:Int} (hk:k=3∨k=4) {x y:Ty × Int} (hx:CtOk x) (hy:CtOk y):CtOk (ctJoin k x y):=by
 rcases hx with ⟨ex,gx⟩|rfl
 case inr=>exact .inr rfl
 rcases hy with ⟨ey,gy⟩|rfl
 case inr=>unfold ctJoin;rw [ex];exact .inr rfl
 rcases ctJoin_G hk (.inl ⟨ex,gx⟩) (.inl ⟨ey,gy⟩) with ⟨h1,h2,_⟩|h4
 ·exact .inl ⟨h1,h2⟩
 ·right
  unfold ctJoin at h4 ⊢
  rw [ex,ey] at h4 ⊢
  have n0:((0:Int) != 0)=false:=rfl
  rw [n0] at h4 ⊢
  simp only [Bool.false_eq_true,if_false] at h4 ⊢
  split at h4
  ·rename_i h;rw [if_pos h];simp only at h4;rw [h4]
  ·cases h4
theorem FmC.ok {f:Fm} (h:FmC f):CtOk f.ct∧(f.fl.c=false→f.ct=(tUnit,0)):=by
 induction h with
 | eq=>exact ⟨.inl ⟨by rw [ctk_1.1],by rw [ctk_1.1];exact TyG.unit⟩,fun _=>ctk_1.1⟩
 | @two k t l a b hk _ _ h1 h2 =>
  rcases hk with rfl|rfl
  ·rw [ctk_2.1,ctk_2.2]
   cases ha:a.fl.c<;>cases hb:b.fl.c<;>simp only [Bool.or_false,Bool.or_true,Bool.or_self,if_true,Bool.false_eq_true,if_false,false_implies,and_true,true_implies]
   ·exact ⟨h2.1,h2.2 hb⟩
   ·exact ⟨h2.1,fun h=>by cases h⟩
   ·exact ⟨h1.1,fun h=>by cases h⟩
   ·exact ⟨ctJoin_ok (.inl rfl) h1.1 h2.1,fun h=>by cases h⟩
  ·rw [ctk_3.1,ctk_3.2]
   cases ha:a.fl.c<;>cases hb:b.fl.c<;>simp only [if_true,Bool.false_eq_true,if_false]
   ·exact ⟨.inl ⟨rfl,TyG.unit⟩,fun _=>trivial⟩
   ·exact ⟨h2.1,fun h=>by cases h⟩
   ·exact ⟨.inl ⟨rfl,TyG.unit⟩,fun _=>trivial⟩
   ·exact ⟨ctJoin_ok (.inr rfl) h1.1 h2.1,fun h=>by cases h⟩
 | @q k s l a hk hs _ h1 =>
  rcases hk with rfl|rfl|hk
  ·rw [ctk_4.1,ctk_4.2]
   cases ha:a.fl.c<;>simp only [if_true,Bool.false_eq_true,if_false]
   ·exact ⟨.inl ⟨rfl,TyG.unit⟩,fun _=>trivial⟩
   ·exact ⟨ctJoin_ok (.inr rfl) (.inl ⟨rfl,hs⟩) h1.1,fun h=>by cases h⟩
  ·rw [ctk_5.1,ctk_5.2]
   refine ⟨?_,fun h=>by cases h⟩
   cases ha:a.fl.c<;>simp only [if_true,Bool.false_eq_true,if_false]
   ·exact .inl ⟨rfl,hs⟩
   ·exact ctJoin_ok (.inl rfl) (.inl ⟨rfl,hs⟩) h1.1
  ·rw [(ctk_67 hk).1,(ctk_67 hk).2];exact h1
end GoAbs
namespace GoAbs
open Go
mutual
def Fm.rv (F:Tm→Int→Tm):Fm→Int→Fm
 | .mk k t l a,b=>.mk k t (l.map fun x=>F x b) (Fm.rvL F a (evB k b))
def Fm.rvL (F:Tm→Int→Tm):List Fm→Int→List Fm
 | [],_=>[]
 | t::l,b=>t.rv F b::Fm.rvL F l b
end
theorem Fm.rvL_map {F:Tm→Int→Tm}:∀ (l:List Fm) (b:Int),Fm.rvL F l b=l.map fun t=>t.rv F b
 | [],b=>by simp [Fm.rvL]
 | t::l,b=>by simp [Fm.rvL,Fm.rvL_map l b]
theorem Fm.rv_eq (F:Tm→Int→Tm) (f:Fm) (b:Int):f.rv F b=.mk f.kind f.type (f.terms.map fun x=>F x b) (f.args.map fun x=>x.rv F (evB f.kind b)):=by
 cases f;rw [Fm.rv,Fm.rvL_map];rfl
/- The context of a sequent, and the places of its hypotheses. -/
end GoAbs
namespace GoAbs
open Go
mutual
/-- A sum over the terms of a formula. -/
def Fm.sm (F:Tm→Int→Int):Fm→Int→Int→Int
 | .mk k _ l a,b,n=>Fm.smL F a (evB k b) (l.foldl (fun n t=>addW n (F t b)) n)
def Fm.smL (F:Tm→Int→Int):List Fm→Int→Int→Int
 | [],_,n=>n
 | f::l,b,n=>Fm.smL F l b (f.sm F b n)
end
theorem Fm.smL_fold {F:Tm→Int→Int}:∀ (l:List Fm) (b n:Int),Fm.smL F l b n=l.foldl (fun n f=>f.sm F b n) n
 | [],b,n=>by simp [Fm.smL]
 | t::l,b,n=>by simp [Fm.smL,Fm.smL_fold l b]
theorem Fm.sm_eq (F:Tm→Int→Int) (f:Fm) (b n:Int):f.sm F b n=f.args.foldl (fun n x=>x.sm F (evB f.kind b) n) (f.terms.foldl (fun n t=>addW n (F t b)) n):=by
 cases f;rw [Fm.sm,Fm.smL_fold];rfl
theorem foldl_take_succ {α:Type} {g:Int→α→Int} {l:List α} {i:Nat} {x:α} (h:l[i]? = some x) (n:Int):(l.take (i+1)).foldl g n=g ((l.take i).foldl g n) x:=by
 rw [List.take_add_one,h];simp
theorem TmG.rb_put {s:Tm} (hs:TmG s) (zs:tmSz s≤5000) (ls:s.least 536870912=true) {a:Int} (ha0:0≤a) (ha:a≤100000):∀ (n:Nat) {t:Tm},TmG t→tmSz t≤n→t.least 1000000000=true→∀ d:Int,0≤d→d+n≤100000 →
  t.rb (putG a s) d=tmInn s 0 t (a+d)
 | 0,t,h,hn,_,_,_,_=>by have:=tmSz_pos t;omega
 | n + 1,t,h,hn,hl,d,h0,hd=>by
  revert hn hl
  have e0:addW 0 (a+d)=a+d:=by rw [addW_eq (by omega) (by omega) (by omega) (by omega)];omega
  refine h.cases' (p:=fun t=>tmSz t≤n+1→t.least 1000000000=true→t.rb (putG a s) d=tmInn s 0 t (a+d)) ?_ ?_
  ·intro i hi _ hl
   have hi2:=var_j hl
   rw [tmVar,Tm.rb,tmInn,e0]
   simp only [beq_self_eq_true,if_true,putG]
   rw [subW_eq (by omega) (by omega) (by omega) (by omega),addW_eq (a:=a) (by omega) (by omega) (by omega) (by omega)]
   have e1:(i - d==a)=(i==a+d):=by
    by_cases h:i=a+d
    ·have h1:(i==a+d)=true:=by simpa using h
     rw [h1];simp;omega
    ·have h1:(i==a+d)=false:=by simpa using h
     rw [h1];simp;omega
   have e2:decide (i - d>a)=decide (i>a+d):=by
    by_cases h:i>a+d
    ·rw [decide_eq_true h,decide_eq_true (by omega)]
    ·rw [decide_eq_false h,decide_eq_false (by omega)]
   rw [e1,e2,tLift_up hs zs ls (by omega) (by omega) (by omega) (by omega)]
   rfl
  ·intro k ty l hk _ hg _ hn hl
   rw [tmSz] at hn
   rw [Tm.least,Bool.and_eq_true] at hl
   have hr:=tmBelow_range k
   have e:addW (a+d) (tmBelow k)=a+(d+tmBelow k):=by rw [addW_eq (by omega) (by omega) (by omega) (by omega)];omega
   rw [Tm.rb,Tm.rbL_map,tmInn,tmInnL_map,hk,e,below_eq h0 (by omega)]
   simp only [Bool.false_eq_true,if_false]
   congr 1
   refine List.map_congr_left fun y hy=>?_
   exact TmG.rb_put hs zs ls ha0 ha n (hg y hy) (by have:=tmSzL_mem hy;omega) (Tm.leastL_iff.1 hl.2 y hy) _ (by omega) (by omega)
theorem tPut_inn {s t:Tm} (hs:TmG s) (zs:tmSz s≤5000) (ls:s.least 536870912=true) (ht:TmG t) (zt:tmSz t≤5000) (lt:t.least 536870912=true) {a:Int} (ha0:0≤a) (ha:a≤50000):tPut t a s=tmInn s 0 t a:=by
 have:=TmG.rb_put hs zs ls ha0 (by omega:a≤100000) _ ht (Nat.le_refl _) (least_mono (by omega) _ lt) 0 (by omega) (by omega)
 rw [Int.add_zero] at this
 exact this
theorem rv_put {u:Bool} {s:Tm} (hs:TmG s) (zs:tmSz s≤5000) (ls:s.least 536870912=true) {f:Fm} (h:FmG u f):fmSz f≤5000→f.least 536870912=true→∀ d:Int,0≤d→d+fmSz f≤50000 →
  f.rv (fun t b=>tPut t (addW 0 b) s) d=fmInn s 0 f d:=by
 induction h with
 | @eq x y hx hy =>
  intro hz hl d h0 hd
  rw [fmSz_eq] at hd hz
  obtain ⟨l1,l2⟩:=fleast_eq.1 hl
  rw [fmInn_eqn,fmEq,Fm.rv_eq]
  simp only [Fm.kind,Fm.terms,Fm.args,Fm.type,List.map_cons,List.map_nil]
  rw [addW_z h0 (by omega),tPut_inn hs zs ls hx (by omega) l1 h0 (by omega),tPut_inn hs zs ls hy (by omega) l2 h0 (by omega)]
  rfl
 | @two k p q hk _ _ h1 h2 =>
  intro hz hl d h0 hd
  rw [fmSz_two] at hd hz
  obtain ⟨l1,l2⟩:=fleast_parts2 hl
  rw [fmInn_two,fmTwo,Fm.rv_eq]
  simp only [Fm.kind,Fm.terms,Fm.args,Fm.type,List.map_cons,List.map_nil]
  rw [evB_eq h0 (by omega),below_two hk,Int.add_zero,addW_zero h0 (by omega),h1 (by omega) l1 d h0 (by omega),h2 (by omega) l2 d h0 (by omega)]
  rfl
 | @q k t p hk hs' _ h1 =>
  intro hz hl d h0 hd
  rw [fmSz_q] at hd hz
  rw [fmInn_q,fmQ,Fm.rv_eq]
  simp only [Fm.kind,Fm.terms,Fm.args,Fm.type,List.map_cons,List.map_nil]
  rw [evB_eq h0 (by omega),below_q (FmG.qk hk),addW_eq (by omega) (by omega) (by omega) (by omega),h1 (by omega) (fleast_part hl) _ (by omega) (by omega)]
  rfl
theorem sm_occ {u:Bool} {f:Fm} (h:FmG u f):fmSz f≤5000→f.least 536870912=true→∀ (d:Int) (n:Nat),0≤d→d+fmSz f≤50000→n+fmSz f≤50000 →
  f.sm (fun t b=>t.count (addW 0 b)) d (n:Int)=((n+fmOcc f d:Nat):Int):=by
 induction h with
 | @eq x y hx hy =>
  intro hz hl d n h0 hd hn
  rw [fmSz_eq] at hd hz hn
  obtain ⟨l1,l2⟩:=fleast_eq.1 hl
  have o1:=tmOcc_le x d
  have o2:=tmOcc_le y d
  rw [Fm.sm_eq,fmOcc_eq,fmEq]
  simp only [Fm.kind,Fm.terms,Fm.args,List.foldl_cons,List.foldl_nil]
  rw [addW_z h0 (by omega),hx.count_occ (by omega) (least_mono (by omega) _ l1) h0 (by omega),hy.count_occ (by omega) (least_mono (by omega) _ l2) h0 (by omega),
   addW_eq (a:=(n:Int)) (by omega) (by omega) (by omega) (by omega),addW_eq (by omega) (by omega) (by omega) (by omega)]
  omega
 | @two k p q hk _ _ h1 h2 =>
  intro hz hl d n h0 hd hn
  rw [fmSz_two] at hd hz hn
  obtain ⟨l1,l2⟩:=fleast_parts2 hl
  have o1:=fmOcc_le p d
  rw [Fm.sm_eq,fmOcc_two hk,fmTwo]
  simp only [Fm.kind,Fm.terms,Fm.args,List.foldl_cons,List.foldl_nil]
  rw [evB_eq h0 (by omega),below_two hk,Int.add_zero,h1 (by omega) l1 d n h0 (by omega) (by omega),h2 (by omega) l2 d _ h0 (by omega) (by omega)]
  omega
 | @q k t p hk hs' _ h1 =>
  intro hz hl d n h0 hd hn
  rw [fmSz_q] at hd hz hn
  rw [Fm.sm_eq,fmOcc_q (FmG.qk hk),fmQ]
  simp only [Fm.kind,Fm.terms,Fm.args,List.foldl_cons,List.foldl_nil]
  rw [evB_eq h0 (by omega),below_q (FmG.qk hk),h1 (by omega) (fleast_part hl) _ n (by omega) (by omega) (by omega)]
end GoAbs
namespace GoAbs
open Go
end GoAbs
namespace GoAbs
open Go
theorem HasTy.least {g:List Ty} {t:Tm} {s:Ty} (h:HasTy TyG g t s):∀ M:Int,1≤M→(g.length:Int)+tmSz t≤M→t.least M=true:=by
 induction h with
 | var hi h=>intro M hM hb;rw [tmSz_v] at hb;exact least_v (by omega)
 | lam hG _ ih=>intro M hM hb;rw [tmSz_T1] at hb;exact least_T1 hM (ih M hM (by simp;omega))
 | n0 hN=>intro M hM hb;exact least_mk (by omega) (by simp)
 | n1 hN _ ih=>intro M hM hb;rw [tmSz_T1] at hb;exact least_T1 hM (ih M hM (by omega))
 | n2 hN _ _ ih1 ih2=>intro M hM hb;rw [tmSz_T2] at hb;exact least_mk (by omega) (by simp [ih1 M hM (by omega),ih2 M hM (by omega)])
 | n3 hN _ _ _ ih1 ih2 ih3=>intro M hM hb;rw [tmSz_T3] at hb;exact least_T3 hM (ih1 M hM (by omega)) (ih2 M hM (by omega)) (ih3 M hM (by omega))
end GoAbs
namespace GoAbs
open Go
theorem TmG.toW {t:Tm} (h:TmG t):TmW t:=by
 induction h with
 | @plain k l a ha hl ht _ ih =>
  refine tm0_W ?_ ih
  have:a≤3:=by
   unfold arity at ha
   split at ha
   ·cases ha
   ·rename_i hk
    have:k=1∨k=2∨k=3∨k=4∨k=5∨k=6∨k=7∨k=8∨k=9∨k=10∨k=11∨k=12∨k=13:=by omega
    rcases this with rfl|rfl|rfl|rfl|rfl|rfl|rfl|rfl|rfl|rfl|rfl|rfl|rfl<;>simp [arities] at ha<;>omega
  omega
 | var=>exact tmVar_W _
 | @typd k t l a ha hl ht hg _ ih =>
  have:a≤3:=by
   unfold arity at ha
   split at ha
   ·cases ha
   ·rename_i hk
    have:k=1∨k=2∨k=3∨k=4∨k=5∨k=6∨k=7∨k=8∨k=9∨k=10∨k=11∨k=12∨k=13:=by omega
    rcases this with rfl|rfl|rfl|rfl|rfl|rfl|rfl|rfl|rfl|rfl|rfl|rfl|rfl<;>simp [arities] at ha<;>omega
  exact .mk _ _ _ _ hg.1.W (by omega) ih
theorem FmG.toW {u:Bool} {f:Fm} (h:FmG u f):FmW f:=by
 induction h with
 | eq hx hy=>exact fmEq_W hx.toW hy.toW
 | two hk _ _ h1 h2=>exact .mk _ _ _ _ tZero_W (by simp) (by simp) (by simp) (by simp [h1,h2])
 | q hk hs _ h1=>exact .mk _ _ _ _ hs.1.W (by simp) (by simp) (by simp) (by simp [h1])
/-- A decidable formula, typed. -/
inductive Dc:List Ty→Fm→Prop
 | eq {g:List Ty} {x y:Tm}:TmG x→TmG y→HasTy TyG g x tNat→HasTy TyG g y tNat→Dc g (fmEq x y)
 | two {g:List Ty} {k:Int} {a b:Fm} (hk:k=2∨k=3):Dc g a→Dc g b→Dc g (fmTwo k a b)
 | bnd {g:List Ty} {all:Bool} {q:Tm} {a:Fm}:TmG q→HasTy TyG (g++[tNat]) q tNat→tmOcc q 0=0→Dc (g++[tNat]) a→Dc g (bndF all q a)
theorem Dc.G {u:Bool} {g:List Ty} {f:Fm} (h:Dc g f):FmG u f:=by
 induction h with
 | eq h1 h2 _ _=>exact .eq h1 h2
 | two hk _ _ h1 h2=>exact .two hk h1 h2
 | bnd hq _ _ _ h1=>exact bndF_G hq h1
theorem bnd_sz {all:Bool} {q:Tm} {a:Fm}:fmSz (bndF all q a)=tmSz q+fmSz a+24:=by
 rw [bndF_sz]
theorem Dc.ty {g:List Ty} {f:Fm} (h:Dc g f):FmTy TyG g f:=by
 induction h with
 | eq _ _ h1 h2=>exact .eq h1 h2
 | two hk _ _ h1 h2=>exact .two hk h1 h2
 | bnd _ hq _ _ h1=>exact bnd_ty' hq h1
theorem Dc.least {g:List Ty} {f:Fm} (h:Dc g f):(g.length:Int)+fmSz f≤100000→f.least 536870912=true:=by
 induction h with
 | eq _ _ h1 h2 =>
  intro hb
  rw [fmSz_eq] at hb
  exact fleast_eq.2 ⟨h1.least _ (by omega) (by omega),h2.least _ (by omega) (by omega)⟩
 | two hk _ _ h1 h2 =>
  intro hb
  rw [fmSz_two] at hb
  exact fleast_two (h1 (by omega)) (h2 (by omega))
 | @bnd g all q a _ hq _ _ h1 =>
  intro hb
  rw [bnd_sz] at hb
  have hl:q.least 536870912=true:=hq.least _ (by omega) (by simp;omega)
  have hless:(lessF (tmVar 0) q).least 536870912=true :=
   least_eqn (least_2 (by omega) (least_2 (by omega) (least_sub (by omega)) (least_1 (by omega) (least_v (by omega)))) hl) (least_0 (by omega))
  exact least_q (least_two hless (h1 (by simp;omega)))
theorem bnd_inn {s:Tm} {all:Bool} {q:Tm} {a:Fm} {d:Int} (hd:0≤d) (hd2:d≤100000) :
  fmInn s 0 (bndF all q a) d=bndF all (tmInn s 0 q (d+1)) (fmInn s 0 a (d+1)):=by
 have e0:addW (d+1) (tmBelow 3)=d+1:=addW_zero (by omega) (by omega)
 have hb:fmBelow (if all then 4 else 5)=1:=by cases all<;>rfl
 have hb2:fmBelow (if all then 3 else 2)=0:=by cases all<;>rfl
 unfold bndF lessF
 rw [fmInn_q,hb,addW_eq (by omega) (by omega) (by omega) (by omega),fmInn_two,hb2,addW_zero (by omega) (by omega),fmInn_eqn,inn_tm0 rfl,e0,inn_tm0 rfl]
 simp only [List.map_cons,List.map_nil]
 rw [inn_cl 19 _ (by rw [left_sz];omega) 1 (d+1) left_cl (by omega) (by omega) (by omega)]
theorem Dc.inn {s:Tm} (gs:TmG s) (ts:HasTy TyG [] s tNat) (zs:tmSz s≤4096) {g':List Ty} {f:Fm} (h:Dc g' f):∀ l:List Ty,g'=[tNat]++l→l.length+fmSz f≤10000→Dc l (fmInn s 0 f (l.length:Int)):=by
 have ls:s.least 536870912=true:=ts.least _ (by omega) (by simp;omega)
 induction h with
 | @eq g x y gx gy h1 h2 =>
  intro l e hb
  rw [fmSz_eq] at hb
  subst e
  rw [fmInn_eqn]
  have lx:x.least 536870912=true:=h1.least _ (by omega) (by simp;omega)
  have ly:y.least 536870912=true:=h2.least _ (by omega) (by simp;omega)
  exact .eq (TmG.inn gs ls _ gx (Nat.le_refl _) lx _ (by omega) (by omega)) (TmG.inn gs ls _ gy (Nat.le_refl _) ly _ (by omega) (by omega))
   (h1.inn [] l rfl ts (by omega) (by simp;omega)) (h2.inn [] l rfl ts (by omega) (by simp;omega))
 | @two g k a b hk _ _ ih1 ih2 =>
  intro l e hb
  rw [fmSz_two] at hb
  rw [fmInn_two,below_two hk,addW_zero (by omega) (by omega)]
  exact .two hk (ih1 l e (by omega)) (ih2 l e (by omega))
 | @bnd g all q a gq hq oq _ ih =>
  intro l e hb
  rw [bnd_sz] at hb
  subst e
  rw [bnd_inn (by omega) (by omega)]
  have lq:q.least 536870912=true:=hq.least _ (by omega) (by simp;omega)
  have e1:((l.length:Int)+1)=((l++[tNat]).length:Int):=by simp
  refine .bnd ?_ ?_ ?_ ?_
  ·exact TmG.inn gs ls _ gq (Nat.le_refl _) lq _ (by omega) (by omega)
  ·rw [e1];exact hq.inn [] (l++[tNat]) (by simp) ts (by simp;omega) (by simp;omega)
  ·rw [TmG.inn_occ gs (by omega) (least_mono (by omega) _ ls) _ gq (Nat.le_refl _) (least_mono (by omega) _ lq) _ 0 (by omega) (by omega) (by omega)];exact oq
  ·rw [e1];exact ih (l++[tNat]) (by simp) (by simp;omega)
/-- The number that a closed term is, within a limit: the number, the work, whether there was too much. -/
def evN (m:Nat) (t:Tm):Nat × Nat × Bool:=match ev m (m+1) 0 t [] with|some (r,u,o)=>(r.num,u,o)|none=>(0,0,true)
theorem evN_at {m:Nat} {t:Tm} (ht:HasTy TyG [] t tNat):∃ r u o,ev m (m+1) 0 t []=some (r,u,o)∧evN m t=(r.num,u,o)∧u≤m:=by
 obtain ⟨r,u,o,h1,_,h3,_⟩:=ev_P (Q:=TyG) (most:=m) (m+1) 0 t [] [] tNat (by omega) (by omega) ht ⟨rfl,by simp⟩
 exact ⟨r,u,o,h1,by simp [evN,h1],h3⟩
theorem evN_le {m:Nat} {t:Tm} (ht:HasTy TyG [] t tNat) (wt:TmW t) (hm:m≤65536):(evN m t).2.1≤m∧((evN m t).2.2=false→(evN m t).1≤m):=by
 obtain ⟨r,u,o,h1,h2,h3⟩:=evN_at (m:=m) ht
 rw [h2]
 refine ⟨h3,fun ho=>?_⟩
 simp only at ho
 subst ho
 obtain ⟨_,_,h4⟩:=ev_W (by omega) (m+1) 0 0 t [] r u false h1 (by omega) (by omega) wt (by simp) (by simp)
 have:=(h4 rfl).2.n1
 omega
end GoAbs
namespace GoAbs
open Go
/-- An answer: the truth, the work, the error. -/
abbrev Ans:=Bool × Nat × Int
/-- What putting a term in for the variable 0 answers. -/
def putR (f:Fm) (s:Tm):Fm × Int:=if fmSz f+fmOcc f 0 * (tmSz s - 1)≤4096 then (fmInn s 0 f 0,0) else (zeroF,4)
/-- The number of a term, out of an effort: the number, the work, the error. -/
def dN (lim w:Nat) (t:Tm):Nat × Nat × Int:=if (evN (lim - w) t).2.2 then (0,w,5) else ((evN (lim - w) t).1,w+(evN (lim - w) t).2.1,0)
def dW (D:Nat→Fm→Ans) (f:Fm) (k w:Nat):Ans :=
 if 4096≤k then (false,w,4) else if (putR f (numT k)).2 != 0 then (false,w,(putR f (numT k)).2) else D w (putR f (numT k)).1
def dB (D:Nat→Fm→Ans) (lim:Nat) (all:Bool) (f:Fm):Nat→Nat→Nat→Ans
 | 0,_,w=>(all,w,0)
 | n+1,k,w=>if lim≤w then (false,w,5) else
  if (dW D f k (w+1)).2.2 != 0||(dW D f k (w+1)).1 != all then dW D f k (w+1) else dB D lim all f n (k+1) (dW D f k (w+1)).2.1
def dE (lim w:Nat) (x y:Tm):Ans :=
 if (dN lim w x).2.2 != 0 then (false,(dN lim w x).2.1,(dN lim w x).2.2)
 else if (dN lim (dN lim w x).2.1 y).2.2 != 0 then (false,(dN lim (dN lim w x).2.1 y).2.1,(dN lim (dN lim w x).2.1 y).2.2)
 else ((dN lim w x).1==(dN lim (dN lim w x).2.1 y).1,(dN lim (dN lim w x).2.1 y).2.1,0)
def dT (lim:Nat):Nat→Nat→Fm→Ans
 | 0,w,_=>(false,w,0)
 | n+1,w,f =>
  if f.kind==1 then dE lim w (f.terms.getD 0 zeroT) (f.terms.getD 1 zeroT)
  else if f.kind==2 then (if (dT lim n w (fa f 0)).1 then dT lim n (dT lim n w (fa f 0)).2.1 (fa f 1) else dT lim n w (fa f 0))
  else if f.kind==3 then
   (if (dT lim n w (fa f 0)).2.2 != 0||!(dT lim n w (fa f 0)).1 then ((dT lim n w (fa f 0)).2.2==0,(dT lim n w (fa f 0)).2.1,(dT lim n w (fa f 0)).2.2) else dT lim n (dT lim n w (fa f 0)).2.1 (fa f 1))
  else if (dN lim w (tPut (bndTerm f) 0 zeroT)).2.2 != 0 then (false,(dN lim w (tPut (bndTerm f) 0 zeroT)).2.1,(dN lim w (tPut (bndTerm f) 0 zeroT)).2.2)
  else dB (fun w f=>dT lim n w f) lim (f.kind==4) (bndBody f) (dN lim w (tPut (bndTerm f) 0 zeroT)).1 0 (dN lim w (tPut (bndTerm f) 0 zeroT)).2.1
theorem dT_eq {lim n w:Nat} {x y:Tm}:dT lim (n+1) w (fmEq x y)=dE lim w x y:=rfl
theorem dT_and {lim n w:Nat} {a b:Fm}:dT lim (n+1) w (fmTwo 2 a b)=if (dT lim n w a).1 then dT lim n (dT lim n w a).2.1 b else dT lim n w a:=rfl
theorem dT_imp {lim n w:Nat} {a b:Fm}:dT lim (n+1) w (fmTwo 3 a b) =
  if (dT lim n w a).2.2 != 0||!(dT lim n w a).1 then ((dT lim n w a).2.2==0,(dT lim n w a).2.1,(dT lim n w a).2.2) else dT lim n (dT lim n w a).2.1 b:=rfl
theorem dT_bnd {lim n w:Nat} {all:Bool} {q:Tm} {a:Fm}:dT lim (n+1) w (bndF all q a) =
  if (dN lim w (tPut q 0 zeroT)).2.2 != 0 then (false,(dN lim w (tPut q 0 zeroT)).2.1,(dN lim w (tPut q 0 zeroT)).2.2)
  else dB (fun w f=>dT lim n w f) lim all a (dN lim w (tPut q 0 zeroT)).1 0 (dN lim w (tPut q 0 zeroT)).2.1:=by
 cases all<;>rfl
theorem fdp_bnd {all:Bool} {q:Tm} {a:Fm}:fdp (bndF all q a)=fdp a+2:=by
 have:=fdp_pos a
 unfold bndF
 rw [fdp_q,fdp_two,lessF,fdp_eqn];omega
theorem fdp_inn {s:Tm}:∀ (f:Fm) (d:Int),fdp (fmInn s 0 f d)=fdp f:=by
 intro f
 induction f using Fm.ind with|h f ih=>?_
 intro d
 obtain ⟨k,t,l,a⟩:=f
 rw [fmInn,fmInnL_map,fdp,fdp]
 congr 1
 have:∀ (l:List Fm) (d:Int),(∀ x∈l,∀ d,fdp (fmInn s 0 x d)=fdp x)→fdpL (l.map fun x=>fmInn s 0 x d)=fdpL l:=by
  intro l
  induction l with
  | nil=>intro d _;rfl
  | cons x l ih2=>intro d h;rw [List.map_cons,fdpL,fdpL,h x (by simp),ih2 d (fun y hy=>h y (by simp [hy]))]
 exact this a _ (fun x hx d=>ih x hx d)
/-- The bound of a bounded quantifier, out of the quantifier. -/
theorem bnd_term {q:Tm} (gq:TmG q) (hq:HasTy TyG [tNat] q tNat) (oq:tmOcc q 0=0) (zq:tmSz q≤4096):TmG (tPut q 0 zeroT)∧HasTy TyG [] (tPut q 0 zeroT) tNat∧tmSz (tPut q 0 zeroT)=tmSz q:=by
 have g0:TmG (tm0 4 []):=.t0 ar4 rfl
 have lq:q.least 536870912=true:=hq.least _ (by omega) (by simp;omega)
 have key:∀ (n:Nat) {s s' t:Tm},TmG t→tmSz t≤n→∀ d:Int,0≤d→d+n≤100000→tmOcc t d=0→t.least 1000000000=true→t.rb (putG 0 s) d=t.rb (putG 0 s') d:=by
  intro n
  induction n with
  | zero=>intro s s' t _ hn;have:=tmSz_pos t;omega
  | succ n ih =>
   intro s s' t gt hn d h0 hd ho hl
   revert hn ho hl
   refine gt.cases' (p:=fun t=>tmSz t≤n+1→tmOcc t d=0→t.least 1000000000=true→t.rb (putG 0 s) d=t.rb (putG 0 s') d) ?_ ?_
   ·intro i hi _ ho hl
    have hi2:=var_j hl
    rw [tmVar,tmOcc] at ho
    simp only [beq_self_eq_true,if_true] at ho
    have hne:i≠d:=by intro e;subst e;simp at ho
    rw [tmVar,Tm.rb,Tm.rb]
    simp only [beq_self_eq_true,if_true,putG]
    rw [subW_eq (by omega) (by omega) (by omega) (by omega)]
    have:(i - d==0)=false:=by simp;omega
    rw [this];rfl
   ·intro k ty l hk _ hg _ hn ho hl
    rw [tmSz] at hn
    rw [Tm.least,Bool.and_eq_true] at hl
    rw [tmOcc,hk] at ho
    simp only [Bool.false_eq_true,if_false] at ho
    have hr:=tmBelow_range k
    rw [Tm.rb,Tm.rbL_map,Tm.rb,Tm.rbL_map,hk,below_eq h0 (by omega)]
    simp only [Bool.false_eq_true,if_false]
    congr 1
    refine List.map_congr_left fun y hy=>?_
    have hoy:tmOcc y (d+tmBelow k)=0:=by
     have:∀ {l:List Tm},y∈l→tmOccL l (d+tmBelow k)=0→tmOcc y (d+tmBelow k)=0:=by
      intro l
      induction l with
      | nil=>intro h;simp at h
      | cons z l ihl =>
       intro h h2
       rw [tmOccL] at h2
       rcases List.mem_cons.1 h with rfl|h
       ·omega
       ·exact ihl h (by omega)
     exact this hy ho
    exact ih (hg y hy) (by have:=tmSzL_mem hy;omega) _ (by omega) (by omega) hoy (Tm.leastL_iff.1 hl.2 y hy)
 have e:tPut q 0 zeroT=tmInn (tm0 4 []) 0 q 0:=by
  rw [← tPut_inn g0 (by simp [tm0,tmSz,tmSzL]) (least_0 (by omega)) gq (by omega) lq (by omega) (by omega)]
  exact key _ gq (Nat.le_refl _) 0 (by omega) (by omega) oq (least_mono (by omega) _ lq)
 rw [e]
 refine ⟨TmG.inn g0 (least_0 (by omega)) _ gq (Nat.le_refl _) lq 0 (by omega) (by omega),?_,?_⟩
 ·have:=hq.inn [] [] rfl (HasTy.num 0) (by simp;omega) (by simp [numT,tm0,tmSz,tmSzL])
  exact this
 ·rw [TmG.inn_sz _ gq (Nat.le_refl _) 0 (by omega) (by omega),oq];omega
theorem Dc.put {a:Fm} (h:Dc [tNat] a) (za:fmSz a≤4096) {k:Nat} (hk:k<4096) (hp:(putR a (numT k)).2=0):Dc [] (putR a (numT k)).1∧fmSz (putR a (numT k)).1≤4096∧fdp (putR a (numT k)).1=fdp a:=by
 have zk:tmSz (numT k)=k+1:=tmSz_num k
 unfold putR at hp ⊢
 split at hp
 ·rename_i hle
  rw [if_pos hle]
  refine ⟨h.inn (numT_G k) (HasTy.num k) (by omega) [] rfl (by simp;omega),?_,fdp_inn _ _⟩
  rw [(h.G (u:=true)).inn_sz 0 (by omega) (by omega)]
  exact hle
 ·simp at hp
theorem Dc.fld {g:List Ty} {f:Fm} (h:Dc g f):g.length+fmSz f≤50000→f.fl.d=true:=by
 induction h with
 | eq _ _ _ _=>intro _;rw [Fm.fl_eqn]
 | two hk _ _ h1 h2 =>
  intro hb
  rw [fmSz_two] at hb
  rw [Fm.fl_two hk,h1 (by omega),h2 (by omega)];rfl
 | @bnd g all q a gq tq oq _ h1 =>
  intro hb
  rw [bnd_sz] at hb
  rw [bndF_fl (by rw [gq.count_occ (by omega) (tq.least _ (by omega) (by simp;omega)) (by omega) (by omega),oq];rfl)]
  exact h1 (by simp;omega)
end GoAbs
namespace GoAbs
open Go
/-- The numbers up to m. -/
def numsT (m:Nat):List Tm:=(List.range (m+1)).map numT
def consT (a l:Tm):Tm:=tm0 8 [a,l]
def nilT:Tm:=tm0 7 []
def listsT (m:Nat):List Tm :=
 nilT::((numsT m).map fun a=>consT a nilT)++(numsT m).flatMap fun a=>(numsT m).map fun b=>consT a (consT b nilT)
/-- The pairs of two rows, till there are enough. -/
def pairUp (r:List Tm):List Tm→List Tm→List Tm
 | out,[]=>out
 | out,a::l =>
  let o:=out++r.map fun b=>tm0 10 [a,b]
  if o.length≥64 then o else pairUp r o l
/-- The candidates of a type. -/
def candN:Nat→Ty→Nat→List Tm
 | 0,_,_=>[]
 | n+1,t,m =>
  let o:List Tm :=
   if t.kind==1 then numsT m
   else if t.kind==2 then listsT m
   else match t.kind==3,t.kind==4,t.args with
    | true,_,[a,b]=>pairUp (candN n b m) [] (candN n a m)
    | _,true,[a,b]=>(if Ty.same a b then [tmT 2 a [tmVar 0]] else [])++(candN n b m).map fun c=>tmT 2 a [c]
    | _,_,_=>[tm0 13 []]
  o.take 64
theorem candN_nat {n m:Nat}:candN (n+1) tNat m=(numsT m).take 64:=by simp [candN,tNat,Ty.kind]
theorem candN_list {n m:Nat}:candN (n+1) tList m=(listsT m).take 64:=by simp [candN,tList,Ty.kind]
theorem candN_unit {n m:Nat}:candN (n+1) tUnit m=[tm0 13 []]:=by simp [candN,tUnit,Ty.kind,Ty.args]
theorem candN_pair {n m:Nat} {a b:Ty}:candN (n+1) (tPair a b) m=(pairUp (candN n b m) [] (candN n a m)).take 64:=by simp [candN,tPair,Ty.kind,Ty.args]
theorem candN_fun {n m:Nat} {a b:Ty}:candN (n+1) (tFun a b) m=((if Ty.same a b then [tmT 2 a [tmVar 0]] else [])++(candN n b m).map fun c=>tmT 2 a [c]).take 64:=by simp [candN,tFun,Ty.kind,Ty.args]
theorem candN_len:∀ {n m:Nat} {t:Ty},(candN n t m).length≤64
 | 0,_,_=>by simp [candN]
 | n+1,_,_=>by rw [candN];simp only [List.length_take];omega
theorem numsT_len {m:Nat}:(numsT m).length=m+1:=by simp [numsT]
theorem numsT_get {m i:Nat} (h:i≤m):(numsT m)[i]? = some (numT i):=by simp [numsT,List.getElem?_range (show i<m+1 by omega)]
/-- What is known of a candidate. -/
structure CandOk (g:List Ty) (t:Ty) (B:Nat) (x:Tm):Prop where
 ty:HasTy TyG g x t
 gd:TmG x
 sz:tmSz x≤B
 w:TmW x
theorem CandOk.up {g:List Ty} {t:Ty} {B C:Nat} {x:Tm} (h:CandOk g t B x) (hb:B≤C):CandOk g t C x:=⟨h.ty,h.gd,Nat.le_trans h.sz hb,h.w⟩
theorem CandOk.num {g:List Ty} {m:Nat}:∀ i,i≤m→CandOk g tNat (m+1) (numT i):=fun i hi=>⟨.num i,numT_G i,by rw [tmSz_num];omega,numT_W i⟩
theorem numsT_ok {g:List Ty} {m:Nat}:∀ x∈numsT m,CandOk g tNat (m+1) x:=by
 intro x hx
 simp only [numsT,List.mem_map,List.mem_range] at hx
 obtain ⟨i,hi,rfl⟩:=hx
 exact .num i (by omega)
theorem nilT_ok {g:List Ty}:CandOk g tList 1 nilT:=⟨.n0 (ty:=.mk 0 []) .nil,.t0 rfl rfl,by unfold nilT;rw [tmSz_0];omega,tm0_W0⟩
theorem consT_ok {g:List Ty} {A B:Nat} {a l:Tm} (ha:CandOk g tNat A a) (hl:CandOk g tList B l):CandOk g tList (A+B+1) (consT a l) :=
 ⟨.n2 (ty:=.mk 0 []) .cons ha.ty hl.ty,.t2 rfl rfl ha.gd hl.gd,by unfold consT;rw [tmSz_2];have:=ha.sz;have:=hl.sz;omega,tm0_W2 ha.w hl.w⟩
theorem listsT_ok {g:List Ty} {m:Nat}:∀ x∈listsT m,CandOk g tList (2 * m+6) x:=by
 intro x hx
 simp only [listsT,List.cons_append,List.mem_cons,List.mem_append,List.mem_map,List.mem_flatMap] at hx
 rcases hx with rfl|⟨a,ha,rfl⟩|⟨a,ha,b,hb,rfl⟩
 ·exact nilT_ok.up (by omega)
 ·exact (consT_ok (numsT_ok _ ha) nilT_ok).up (by omega)
 ·exact (consT_ok (numsT_ok _ ha) (consT_ok (numsT_ok _ hb) nilT_ok)).up (by omega)
theorem pairUp_mem {r:List Tm}:∀ {l out:List Tm} {x:Tm},x∈pairUp r out l→x∈out∨∃ a∈l,∃ b∈r,x=tm0 10 [a,b]
 | [],_,_,h=>.inl h
 | c::l,out,x,h=>by
  have one:x∈out++(r.map fun b=>tm0 10 [c,b])→x∈out∨∃ a∈c::l,∃ b∈r,x=tm0 10 [a,b]:=by
   intro h
   rcases List.mem_append.1 h with h|h
   ·exact .inl h
   ·obtain ⟨b,hb,rfl⟩:=List.mem_map.1 h
    exact .inr ⟨c,by simp,b,hb,rfl⟩
  rw [pairUp] at h
  split at h
  ·exact one h
  ·rcases pairUp_mem h with h|⟨a,ha,b,hb,rfl⟩
   ·exact one h
   ·exact .inr ⟨a,by simp [ha],b,hb,rfl⟩
theorem pairUp_pos {r:List Tm} (hr:1≤r.length):∀ {l out:List Tm},1≤l.length∨1≤out.length→1≤(pairUp r out l).length
 | [],out,h=>by rw [pairUp];simpa using h
 | c::l,out,h=>by
  rw [pairUp]
  split
  ·simp;omega
  ·exact pairUp_pos hr (.inr (by simp;omega))
theorem candN_pos {n:Nat} {t:Ty} (h:MkTy n t) {m:Nat}:1≤(candN (n+1) t m).length:=by
 induction h with
 | nat=>rw [candN_nat];simp [numsT]<;>omega
 | list=>rw [candN_list];simp [listsT]<;>omega
 | unit=>rw [candN_unit];simp
 | pair _ _ h1 h2=>rw [candN_pair];have:=pairUp_pos h2 (out:=[]) (.inl h1);simp;omega
 | func _ _ h1 h2=>rw [candN_fun];simp;omega
/-- The bound of a candidate's nodes: 38 for numbers and lists, and twice as many, one more, at each step. -/
def candB:Nat→Nat
 | 0=>38
 | n+1=>2 * candB n+1
theorem candB_le {n:Nat}:38≤candB n:=by
 induction n with
 | zero=>exact Nat.le_refl _
 | succ n ih=>rw [candB];omega
theorem candN_ok {n:Nat} {t:Ty} (h:MkTy n t) {m:Nat} (hm:m≤16):tySz t≤20→∀ {g:List Ty},∀ x∈candN (n+1) t m,CandOk g t (candB n) x:=by
 induction h with
 | nat =>
  intro _ g x hx
  rw [candN_nat] at hx
  exact (numsT_ok x (List.mem_of_mem_take hx)).up (Nat.le_trans (by omega) candB_le)
 | list =>
  intro _ g x hx
  rw [candN_list] at hx
  exact (listsT_ok x (List.mem_of_mem_take hx)).up (Nat.le_trans (by omega) candB_le)
 | unit =>
  intro _ g x hx
  rw [candN_unit] at hx
  obtain rfl:=List.mem_singleton.1 hx
  exact ⟨.n0 (ty:=.mk 0 []) .unit,.t0 rfl rfl,by rw [tmSz_0];exact Nat.le_trans (by omega) candB_le,tm0_W0⟩
 | @pair n a b ha hb h1 h2 =>
  intro hz g x hx
  rw [tySz_pair] at hz
  rw [candN_pair] at hx
  rcases pairUp_mem (List.mem_of_mem_take hx) with h|⟨c,hc,d,hd,rfl⟩
  ·simp at h
  have k1:=h1 (by omega) (g:=g) c hc
  have k2:=h2 (by omega) (g:=g) d hd
  exact ⟨.n2 (ty:=.mk 0 []) (.pair (.pair' ha.F hb.F (by omega))) k1.ty k2.ty,.t2 rfl rfl k1.gd k2.gd,by rw [tmSz_2,candB];have:=k1.sz;have:=k2.sz;omega,tm0_W2 k1.w k2.w⟩
 | @func n a b ha hb h1 h2 =>
  intro hz g x hx
  rw [tySz_fun] at hz
  rw [candN_fun] at hx
  have hq:TyG (tFun a b):=.fun' ha.F hb.F (by omega)
  have hg:TyG a:=⟨ha.F,by omega⟩
  rcases List.mem_append.1 (List.mem_of_mem_take hx) with h|h
  ·split at h
   ·next he =>
    obtain rfl:=List.mem_singleton.1 h
    have e:=Ty.same_true he
    subst e
    exact ⟨.lam hq .v0,.lam hg (.var (by omega)),by rw [tmSz_T1,tmSz_v,candB];have:=@candB_le n;omega,tmT_W1 hg.1.W (tmVar_W 0)⟩
   ·simp at h
  ·obtain ⟨c,hc,rfl⟩:=List.mem_map.1 h
   have k2:=h2 (by omega) (g:=g++[a]) c hc
   exact ⟨.lam hq k2.ty,.lam hg k2.gd,by rw [tmSz_T1,candB];have:=k2.sz;omega,tmT_W1 hg.1.W k2.w⟩
end GoAbs
namespace GoAbs
open Go
/-- A greater limit changes nothing, where there was enough. -/
def EvM (m:Nat) (E F:Evl):Prop:=∀ u t e r u',u≤m→E u t e=some (r,u',false)→u≤u'∧u'≤m∧F u t e=some (r,u',false)
section
variable {m:Nat} {E F:Evl} (hM:EvM m E F)
include hM
end
end GoAbs
namespace GoAbs
open Go
/-- The answer to a formula. -/
def dA (lim:Nat) (f:Fm):Ans:=dT lim (fdp f) 0 f
section
variable {f g:Fm} (hf:Dc [] f) (hg:Dc [] g) (zf:fmSz f≤1000) (zg:fmSz g≤1000)
include hf hg zf zg
end
end GoAbs
namespace GoAbs
open Go
/-- Does a formula hold of a number: what deciding it answers. -/
def hR (lim:Nat) (f:Fm) (k:Nat):Ans:=if (putR f (numT k)).2 != 0 then (false,0,(putR f (numT k)).2) else dA lim (putR f (numT k)).1
section
variable {all:Bool} {f:Fm} {n:Nat} (hf:Dc [tNat] f) (zf:fmSz f≤1000) (hn:n≤5)
include hf zf hn
end
end GoAbs
namespace GoAbs
open Go
/-- A plain value: kind, number, list, parts. -/
inductive PVl where
 | mk (kind num:Int) (list:List Int) (args:List PVl)
def PVl.kind:PVl→Int | .mk k _ _ _=>k
def PVl.num:PVl→Int | .mk _ n _ _=>n
def PVl.list:PVl→List Int | .mk _ _ l _=>l
def PVl.args:PVl→List PVl | .mk _ _ _ a=>a
theorem PVl.ind {p:PVl→Prop} (h:∀ t,(∀ x∈t.args,p x)→p t):∀ t,p t:=by
 intro t
 refine PVl.rec (motive_1:=p) (motive_2:=fun l=>∀ x∈l,p x) (fun k n l a i1=>h _ i1) (by simp) (fun a l ha hl x hx=>?_) t
 rcases List.mem_cons.1 hx with rfl|hx
 ·exact ha
 ·exact hl x hx
mutual
def PVl.cells:PVl→List V
 | .mk k n l a=>[.int .i64 k,.int .i64 n,.sl .any (ints l),.sl .any (PVl.rows a)]
def PVl.rows:List PVl→List (List V)
 | []=>[]
 | r::l=>r.cells::PVl.rows l
end
theorem PVl.rows_eq:∀ l,PVl.rows l=l.map PVl.cells
 | []=>by simp [PVl.rows]
 | t::l=>by simp [PVl.rows,PVl.rows_eq l]
theorem PVl.cells_eq (t:PVl):t.cells=[.int .i64 t.kind,.int .i64 t.num,.sl .any (ints t.list),.sl .any (t.args.map PVl.cells)]:=by
 cases t;simp [PVl.cells,PVl.rows_eq,PVl.kind,PVl.num,PVl.list,PVl.args]
section
variable (t:PVl)
theorem PVl.cells_len:t.cells.length=4:=by rw [PVl.cells_eq];rfl
theorem PVl.cells_0:t.cells[0]? = some (.int .i64 t.kind):=by rw [PVl.cells_eq];rfl
theorem PVl.cells_1:t.cells[1]? = some (.int .i64 t.num):=by rw [PVl.cells_eq];rfl
theorem PVl.cells_2:t.cells[2]? = some (.sl .any (ints t.list)):=by rw [PVl.cells_eq];rfl
theorem PVl.cells_3:t.cells[3]? = some (.sl .any (t.args.map PVl.cells)):=by rw [PVl.cells_eq];rfl
theorem PVl.cells_take:List.take 4 t.cells=t.cells:=List.take_of_length_le (by rw [PVl.cells_len];exact Nat.le_refl _)
theorem PVl.cells_one:t.cells.all oneV=true:=by rw [PVl.cells_eq];rfl
end
theorem splice_PVl {cs:List V} {t:PVl} (h:cs.length=4):splice cs 0 t.cells=t.cells:=splice_full (by rw [h,PVl.cells_len])
theorem weakL_PVl:∀ t:PVl,weakL t.cells=t.cells:=by
 intro t
 induction t using PVl.ind with
 | h t i1 =>
  rw [PVl.cells_eq]
  have e1:weakLL (t.args.map PVl.cells)=t.args.map PVl.cells:=by
   rw [weakLL_eq,List.map_map];exact List.map_congr_left fun x hx=>i1 x hx
  simp only [weakL,weak,weakLL_ints,e1]
theorem weakLL_PVl (l:List PVl):weakLL (l.map PVl.cells)=l.map PVl.cells:=by
 rw [weakLL_eq,List.map_map];exact List.map_congr_left fun x _=>weakL_PVl x
section
variable {S:Id→Prop}
theorem InL_PVl:∀ t:PVl,InL S t.cells:=by
 intro t
 induction t using PVl.ind with
 | h t i1 =>
  rw [PVl.cells_eq]
  have e1:InLL S (t.args.map PVl.cells):=by
   rw [InLL_mem];intro l hl;obtain ⟨x,hx,rfl⟩:=List.mem_map.1 hl;exact i1 x hx
  simp only [InL,InV,capIn,true_and,and_true,InLL_ints,e1]
theorem InLL_PVl (l:List PVl):InLL S (l.map PVl.cells):=by
 rw [InLL_mem];intro x hx;obtain ⟨y,_,rfl⟩:=List.mem_map.1 hx;exact InL_PVl y
end
theorem all_len_PVl (l:List PVl):(l.map PVl.cells).all (fun e=>e.length==4)=true:=by simp [PVl.cells_len]
theorem all_one_PVl (l:List PVl):(l.map PVl.cells).flatten.all oneV=true:=by
 rw [List.all_eq_true];intro v hv
 obtain ⟨c,hc,hv⟩:=List.mem_flatten.1 hv
 obtain ⟨x,_,rfl⟩:=List.mem_map.1 hc
 exact List.all_eq_true.1 (PVl.cells_one x) v hv
theorem PVl.mk_cells (k n:Int) (l:List Int) (a:List PVl):(PVl.mk k n l a).cells=[.int .i64 k,.int .i64 n,.sl .any (ints l),.sl .any (a.map PVl.cells)]:=PVl.cells_eq _
attribute [go_sem] InL_PVl InLL_PVl
attribute [go_sem] PVl.cells_len PVl.cells_0 PVl.cells_1 PVl.cells_2 PVl.cells_3 PVl.cells_take PVl.cells_one splice_PVl weakL_PVl weakLL_PVl all_len_PVl all_one_PVl
end GoAbs
namespace GoAbs
open Go
/-- The term of a list of numbers. -/
def listT:List Nat→Tm
 | []=>tm0 7 []
 | n::l=>tm0 8 [numT n,listT l]
/-- A plain value of a type, and its term. -/
inductive IsVl:Ty→PVl→Tm→Prop
 | num (n:Nat):IsVl tNat (.mk 1 n [] []) (numT n)
 | list (l:List Nat):IsVl tList (.mk 2 0 (l.map fun (n:Nat)=>(n:Int)) []) (listT l)
 | unit:IsVl tUnit (.mk 4 0 [] []) (tm0 13 [])
 | pair {a b:Ty} {x y:PVl} {s t:Tm}:IsVl a x s→IsVl b y t→IsVl (tPair a b) (.mk 3 0 [] [x,y]) (tm0 10 [s,t])
theorem listT_G:∀ l,TmG (listT l)
 | []=>.t0 (k:=7) rfl rfl
 | n::l=>.t2 (k:=8) rfl rfl (numT_G n) (listT_G l)
theorem IsVl.G {a:Ty} {v:PVl} {t:Tm} (h:IsVl a v t):TmG t:=by
 induction h with
 | num n=>exact numT_G n
 | list l=>exact listT_G l
 | unit=>exact .t0 (k:=13) rfl rfl
 | pair _ _ h1 h2=>exact .t2 (k:=10) rfl rfl h1 h2
theorem listT_ty {g:List Ty}:∀ l,HasTy TyG g (listT l) tList
 | []=>.n0 (ty:=.mk 0 []) .nil
 | n::l=>.n2 (ty:=.mk 0 []) .cons (HasTy.num n) (listT_ty l)
theorem IsVl.ty {a:Ty} {v:PVl} {t:Tm} (h:IsVl a v t):TyG a→∀ g,HasTy TyG g t a:=by
 induction h with
 | num n=>exact fun _ g=>HasTy.num n
 | list l=>exact fun _ g=>listT_ty l
 | unit=>exact fun _ g=>.n0 (ty:=.mk 0 []) .unit
 | pair _ _ h1 h2 =>
  intro ht g
  obtain ⟨t1,t2⟩:=ht.pair1
  exact .n2 (ty:=.mk 0 []) (.pair ht) (h1 t1 g) (h2 t2 g)
/-- The nodes of the term of a list of numbers. -/
def lsz:List Nat→Nat
 | []=>1
 | n::l=>n+2+lsz l
theorem listT_sz:∀ l,tmSz (listT l)=lsz l
 | []=>by rw [listT,tmSz_0];rfl
 | n::l=>by rw [listT,tmSz_2,tmSz_num,listT_sz l,lsz];omega
theorem lsz_len:∀ l:List Nat,l.length * 2+1≤lsz l
 | []=>by simp [lsz]
 | y::l=>by have:=lsz_len l;rw [lsz,List.length_cons];omega
/-- The parts of a value; all lists are short. -/
inductive VlW:PVl→Prop
 | mk (k n:Int) (l:List Int) (a:List PVl):l.length≤5000→a.length≤1000→(∀ x∈a,VlW x)→VlW (.mk k n l a)
theorem VlW.len {v:PVl} (h:VlW v):v.args.length≤1000:=by cases h;assumption
theorem VlW.arg {v:PVl} (h:VlW v):∀ x∈v.args,VlW x:=by cases h;assumption
mutual
/-- The nodes of a value, as they are counted. -/
def PVl.nd:PVl→Int
 | .mk _ _ _ a=>PVl.ndL 1 a
def PVl.ndL:Int→List PVl→Int
 | n,[]=>n
 | n,x::l=>PVl.ndL (addW n x.nd) l
end
theorem PVl.nd_eq (v:PVl):v.nd=PVl.ndL 1 v.args:=by cases v;rw [PVl.nd];rfl
theorem PVl.ndL_nil (n:Int):PVl.ndL n []=n:=by rw [PVl.ndL]
theorem PVl.ndL_cons (n:Int) (x:PVl) (l:List PVl):PVl.ndL n (x::l)=PVl.ndL (addW n x.nd) l:=by rw [PVl.ndL]
theorem IsVl.sz {a:Ty} {v:PVl} {t:Tm} (h:IsVl a v t):1≤tySz a:=by
 cases h with
 | num=>rw [tySz_nat];omega
 | list=>rw [tySz_list];omega
 | unit=>rw [tySz_unit];omega
 | pair=>rw [tySz_pair];omega
theorem IsVl.nd {a:Ty} {v:PVl} {t:Tm} (h:IsVl a v t):tySz a≤1000→v.nd=(tySz a:Int):=by
 induction h with
 | num n=>intro _;rw [tySz_nat];rfl
 | list l=>intro _;rw [tySz_list];rfl
 | unit=>intro _;rw [tySz_unit];rfl
 | pair _ _ h1 h2 =>
  intro hb
  rw [tySz_pair] at hb ⊢
  have z1:=h1 (by omega)
  have z2:=h2 (by omega)
  rw [PVl.nd_eq,PVl.args,PVl.ndL_cons,PVl.ndL_cons,PVl.ndL_nil,z1,z2]
  rw [addW_eq (a:=1) (by omega) (by omega) (by omega) (by omega),addW_eq (by omega) (by omega) (by omega) (by omega)]
  omega
theorem IsVl.W {a:Ty} {v:PVl} {t:Tm} (h:IsVl a v t):tmSz t≤4096→VlW v:=by
 induction h with
 | num n=>intro _;exact .mk _ _ _ _ (by simp) (by simp) (by simp)
 | list l=>intro hb;rw [listT_sz] at hb;have:=lsz_len l;exact .mk _ _ _ _ (by simp;omega) (by simp) (by simp)
 | unit=>intro _;exact .mk _ _ _ _ (by simp) (by simp) (by simp)
 | pair _ _ h1 h2 =>
  intro hb
  rw [tmSz_2] at hb
  exact .mk _ _ _ _ (by simp) (by simp) (by simp [h1 (by omega),h2 (by omega)])
end GoAbs
namespace GoAbs
open Go
def numP (n:Nat):PVl:=.mk 1 n [] []
def listP (l:List Nat):PVl:=.mk 2 0 (l.map fun (n:Nat)=>(n:Int)) []
def unitP:PVl:=.mk 4 0 [] []
def pairP (a b:PVl):PVl:=.mk 3 0 [] [a,b]
/-- What an iterator over values gives. -/
def rows (l:List PVl):List (List V):=l.map fun v=>[V.agg v.cells]
end GoAbs
namespace GoAbs
open Go
/-- What is read of a term, and whether it is one of a value. -/
inductive RdT:Tm→PVl→Bool→Prop
 | num (n:Nat):n≤4096→RdT (numT n) (numP n) true
 | list (l:List Nat):l.length≤1000→(∀ n∈l,n≤4096)→RdT (listT l) (listP l) true
 | unit:RdT (tm0 13 []) unitP true
 | lam (a:Ty) (x:Tm):RdT (tmT 2 a [x]) unitP false
 | pair {s t:Tm} {v w:PVl} {a b:Bool}:RdT s v a→RdT t w b→RdT (tm0 10 [s,t]) (pairP v w) (a&&b)
theorem RdT.W {t:Tm} {v:PVl} {b:Bool} (h:RdT t v b):VlW v:=by
 induction h with
 | num n _=>exact .mk _ _ _ _ (by simp) (by simp) (by simp)
 | list l hl _=>exact .mk _ _ _ _ (by simp;omega) (by simp) (by simp)
 | unit=>exact .mk _ _ _ _ (by simp) (by simp) (by simp)
 | lam=>exact .mk _ _ _ _ (by simp) (by simp) (by simp)
 | pair _ _ h1 h2=>exact .mk _ _ _ _ (by simp) (by simp) (by simp [h1,h2])
theorem numsT_rd {m:Nat} {x:Tm} (hx:x∈numsT m):∃ i,i≤m∧x=numT i:=by
 simp only [numsT,List.mem_map,List.mem_range] at hx
 obtain ⟨i,hi,rfl⟩:=hx
 exact ⟨i,by omega,rfl⟩
theorem listsT_rd {m:Nat} (hm:m≤16) {x:Tm} (hx:x∈listsT m):∃ v,RdT x v true:=by
 simp only [listsT,List.cons_append,List.mem_cons,List.mem_append,List.mem_map,List.mem_flatMap] at hx
 rcases hx with rfl|⟨a,ha,rfl⟩|⟨a,ha,b,hb,rfl⟩
 ·exact ⟨_,RdT.list [] (by simp) (by simp)⟩
 ·obtain ⟨i,hi,rfl⟩:=numsT_rd ha
  exact ⟨_,RdT.list [i] (by simp) (by simp;omega)⟩
 ·obtain ⟨i,hi,rfl⟩:=numsT_rd ha
  obtain ⟨j,hj,rfl⟩:=numsT_rd hb
  exact ⟨_,RdT.list [i,j] (by simp) (by simp;omega)⟩
theorem candN_rd {n:Nat} {t:Ty} (h:MkTy n t) {m:Nat} (hm:m≤16):∀ x∈candN (n+1) t m,∃ v b,RdT x v b:=by
 induction h with
 | nat =>
  intro x hx
  rw [candN_nat] at hx
  obtain ⟨i,hi,rfl⟩:=numsT_rd (List.mem_of_mem_take hx)
  exact ⟨_,_,.num i (by omega)⟩
 | list =>
  intro x hx
  rw [candN_list] at hx
  obtain ⟨v,hv⟩:=listsT_rd hm (List.mem_of_mem_take hx)
  exact ⟨v,_,hv⟩
 | unit =>
  intro x hx
  rw [candN_unit] at hx
  obtain rfl:=List.mem_singleton.1 hx
  exact ⟨_,_,.unit⟩
 | pair ha hb h1 h2 =>
  intro x hx
  rw [candN_pair] at hx
  rcases pairUp_mem (List.mem_of_mem_take hx) with h|⟨c,hc,d,hd,rfl⟩
  ·simp at h
  obtain ⟨v,a,k1⟩:=h1 c hc
  obtain ⟨w,b,k2⟩:=h2 d hd
  exact ⟨_,_,.pair k1 k2⟩
 | func ha hb h1 h2 =>
  intro x hx
  rw [candN_fun] at hx
  rcases List.mem_append.1 (List.mem_of_mem_take hx) with h|h
  ·split at h
   ·obtain rfl:=List.mem_singleton.1 h
    exact ⟨_,_,.lam _ _⟩
   ·simp at h
  ·obtain ⟨c,hc,rfl⟩:=List.mem_map.1 h
   exact ⟨_,_,.lam _ _⟩
theorem candN_num {n m:Nat} (hm:m≤16):candN (n+1) tNat m=numsT m:=by rw [candN_nat,List.take_of_length_le (by rw [numsT_len];omega)]
/-- A candidate of numbers at a place is the number of the place. -/
theorem candN_at {n m i:Nat} (hm:m≤16) {x:Tm} (h:(candN (n+1) tNat m)[i]? = some x):x=numT i:=by
 rw [candN_num hm] at h
 have hi:i<(numsT m).length:=(List.getElem?_eq_some_iff.1 h).1
 rw [numsT_len] at hi
 rw [numsT_get (by omega)] at h
 exact (Option.some.inj h).symm
/-- What the law asks of a candidate. -/
structure CandIs (t:Ty) (x:Tm) (i:Nat) (v:PVl) (b:Bool):Prop where
 ok:CandOk [] t 4096 x
 rd:RdT x v b
 num:t.kind=1→v=numP i∧b=true
theorem candN_is {n:Nat} (hn:n≤2) {t:Ty} (h:MkTy n t) (hz:tySz t≤20) {m i:Nat} (hm:m≤16) {x:Tm} (hx:(candN (n+1) t m)[i]? = some x) :
  ∃ v b,CandIs t x i v b:=by
 have hmem:x∈candN (n+1) t m:=List.mem_of_getElem? hx
 have hB:candB n≤4096:=by
  have:n=0∨n=1∨n=2:=by omega
  rcases this with rfl|rfl|rfl<;>simp [candB]
 have ok:=(candN_ok h hm hz (g:=[]) x hmem).up hB
 have nat:t=tNat→∃ v b,CandIs t x i v b:=by
  rintro rfl
  have e:=candN_at hm hx
  subst e
  have hi:i≤m:=by
   rw [candN_num hm] at hx
   have:=(List.getElem?_eq_some_iff.1 hx).1
   rw [numsT_len] at this
   omega
  exact ⟨_,_,ok,.num i (by omega),fun _=>⟨rfl,rfl⟩⟩
 have other:t.kind≠1→∃ v b,CandIs t x i v b:=by
  intro hk
  obtain ⟨v,b,hr⟩:=candN_rd h hm x hmem
  exact ⟨v,b,ok,hr,fun h1=>absurd h1 hk⟩
 cases h with
 | nat=>exact nat rfl
 | list=>exact other (by simp [tList,Ty.kind])
 | unit=>exact other (by simp [tUnit,Ty.kind])
 | pair=>exact other (by simp [tPair,Ty.kind])
 | func=>exact other (by simp [tFun,Ty.kind])
end GoAbs
namespace GoAbs
open Go
end GoAbs
namespace GoAbs
open Go
/-- All blocks may be written. -/
def G.free (g:G):G:=g.wrs fun _=>true
/-- What holds no cells is kept, but for some blocks. -/
def KO (L:Nat→Prop) (W0:World) (g:G) (w:World):Prop:=∀ b o,¬ L b→W0.heap[b]? = some o→o.isCells=false→w.heap[b]? = some o∧g.wr b=false
theorem KO.ext {L:Nat→Prop} {W0 w w':World} {g g':G} (x:Ext g w g' w') (k:KO L W0 g w):KO L W0 g' w':=fun b o h1 h2 h3=>by
 obtain ⟨k1,k2⟩:=k b o h1 h2 h3
 obtain ⟨x1,x2⟩:=x.wr b (Array.getElem?_eq_some_iff.1 k1).1 k2
 exact ⟨x1.trans k1,x2⟩
theorem KO.turn {L:Nat→Prop} {W0 w w':World} {g:G} {B:Nat} (hB:W0.heap.size≤B) (t:Turned B w w') (k:KO L W0 g w):KO L W0 (g.up B) w':=fun b o h1 h2 h3=>by
 obtain ⟨k1,k2⟩:=k b o h1 h2 h3
 have hb:=(Array.getElem?_eq_some_iff.1 h2).1
 refine ⟨(t.same b (by omega)).trans k1,?_⟩
 show (g.wr b||decide (B≤b))=false
 rw [k2];simp;omega
/-- Where a walk goes on, but for what is known of the world besides. -/
structure YC where
 F:Fence
 ds:List Deferred
 L:G→World→Prop
 E:Exit→Act→World→Prop
 Lo:Nat→Prop
 bd:Nat
def YC.at (y:YC) (X:G→World→Prop):XC:=⟨y.F,y.ds,fun g w=>X g w∧y.L g w,y.E⟩
structure YOk (c:Ctx) (y:YC):Prop where
 fn:∀ f,y.F.fn f
 dp:y.F.depth=none
 cl:∀ k args w R,Calls c.P k args w R→CallsIn y.F (0 - 1) c.P k args w R
 ci:∀ {n k args w R},CallsIn Fence.wide n c.P k args w R→CallsIn y.F n c.P k args w R
 ri:∀ {n l f tmps a b w R},RoundIn Fence.wide n c.P l f tmps a b w R→RoundIn y.F n c.P l f tmps a b w R
 ext:∀ g w g' w',Ext g w g' w'→y.L g w→y.L g' w'
 turn:∀ g W W' B,y.bd≤B→Turned B W W'→(∀ b,W.heap.size≤b→g.lim b=0)→y.L g W→y.L (g.up B) W'
 back:∀ g w g' w',(∀ b,c.g0.wr b=true)→y.L g w→Ext g.free w g' w'→(∀ b o,¬ y.Lo b→w.heap[b]? = some o→o.isCells=false→w'.heap[b]? = some o)→y.L (g'.dn w') w'
 size:∀ g w,y.L g w→y.bd≤w.heap.size
 lo:∀ b,y.Lo b→b<y.bd
/-- What is known of the world besides goes on. -/
structure XSt (bd:Nat) (X:G→World→Prop):Prop where
 ext:∀ g w g' w',Ext g w g' w'→X g w→X g' w'
 turn:∀ g W W' B,bd≤B→Turned B W W'→(∀ b,W.heap.size≤b→g.lim b=0)→X g W→X (g.up B) W'
/-- Who ranges over an iterator. -/
structure Cons where
 l:Nat
 bd:Nat
 L:Nat→Prop
 S:Id→Prop
 base:Id→Prop
 Y:Nat→G→World→H→Prop
 Z:G→World→H→Prop
structure After (C:Cons) (g:G) (W:World) (h:H) (g':G) (W':World) (h':H):Prop where
 ext:Ext g.free W g' W'
 same:∀ id,¬ C.S id→h id≠none→h' id=h id
 obj:∀ b o,¬ C.L b→W.heap[b]? = some o→o.isCells=false→W'.heap[b]? = some o
structure ConsOk (P:Program) (env:Nat→Option (List V)) (C:Cons) (vs:List (List V)):Prop where
 sub:∀ id,C.S id→C.base id
 lo:∀ b,C.L b→b<C.bd
 Yext:∀ i g w g' w' h,Ext g w g' w'→C.Y i g w h→C.Y i g' w' h
 Yh:∀ i g w h h',(∀ id,C.base id→h' id=h id)→C.Y i g w h→C.Y i g w h'
 Yt:∀ i g W W' h B,C.bd≤B→Turned B W W'→(∀ b,W.heap.size≤b→g.lim b=0)→C.Y i g W h→C.Y i (g.up B) W' h
 Ybd:∀ i g w h,C.Y i g w h→C.bd≤w.heap.size
 Zext:∀ g w g' w' h,Ext g w g' w'→C.Z g w h→C.Z g' w' h
 Zh:∀ g w h h',(∀ id,C.base id→h' id=h id)→C.Z g w h→C.Z g w h'
 Zt:∀ g W W' h B,C.bd≤B→Turned B W W'→(∀ b,W.heap.size≤b→g.lim b=0)→C.Z g W h→C.Z (g.up B) W' h
 round:∀ i vv (xs:List Value) g W h,vs[i]? = some vv→C.Y i g W h→Rel env g W h→xs.length=vv.length→(∀ (j:Nat) x v,xs[j]? = some x→vv[j]? = some v→RV g W x v) →
  YieldAt Fence.wide (0 - 1) P C.l xs.toArray W fun e W'=>∃ g' h',After C g W h g' W' h'∧Rel env g' W' h'∧((e=.returned (.bool true)∧C.Y (i+1) g' W' h')∨(e=.returned (.bool false)∧C.Z g' W' h'))
/-- What an iterator promises, at the values of its rounds. -/
def Iter (P:Program) (env:Nat→Option (List V)) (fv:V) (vs:List (List V)):Prop :=
 ∀ g w x,RV g w x fv→∃ gf lb,x=.func (.func gf) #[] lb∧Callable P gf ∧
  ∀ (C:Cons),ConsOk P env C vs→∀ g1 W1 h1,Ext g w g1 W1→Rel env g1 W1 h1→C.Y 0 g1 W1 h1→(∀ id,C.base id→h1 id≠none) →
   CallsIn Fence.wide 0 P gf (#[.func (.yield C.l) #[] #[]]++lb) W1 fun e W'=>(∃ v,e=.returned v)∧∃ g' h',After C g1 W1 h1 g' W' h'∧Rel env g' W' h'∧(C.Y vs.length g' W' h'∨C.Z g' W' h')
end GoAbs
namespace GoAbs
open Go
section
variable {c:Ctx} {y:YC} (hy:YOk c y) {σ:St} {ps:List Nat} {vs:List (List V)} {assign body:Code} {gen:Nat}
 (hps:∀ p∈ps,p<c.n) (hvv:∀ v∈vs,v.length=ps.length)
 (S:Id→Prop) (hS:∀ id,S id→σ.h id≠none)
 (J:Nat→(G→World→Prop)→H→Prop) (Jx:Option Nat→(G→World→Prop)→H→Prop)
 (hJX:∀ i X h,J i X h→XSt y.bd X) (hJxX:∀ i X h,Jx i X h→XSt y.bd X)
 (hJh:∀ i X h h',(∀ id,σ.h id≠none→h' id=h id)→J i X h→J i X h') (hJxh:∀ i X h h',(∀ id,σ.h id≠none→h' id=h id)→Jx i X h→Jx i X h')
 (hlim:∀ b,c.w0.heap.size≤b→c.g0.lim b=0)
 (hround:∀ (ya yb:YC) (gn i:Nat) (vv:List V) (hi:H) (X:G→World→Prop),YOk c ya→YOk c yb→(∃ l,ya.F=Fence.wide.inRound l∧yb.F=Fence.wide.inRound l∧∀ g w,yb.L g w→∃ r,w.heap[l]? = some (.loop r)) →
   ya.ds=[]→yb.ds=[]→ya.Lo=y.Lo→yb.Lo=y.Lo→XSt y.bd X→ya.bd=yb.bd→y.bd≤ya.bd→gen≤gn→vs[i]? = some vv→J i X hi→(∀ id,σ.h id≠none→hi id≠none) →
   (∀ X' σ' gn',XSt y.bd X'→ARX c (yb.at X') gn' [.code body] .normal σ'→ARX c (ya.at X') gn' [] .normal σ') →
   (∀ X' gn' σ',J (i+1) X' σ'.h→(∀ id,¬ S id→hi id≠none→σ'.h id=hi id)→ARX c (yb.at X') gn' [] .normal σ') →
   (∀ X' gn' id σ',Jx id X' σ'.h→(∀ id,¬ S id→hi id≠none→σ'.h id=hi id)→ARX c (yb.at X') gn' [] (jumpE id) σ') →
   ARX c (ya.at X) gn [.code assign] .normal ⟨updL σ.tm ps vv,hi⟩)
include hy hps hvv hS hJX hJxX hJh hJxh hlim hround
end
end GoAbs
set_option maxHeartbeats 400000
namespace GoAbs
open Go
theorem XSt.mono {bd bd':Nat} {X:G→World→Prop} (h:XSt bd X) (hle:bd≤bd'):XSt bd' X:=⟨h.ext,fun g W W' B hB=>h.turn g W W' B (Nat.le_trans hle hB)⟩
section
variable {c:Ctx} {y:YC} (hy:YOk c y) {σ:St} {ps:List Nat} {vs:List (List V)} {assign body:Code} {gen:Nat}
 (hps:∀ p∈ps,p<c.n) (hvv:∀ v∈vs,v.length=ps.length)
 (S:Id→Prop) (hS:∀ id,S id→σ.h id≠none)
 (J:Nat→(G→World→Prop)→H→Prop) (Jx:Option Nat→(G→World→Prop)→H→Prop)
 (hJX:∀ i X h,J i X h→XSt y.bd X) (hJxX:∀ i X h,Jx i X h→XSt y.bd X)
 (hJh:∀ i X h h',(∀ id,σ.h id≠none→h' id=h id)→J i X h→J i X h') (hJxh:∀ i X h h',(∀ id,σ.h id≠none→h' id=h id)→Jx i X h→Jx i X h')
 (hlim:∀ b,c.w0.heap.size≤b→c.g0.lim b=0)
 (hround:∀ (ya yb:YC) (gn i:Nat) (vv:List V) (hi:H) (X:G→World→Prop),YOk c ya→YOk c yb→(∃ l,ya.F=Fence.wide.inRound l∧yb.F=Fence.wide.inRound l∧∀ g w,yb.L g w→∃ r,w.heap[l]? = some (.loop r)) →
   ya.ds=[]→yb.ds=[]→ya.Lo=y.Lo→yb.Lo=y.Lo→XSt y.bd X→ya.bd=yb.bd→y.bd≤ya.bd→gen≤gn→vs[i]? = some vv→J i X hi→(∀ id,σ.h id≠none→hi id≠none) →
   (∀ X' σ' gn',XSt y.bd X'→ARX c (yb.at X') gn' [.code body] .normal σ'→ARX c (ya.at X') gn' [] .normal σ') →
   (∀ X' gn' σ',J (i+1) X' σ'.h→(∀ id,¬ S id→hi id≠none→σ'.h id=hi id)→ARX c (yb.at X') gn' [] .normal σ') →
   (∀ X' gn' id σ',Jx id X' σ'.h→(∀ id,¬ S id→hi id≠none→σ'.h id=hi id)→ARX c (yb.at X') gn' [] (jumpE id) σ') →
   ARX c (ya.at X) gn [.code assign] .normal ⟨updL σ.tm ps vv,hi⟩)
 {f:Nat} {k:List It} (hit:Iter c.P c.env (σ.tm f) vs) {X0:G→World→Prop} (h0:J 0 X0 σ.h)
include hy hps hvv hS hJX hJxX hJh hJxh hlim hround hit h0
end
end GoAbs
namespace GoAbs
open Go
section
variable {c:Ctx} {y:YC} (hy:YOk c y) (hfree:∀ b,c.g0.wr b=true) {C:Cons} {vs:List (List V)} (hC:ConsOk c.P c.env C vs) (hLo:∀ b,C.L b→y.Lo b) (hbd:C.bd≤y.bd)
include hy hfree hC hLo hbd
end
end GoAbs
namespace GoAbs
open Go
section
variable {c:Ctx} {y:YC} (hy:YOk c y) (hfree:∀ b,c.g0.wr b=true) {C:Cons} {vs:List (List V)} (hC:ConsOk c.P c.env C vs) (hLo:∀ b,C.L b→y.Lo b) (hbd:C.bd≤y.bd)
include hy hfree hC hLo hbd
end
end GoAbs
