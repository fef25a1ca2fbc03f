/-
 The abstract layer: plain laws, further ones.
-/
import Derived.Test.YteaijonkbbkkjaaGreatDoorAbsDb
import Derived.Test.YteaijonkbbkkjaaGreatDoorAbsD
import Derived.Test.YteaijonkbbkkjaaGreatDoorAbsB
set_option linter.unusedSimpArgs false
set_option linter.unusedVariables false
set_option linter.unusedSectionVars false
namespace GoAbs
open Go
def FzP (id:Id) (cs:List V) (v v':V):Prop:=v'=.undef∨v'=v∨∃ off,v=.ptr id off∧v'=.el cs off
theorem AR_freezeP {c:Ctx} {gen:Nat} {k:List It} {e:Exit} {σ:St} (id:Id) {cs:List V} {tm':Nat→V} {h':H}
  (hrel0:Rel c.env c.g0 c.w0 c.h0) (hb:σ.h id=some (.box cs)) (hrin:InL (fun j=>h' j≠none) cs) (hid:h' id=none)
  (hh:∀ j,h' j≠none→(h' j=σ.h j∧∀ bs,h' j=some (.box bs)→c.h0 j=some (.box bs)) ∨
   ∃ bs bs',σ.h j=some (.box bs)∧h' j=some (.box bs')∧bs.length=bs'.length∧(∀ (i:Nat) v v',bs[i]? = some v→bs'[i]? = some v'→FzP id cs v v')∧InL (fun j=>h' j≠none) bs')
  (hdom:∀ j,c.h0 j≠none→h' j≠none) (htm:∀ t,FzP id cs (σ.tm t) (tm' t)∧InV (fun j=>h' j≠none) (tm' t))
  (h:AR c gen k e ⟨tm',h'⟩):AR c gen k e σ:=by
 intro ok hm g a w hx r
 have q:=r.rel
 obtain ⟨vs,⟨ty,b1⟩,b2,b3,b4,b5⟩:=q.box id cs hb
 let g':G:={ g with dom:=fun j=>decide (h' j≠none),lim:=fun b=>if b=g.loc id then cs.length else g.lim b }
 have hl:∀ b,g.lim b≤g'.lim b:=fun b=>by
  show g.lim b≤if b=g.loc id then cs.length else g.lim b
  split
  ·rename_i e;rw [e,b4];omega
  ·exact Nat.le_refl _
 have hlo:∀ b,b≠g.loc id→g'.lim b=g.lim b:=fun b hb=>by show (if b=g.loc id then _ else g.lim b)=_;rw [if_neg hb]
 have hS:∀ j,h' j≠none→g'.dom j=true∧g'.loc j=g.loc j∧g'.buf j=g.buf j:=fun j hj=>⟨by show decide (h' j≠none)=true;simpa using hj,rfl,rfl⟩
 have hmv:∀ {c:Value} {v:V},RV g w c v→InV (fun j=>h' j≠none) v→RV g' w c v:=fun h1 h2=>h1.freeze hl hS h2
 have hsame:∀ j,h' j≠none→∃ ob,σ.h j=some ob:=fun j hj=>by
  rcases hh j hj with ⟨h1,_⟩|⟨bs,bs',h1,_⟩
  ·rw [← h1];cases hj':h' j with
   | none=>exact absurd hj' hj
   | some ob=>exact ⟨ob,rfl⟩
  ·exact ⟨_,h1⟩
 have hx':Ext c.g0 c.w0 g' w:=by
  refine ⟨hx.os,hx.tape,hx.output,hx.size,fun b=>Nat.le_trans (hx.lim b) (hl b),hx.cells,hx.wr,fun j hj=>?_,hx.top⟩
  obtain ⟨_,a2,a3⟩:=hx.dom j hj
  exact ⟨by show decide (h' j≠none)=true;simpa using hdom j ((hrel0.dom j).1 hj),a2,a3⟩
 have hrow:∀ off,RV g' w (.pointer (some ⟨g.loc id,off,none⟩)) (.el cs off):=fun off=>by
  have:RV g' w (.pointer (some ⟨g.loc id,0+off,none⟩)) (.el cs off):=by
   refine .el _ 0 cs off (fun i=>vs[i]?.getD undef) ?_ (fun i hi=>?_) (fun i v hv=>?_)
   ·show 0+_≤if g.loc id=g.loc id then cs.length else _
    rw [if_pos rfl];omega
   ·rw [Nat.zero_add]
    have:i<vs.size:=by omega
    simp [World.cell?,b1,this]
   ·obtain ⟨c0,hc1,hc2⟩:=(show RVL g w vs cs from ⟨b2,b3⟩).at hv
    simp only [hc1,Option.getD_some]
    exact hmv hc2 (InL_get hrin hv)
  rwa [Nat.zero_add] at this
 have hfz:∀ {cv:Value} {v v':V},RV g w cv v→FzP id cs v v'→InV (fun j=>h' j≠none) v'→RV g' w cv v':=by
  intro cv v v' h1 h2 h3
  rcases h2 with rfl|rfl|⟨off,rfl,rfl⟩
  ·exact .undef _
  ·exact hmv h1 h3
  ·cases h1 with
   | ptr _ _ _=>exact hrow off
 have hboxes:∀ j bs',h' j=some (.box bs')→∃ bs,σ.h j=some (.box bs)∧bs.length=bs'.length∧∀ (vs:Array Value),RVL g w vs bs→RVL g' w vs bs':=by
  intro j bs' e'
  rcases hh j (by rw [e'];simp) with ⟨h1,h2⟩|⟨bs,bs2,h1,h2,h3,h4,h5⟩
  ·have h0:=h2 bs' e'
   refine ⟨bs',by rw [← h1];exact e',rfl,fun vs hv=>⟨hv.1,fun i cv v hc hv'=>hmv (hv.2 i cv v hc hv') ?_⟩⟩
   obtain ⟨vs0,_,z2,z3,_⟩:=hrel0.box j bs' h0
   obtain ⟨c0,hc0⟩:=RVL_get (g:=c.g0) (w:=c.w0) z2 hv'
   have:=(z3 i c0 v hc0 hv').inV
   exact InV_mono (fun id hid=>hdom id ((hrel0.dom id).1 hid)) v this
  ·rw [e'] at h2;cases h2
   refine ⟨bs,h1,h3,fun vs hv=>⟨by rw [hv.1,h3],fun i cv v hc hv'=>?_⟩⟩
   have hi:i<bs.length:=by rw [h3];exact (List.getElem?_eq_some_iff.1 hv').1
   have hbi:bs[i]? = some bs[i]:=List.getElem?_eq_getElem hi
   exact hfz (hv.2 i cv _ hc hbi) (h4 i _ _ hbi hv') (InL_get h5 hv')
 have hne:∀ j bs',h' j=some (.box bs')→g.loc j≠g.loc id:=fun j bs' e' e2=>by
  obtain ⟨bs,h1,_⟩:=hboxes j bs' e'
  have:=q.inj j id bs cs h1 hb e2
  rw [this,hid] at e';cases e'
 have htok:∀ j n' k',h' j=some (.tok n' k')→σ.h j=some (.tok n' k'):=fun j n' k' e'=>by
  rcases hh j (by rw [e'];simp) with ⟨h1,_⟩|⟨bs,bs2,_,h2,_⟩
  ·rw [← h1];exact e'
  ·rw [e'] at h2;cases h2
 refine h ok hm g' a w hx' ⟨?_,fun t=>?_,r.size,r.defers⟩
 ·refine ⟨fun j=>by show decide (h' j≠none)=true↔_;simp,fun j hj=>?_,?_,?_,?_,?_,?_,?_,?_⟩
  ·obtain ⟨ob,ho⟩:=hsame j hj
   exact q.top j (by rw [ho];simp)
  ·intro j bs' e'
   obtain ⟨bs,h1,h2,h3⟩:=hboxes j bs' e'
   obtain ⟨vs',c1,c2,c3,c4,c5⟩:=q.box j bs h1
   have:=h3 vs' ⟨c2,c3⟩
   exact ⟨vs',c1,this.1,this.2,by show g'.lim (g.loc j)=0;rw [hlo _ (hne j bs' e')];exact c4,c5⟩
  ·intro i1 i2 c1 c2 e1 e2 e3
   obtain ⟨d1,f1,_⟩:=hboxes i1 c1 e1
   obtain ⟨d2,f2,_⟩:=hboxes i2 c2 e2
   exact q.inj i1 i2 d1 d2 f1 f2 e3
  ·intro j n' k' e'
   obtain ⟨h1,h2,h3,hk⟩:=q.tok j n' k' (htok j n' k' e')
   refine ⟨h1,h2,fun hlt=>?_,hk⟩
   obtain ⟨b,off,vs',s1,s2,s3,s4,s5⟩:=h3 hlt
   have:=q.apart j id n' k' cs (htok j n' k' e') hlt hb _ s1
   exact ⟨b,off,vs',s1,s2,s3,by rw [hlo b this];exact s4,s5⟩
  ·intro i1 i2 n' k' c' e1 hlt e2
   obtain ⟨d2,f2,_⟩:=hboxes i2 c' e2
   exact q.apart i1 i2 n' k' d2 (htok i1 n' k' e1) hlt f2
  ·intro i1 i2 n1 n2 k1 k2 e1 hlt e2 hlt2
   exact q.apart2 i1 i2 n1 n2 k1 k2 (htok _ _ _ e1) hlt (htok _ _ _ e2) hlt2
  ·intro b hb'
   rw [hlo b (by have:=q.lt hb;omega)];exact q.limnew b hb'
  ·intro k cs' e'
   refine hmv (q.glob k cs' e') ?_
   have:=(hrel0.glob k cs' e').inV
   exact InV_mono (fun id hid=>hdom id ((hrel0.dom id).1 hid)) _ this
 ·exact hfz (r.tm t) (htm t).1 (htm t).2
theorem AR_freezePL {c:Ctx} {gen:Nat} {k:List It} {e:Exit} {σ:St} (id:Id) (L:List (Nat × V)) (B:List (Id × List V × List V)) {cs:List V} {h':H} {tm':Nat→V}
  (hh':h'=B.foldr (fun b h=>hset h b.1 (.box b.2.2)) c.h0) (htm':tm'=L.foldr (fun p tm=>upd tm (some p.1) p.2) (fun _=>.undef))
  (hrel0:Rel c.env c.g0 c.w0 c.h0) (hb:σ.h id=some (.box cs)) 
  (h0:c.h0 id=none) (hnot:∀ b∈B,b.1≠id) (hag:Agree c.h0 σ.h)
  (hrin:InL (fun j=>h' j≠none) cs)
  (hB:∀ b∈B,c.h0 b.1=none∧σ.h b.1=some (.box b.2.1)∧b.2.1.length=b.2.2.length∧(∀ p∈b.2.1.zip b.2.2,FzP id cs p.1 p.2)∧InL (fun j=>h' j≠none) b.2.2)
  (hL:∀ p∈L,FzP id cs (σ.tm p.1) p.2∧InV (fun j=>h' j≠none) p.2)
  (h:AR c gen k e ⟨tm',h'⟩):AR c gen k e σ:=by
 have key:∀ (B':List (Id × List V × List V)) (j:Id),(B'.foldr (fun b h=>hset h b.1 (.box b.2.2)) c.h0) j=c.h0 j∨∃ b∈B',b.1=j∧(B'.foldr (fun b h=>hset h b.1 (.box b.2.2)) c.h0) j=some (.box b.2.2):=by
  intro B' j
  induction B' with
  | nil=>exact .inl rfl
  | cons b B' ih =>
   by_cases hj:j=b.1
   ·right;exact ⟨b,by simp,hj.symm,by simp only [List.foldr_cons];rw [hj,hset_same]⟩
   ·simp only [List.foldr_cons]
    rw [hset_other hj]
    rcases ih with h|⟨b',h1,h2,h3⟩
    ·exact .inl h
    ·exact .inr ⟨b',by simp [h1],h2,h3⟩
 have keyT:∀ (L':List (Nat × V)) (t:Nat),(L'.foldr (fun p tm=>upd tm (some p.1) p.2) (fun _=>V.undef)) t=.undef∨∃ p∈L',p.1=t∧(L'.foldr (fun p tm=>upd tm (some p.1) p.2) (fun _=>V.undef)) t=p.2:=by
  intro L' t
  induction L' with
  | nil=>exact .inl rfl
  | cons p L' ih =>
   simp only [List.foldr_cons,upd]
   by_cases ht:t=p.1
   ·right;exact ⟨p,by simp,ht.symm,by rw [if_pos ht]⟩
   ·rw [if_neg ht]
    rcases ih with h|⟨b',h1,h2,h3⟩
    ·exact .inl h
    ·exact .inr ⟨b',by simp [h1],h2,h3⟩
 refine AR_freezeP id hrel0 hb hrin ?_ ?_ ?_ ?_ h
 ·rcases key B id with h1|⟨b,h1,h2,_⟩
  ·rw [hh',h1];exact h0
  ·exact absurd h2 (hnot b h1)
 ·intro j hj
  rcases key B j with h1|⟨b,h1,h2,h3⟩
  ·left
   have e1:h' j=c.h0 j:=by rw [hh'];exact h1
   rw [e1] at hj ⊢
   exact ⟨(hag j hj).symm,fun bs hbs=>hbs⟩
  ·right
   obtain ⟨_,b1,b2,b3,b4⟩:=hB b h1
   subst h2
   refine ⟨_,_,b1,by rw [hh'];exact h3,b2,fun i v v' hv hv'=>?_,b4⟩
   refine b3 (v,v') ?_
   have:(b.2.1.zip b.2.2)[i]? = some (v,v'):=by rw [List.getElem?_zip_eq_some];exact ⟨hv,hv'⟩
   exact List.mem_of_getElem? this
 ·intro j hj
  rcases key B j with h1|⟨b,h1,h2,h3⟩
  ·rw [hh',h1];exact hj
  ·rw [hh',h3];simp
 ·intro t
  rcases keyT L t with h1|⟨p,h1,h2,h3⟩
  ·rw [htm',h1];exact ⟨.inl rfl,by rw [InV];trivial⟩
  ·subst h2
   rw [htm',h3];exact hL p h1
/- Content types. -/
/- realize. -/
theorem FmG.qk {u:Bool} {k:Int} (hk:k=4∨k=5∨(u=true∧(k=6∨k=7))):k=4∨k=5∨k=6∨k=7:=by
 rcases hk with h|h|⟨_,h|h⟩<;>simp [h]
theorem below_q {k:Int} (hk:k=4∨k=5∨k=6∨k=7):fmBelow k=1:=by rcases hk with rfl|rfl|rfl|rfl<;>rfl
theorem fdp_q {k:Int} {t:Ty} {a:Fm}:fdp (fmQ k t a)=fdp a+1:=by simp [fmQ,fdp,fdpL]
/- Existential quantifiers are counted. -/
mutual
def Fm.rv (F:Tm→Int→Tm):Fm→Int→Fm
 | .mk k t l a,b=>.mk k t (l.map fun x=>F x b) (Fm.rvL F a (evB k b))
def Fm.rvL (F:Tm→Int→Tm):List Fm→Int→List Fm
 | [],_=>[]
 | t::l,b=>t.rv F b::Fm.rvL F l b
end
theorem Fm.rvL_map {F:Tm→Int→Tm}:∀ (l:List Fm) (b:Int),Fm.rvL F l b=l.map fun t=>t.rv F b
 | [],b=>by simp [Fm.rvL]
 | t::l,b=>by simp [Fm.rvL,Fm.rvL_map l b]
theorem Fm.rv_eq (F:Tm→Int→Tm) (f:Fm) (b:Int):f.rv F b=.mk f.kind f.type (f.terms.map fun x=>F x b) (f.args.map fun x=>x.rv F (evB f.kind b)):=by
 cases f;rw [Fm.rv,Fm.rvL_map];rfl
/- The context of a sequent, and the places of its hypotheses. -/
mutual
def Fm.sm (F:Tm→Int→Int):Fm→Int→Int→Int
 | .mk k _ l a,b,n=>Fm.smL F a (evB k b) (l.foldl (fun n t=>addW n (F t b)) n)
def Fm.smL (F:Tm→Int→Int):List Fm→Int→Int→Int
 | [],_,n=>n
 | f::l,b,n=>Fm.smL F l b (f.sm F b n)
end
theorem Fm.smL_fold {F:Tm→Int→Int}:∀ (l:List Fm) (b n:Int),Fm.smL F l b n=l.foldl (fun n f=>f.sm F b n) n
 | [],b,n=>by simp [Fm.smL]
 | t::l,b,n=>by simp [Fm.smL,Fm.smL_fold l b]
theorem Fm.sm_eq (F:Tm→Int→Int) (f:Fm) (b n:Int):f.sm F b n=f.args.foldl (fun n x=>x.sm F (evB f.kind b) n) (f.terms.foldl (fun n t=>addW n (F t b)) n):=by
 cases f;rw [Fm.sm,Fm.smL_fold];rfl
theorem foldl_take_succ {α:Type} {g:Int→α→Int} {l:List α} {i:Nat} {x:α} (h:l[i]? = some x) (n:Int):(l.take (i+1)).foldl g n=g ((l.take i).foldl g n) x:=by
 rw [List.take_add_one,h];simp
theorem TmG.rb_put {s:Tm} (hs:TmG s) (zs:tmSz s≤5000) (ls:s.least 536870912=true) {a:Int} (ha0:0≤a) (ha:a≤100000):∀ (n:Nat) {t:Tm},TmG t→tmSz t≤n→t.least 1000000000=true→∀ d:Int,0≤d→d+n≤100000 →
  t.rb (putG a s) d=tmInn s 0 t (a+d)
 | 0,t,h,hn,_,_,_,_=>by have:=tmSz_pos t;omega
 | n + 1,t,h,hn,hl,d,h0,hd=>by
  revert hn hl
  have e0:addW 0 (a+d)=a+d:=by rw [addW_eq (by omega) (by omega) (by omega) (by omega)];omega
  refine h.cases' (p:=fun t=>tmSz t≤n+1→t.least 1000000000=true→t.rb (putG a s) d=tmInn s 0 t (a+d)) ?_ ?_
  ·intro i hi _ hl
   have hi2:=var_j hl
   rw [tmVar,Tm.rb,tmInn,e0]
   simp only [beq_self_eq_true,if_true,putG]
   rw [subW_eq (by omega) (by omega) (by omega) (by omega),addW_eq (a:=a) (by omega) (by omega) (by omega) (by omega)]
   have e1:(i - d==a)=(i==a+d):=by
    by_cases h:i=a+d
    ·have h1:(i==a+d)=true:=by simpa using h
     rw [h1];simp;omega
    ·have h1:(i==a+d)=false:=by simpa using h
     rw [h1];simp;omega
   have e2:decide (i - d>a)=decide (i>a+d):=by
    by_cases h:i>a+d
    ·rw [decide_eq_true h,decide_eq_true (by omega)]
    ·rw [decide_eq_false h,decide_eq_false (by omega)]
   rw [e1,e2,tLift_up hs zs ls (by omega) (by omega) (by omega) (by omega)]
   rfl
  ·intro k ty l hk _ hg _ hn hl
   rw [tmSz] at hn
   rw [Tm.least,Bool.and_eq_true] at hl
   have hr:=tmBelow_range k
   have e:addW (a+d) (tmBelow k)=a+(d+tmBelow k):=by rw [addW_eq (by omega) (by omega) (by omega) (by omega)];omega
   rw [Tm.rb,Tm.rbL_map,tmInn,tmInnL_map,hk,e,below_eq h0 (by omega)]
   simp only [Bool.false_eq_true,if_false]
   congr 1
   refine List.map_congr_left fun y hy=>?_
   exact TmG.rb_put hs zs ls ha0 ha n (hg y hy) (by have:=tmSzL_mem hy;omega) (Tm.leastL_iff.1 hl.2 y hy) _ (by omega) (by omega)
theorem tPut_inn {s t:Tm} (hs:TmG s) (zs:tmSz s≤5000) (ls:s.least 536870912=true) (ht:TmG t) (zt:tmSz t≤5000) (lt:t.least 536870912=true) {a:Int} (ha0:0≤a) (ha:a≤50000):tPut t a s=tmInn s 0 t a:=by
 have:=TmG.rb_put hs zs ls ha0 (by omega:a≤100000) _ ht (Nat.le_refl _) (least_mono (by omega) _ lt) 0 (by omega) (by omega)
 rw [Int.add_zero] at this
 exact this
theorem rv_put {u:Bool} {s:Tm} (hs:TmG s) (zs:tmSz s≤5000) (ls:s.least 536870912=true) {f:Fm} (h:FmG u f):fmSz f≤5000→f.least 536870912=true→∀ d:Int,0≤d→d+fmSz f≤50000 →
  f.rv (fun t b=>tPut t (addW 0 b) s) d=fmInn s 0 f d:=by
 induction h with
 | @eq x y hx hy =>
  intro hz hl d h0 hd
  rw [fmSz_eq] at hd hz
  obtain ⟨l1,l2⟩:=fleast_eq.1 hl
  rw [fmInn_eqn,fmEq,Fm.rv_eq]
  simp only [Fm.kind,Fm.terms,Fm.args,Fm.type,List.map_cons,List.map_nil]
  rw [addW_z h0 (by omega),tPut_inn hs zs ls hx (by omega) l1 h0 (by omega),tPut_inn hs zs ls hy (by omega) l2 h0 (by omega)]
  rfl
 | @two k p q hk _ _ h1 h2 =>
  intro hz hl d h0 hd
  rw [fmSz_two] at hd hz
  obtain ⟨l1,l2⟩:=fleast_parts2 hl
  rw [fmInn_two,fmTwo,Fm.rv_eq]
  simp only [Fm.kind,Fm.terms,Fm.args,Fm.type,List.map_cons,List.map_nil]
  rw [evB_eq h0 (by omega),below_two hk,Int.add_zero,addW_zero h0 (by omega),h1 (by omega) l1 d h0 (by omega),h2 (by omega) l2 d h0 (by omega)]
  rfl
 | @q k t p hk hs' _ h1 =>
  intro hz hl d h0 hd
  rw [fmSz_q] at hd hz
  rw [fmInn_q,fmQ,Fm.rv_eq]
  simp only [Fm.kind,Fm.terms,Fm.args,Fm.type,List.map_cons,List.map_nil]
  rw [evB_eq h0 (by omega),below_q (FmG.qk hk),addW_eq (by omega) (by omega) (by omega) (by omega),h1 (by omega) (fleast_part hl) _ (by omega) (by omega)]
  rfl
theorem sm_occ {u:Bool} {f:Fm} (h:FmG u f):fmSz f≤5000→f.least 536870912=true→∀ (d:Int) (n:Nat),0≤d→d+fmSz f≤50000→n+fmSz f≤50000 →
  f.sm (fun t b=>t.count (addW 0 b)) d (n:Int)=((n+fmOcc f d:Nat):Int):=by
 induction h with
 | @eq x y hx hy =>
  intro hz hl d n h0 hd hn
  rw [fmSz_eq] at hd hz hn
  obtain ⟨l1,l2⟩:=fleast_eq.1 hl
  have o1:=tmOcc_le x d
  have o2:=tmOcc_le y d
  rw [Fm.sm_eq,fmOcc_eq,fmEq]
  simp only [Fm.kind,Fm.terms,Fm.args,List.foldl_cons,List.foldl_nil]
  rw [addW_z h0 (by omega),hx.count_occ (by omega) (least_mono (by omega) _ l1) h0 (by omega),hy.count_occ (by omega) (least_mono (by omega) _ l2) h0 (by omega),
   addW_eq (a:=(n:Int)) (by omega) (by omega) (by omega) (by omega),addW_eq (by omega) (by omega) (by omega) (by omega)]
  omega
 | @two k p q hk _ _ h1 h2 =>
  intro hz hl d n h0 hd hn
  rw [fmSz_two] at hd hz hn
  obtain ⟨l1,l2⟩:=fleast_parts2 hl
  have o1:=fmOcc_le p d
  rw [Fm.sm_eq,fmOcc_two hk,fmTwo]
  simp only [Fm.kind,Fm.terms,Fm.args,List.foldl_cons,List.foldl_nil]
  rw [evB_eq h0 (by omega),below_two hk,Int.add_zero,h1 (by omega) l1 d n h0 (by omega) (by omega),h2 (by omega) l2 d _ h0 (by omega) (by omega)]
  omega
 | @q k t p hk hs' _ h1 =>
  intro hz hl d n h0 hd hn
  rw [fmSz_q] at hd hz hn
  rw [Fm.sm_eq,fmOcc_q (FmG.qk hk),fmQ]
  simp only [Fm.kind,Fm.terms,Fm.args,List.foldl_cons,List.foldl_nil]
  rw [evB_eq h0 (by omega),below_q (FmG.qk hk),h1 (by omega) (fleast_part hl) _ n (by omega) (by omega) (by omega)]
theorem HasTy.least {g:List Ty} {t:Tm} {s:Ty} (h:HasTy TyG g t s):∀ M:Int,1≤M→(g.length:Int)+tmSz t≤M→t.least M=true:=by
 induction h with
 | var hi h=>intro M hM hb;rw [tmSz_v] at hb;exact least_v (by omega)
 | lam hG _ ih=>intro M hM hb;rw [tmSz_T1] at hb;exact least_T1 hM (ih M hM (by simp;omega))
 | n0 hN=>intro M hM hb;exact least_mk (by omega) (by simp)
 | n1 hN _ ih=>intro M hM hb;rw [tmSz_T1] at hb;exact least_T1 hM (ih M hM (by omega))
 | n2 hN _ _ ih1 ih2=>intro M hM hb;rw [tmSz_T2] at hb;exact least_mk (by omega) (by simp [ih1 M hM (by omega),ih2 M hM (by omega)])
 | n3 hN _ _ _ ih1 ih2 ih3=>intro M hM hb;rw [tmSz_T3] at hb;exact least_T3 hM (ih1 M hM (by omega)) (ih2 M hM (by omega)) (ih3 M hM (by omega))
theorem TmG.toW {t:Tm} (h:TmG t):TmW t:=by
 induction h with
 | @plain k l a ha hl ht _ ih =>
  refine tm0_W ?_ ih
  have:a≤3:=by
   unfold arity at ha
   split at ha
   ·cases ha
   ·rename_i hk
    have:k=1∨k=2∨k=3∨k=4∨k=5∨k=6∨k=7∨k=8∨k=9∨k=10∨k=11∨k=12∨k=13:=by omega
    rcases this with rfl|rfl|rfl|rfl|rfl|rfl|rfl|rfl|rfl|rfl|rfl|rfl|rfl<;>simp [arities] at ha<;>omega
  omega
 | var=>exact tmVar_W _
 | @typd k t l a ha hl ht hg _ ih =>
  have:a≤3:=by
   unfold arity at ha
   split at ha
   ·cases ha
   ·rename_i hk
    have:k=1∨k=2∨k=3∨k=4∨k=5∨k=6∨k=7∨k=8∨k=9∨k=10∨k=11∨k=12∨k=13:=by omega
    rcases this with rfl|rfl|rfl|rfl|rfl|rfl|rfl|rfl|rfl|rfl|rfl|rfl|rfl<;>simp [arities] at ha<;>omega
  exact .mk _ _ _ _ hg.1.W (by omega) ih
theorem FmG.toW {u:Bool} {f:Fm} (h:FmG u f):FmW f:=by
 induction h with
 | eq hx hy=>exact fmEq_W hx.toW hy.toW
 | two hk _ _ h1 h2=>exact .mk _ _ _ _ tZero_W (by simp) (by simp) (by simp) (by simp [h1,h2])
 | q hk hs _ h1=>exact .mk _ _ _ _ hs.1.W (by simp) (by simp) (by simp) (by simp [h1])
inductive Dc:List Ty→Fm→Prop
 | eq {g:List Ty} {x y:Tm}:TmG x→TmG y→HasTy TyG g x tNat→HasTy TyG g y tNat→Dc g (fmEq x y)
 | two {g:List Ty} {k:Int} {a b:Fm} (hk:k=2∨k=3):Dc g a→Dc g b→Dc g (fmTwo k a b)
 | bnd {g:List Ty} {all:Bool} {q:Tm} {a:Fm}:TmG q→HasTy TyG (g++[tNat]) q tNat→tmOcc q 0=0→Dc (g++[tNat]) a→Dc g (bndF all q a)
theorem Dc.G {u:Bool} {g:List Ty} {f:Fm} (h:Dc g f):FmG u f:=by
 induction h with
 | eq h1 h2 _ _=>exact .eq h1 h2
 | two hk _ _ h1 h2=>exact .two hk h1 h2
 | bnd hq _ _ _ h1=>exact bndF_G hq h1
theorem bnd_sz {all:Bool} {q:Tm} {a:Fm}:fmSz (bndF all q a)=tmSz q+fmSz a+24:=by
 rw [bndF_sz]
theorem Dc.ty {g:List Ty} {f:Fm} (h:Dc g f):FmTy TyG g f:=by
 induction h with
 | eq _ _ h1 h2=>exact .eq h1 h2
 | two hk _ _ h1 h2=>exact .two hk h1 h2
 | bnd _ hq _ _ h1=>exact bnd_ty' hq h1
theorem Dc.least {g:List Ty} {f:Fm} (h:Dc g f):(g.length:Int)+fmSz f≤100000→f.least 536870912=true:=by
 induction h with
 | eq _ _ h1 h2 =>
  intro hb
  rw [fmSz_eq] at hb
  exact fleast_eq.2 ⟨h1.least _ (by omega) (by omega),h2.least _ (by omega) (by omega)⟩
 | two hk _ _ h1 h2 =>
  intro hb
  rw [fmSz_two] at hb
  exact fleast_two (h1 (by omega)) (h2 (by omega))
 | @bnd g all q a _ hq _ _ h1 =>
  intro hb
  rw [bnd_sz] at hb
  have hl:q.least 536870912=true:=hq.least _ (by omega) (by simp;omega)
  have hless:(lessF (tmVar 0) q).least 536870912=true :=
   least_eqn (least_2 (by omega) (least_2 (by omega) (least_sub (by omega)) (least_1 (by omega) (least_v (by omega)))) hl) (least_0 (by omega))
  exact least_q (least_two hless (h1 (by simp;omega)))
theorem bnd_inn {s:Tm} {all:Bool} {q:Tm} {a:Fm} {d:Int} (hd:0≤d) (hd2:d≤100000) :
  fmInn s 0 (bndF all q a) d=bndF all (tmInn s 0 q (d+1)) (fmInn s 0 a (d+1)):=by
 have e0:addW (d+1) (tmBelow 3)=d+1:=addW_zero (by omega) (by omega)
 have hb:fmBelow (if all then 4 else 5)=1:=by cases all<;>rfl
 have hb2:fmBelow (if all then 3 else 2)=0:=by cases all<;>rfl
 unfold bndF lessF
 rw [fmInn_q,hb,addW_eq (by omega) (by omega) (by omega) (by omega),fmInn_two,hb2,addW_zero (by omega) (by omega),fmInn_eqn,inn_tm0 rfl,e0,inn_tm0 rfl]
 simp only [List.map_cons,List.map_nil]
 rw [inn_cl 19 _ (by rw [left_sz];omega) 1 (d+1) left_cl (by omega) (by omega) (by omega)]
theorem Dc.inn {s:Tm} (gs:TmG s) (ts:HasTy TyG [] s tNat) (zs:tmSz s≤4096) {g':List Ty} {f:Fm} (h:Dc g' f):∀ l:List Ty,g'=[tNat]++l→l.length+fmSz f≤10000→Dc l (fmInn s 0 f (l.length:Int)):=by
 have ls:s.least 536870912=true:=ts.least _ (by omega) (by simp;omega)
 induction h with
 | @eq g x y gx gy h1 h2 =>
  intro l e hb
  rw [fmSz_eq] at hb
  subst e
  rw [fmInn_eqn]
  have lx:x.least 536870912=true:=h1.least _ (by omega) (by simp;omega)
  have ly:y.least 536870912=true:=h2.least _ (by omega) (by simp;omega)
  exact .eq (TmG.inn gs ls _ gx (Nat.le_refl _) lx _ (by omega) (by omega)) (TmG.inn gs ls _ gy (Nat.le_refl _) ly _ (by omega) (by omega))
   (h1.inn [] l rfl ts (by omega) (by simp;omega)) (h2.inn [] l rfl ts (by omega) (by simp;omega))
 | @two g k a b hk _ _ ih1 ih2 =>
  intro l e hb
  rw [fmSz_two] at hb
  rw [fmInn_two,below_two hk,addW_zero (by omega) (by omega)]
  exact .two hk (ih1 l e (by omega)) (ih2 l e (by omega))
 | @bnd g all q a gq hq oq _ ih =>
  intro l e hb
  rw [bnd_sz] at hb
  subst e
  rw [bnd_inn (by omega) (by omega)]
  have lq:q.least 536870912=true:=hq.least _ (by omega) (by simp;omega)
  have e1:((l.length:Int)+1)=((l++[tNat]).length:Int):=by simp
  refine .bnd ?_ ?_ ?_ ?_
  ·exact TmG.inn gs ls _ gq (Nat.le_refl _) lq _ (by omega) (by omega)
  ·rw [e1];exact hq.inn [] (l++[tNat]) (by simp) ts (by simp;omega) (by simp;omega)
  ·rw [TmG.inn_occ gs (by omega) (least_mono (by omega) _ ls) _ gq (Nat.le_refl _) (least_mono (by omega) _ lq) _ 0 (by omega) (by omega) (by omega)];exact oq
  ·rw [e1];exact ih (l++[tNat]) (by simp) (by simp;omega)
def evN (m:Nat) (t:Tm):Nat × Nat × Bool:=match ev m (m+1) 0 t [] with|some (r,u,o)=>(r.num,u,o)|none=>(0,0,true)
theorem evN_at {m:Nat} {t:Tm} (ht:HasTy TyG [] t tNat):∃ r u o,ev m (m+1) 0 t []=some (r,u,o)∧evN m t=(r.num,u,o)∧u≤m:=by
 obtain ⟨r,u,o,h1,_,h3,_⟩:=ev_P (Q:=TyG) (most:=m) (m+1) 0 t [] [] tNat (by omega) (by omega) ht ⟨rfl,by simp⟩
 exact ⟨r,u,o,h1,by simp [evN,h1],h3⟩
theorem evN_le {m:Nat} {t:Tm} (ht:HasTy TyG [] t tNat) (wt:TmW t) (hm:m≤65536):(evN m t).2.1≤m∧((evN m t).2.2=false→(evN m t).1≤m):=by
 obtain ⟨r,u,o,h1,h2,h3⟩:=evN_at (m:=m) ht
 rw [h2]
 refine ⟨h3,fun ho=>?_⟩
 simp only at ho
 subst ho
 obtain ⟨_,_,h4⟩:=ev_W (by omega) (m+1) 0 0 t [] r u false h1 (by omega) (by omega) wt (by simp) (by simp)
 have:=(h4 rfl).2.n1
 omega
abbrev Ans:=Bool × Nat × Int
def putR (f:Fm) (s:Tm):Fm × Int:=if fmSz f+fmOcc f 0 * (tmSz s - 1)≤4096 then (fmInn s 0 f 0,0) else (zeroF,4)
def dN (lim w:Nat) (t:Tm):Nat × Nat × Int:=if (evN (lim - w) t).2.2 then (0,w,5) else ((evN (lim - w) t).1,w+(evN (lim - w) t).2.1,0)
def dW (D:Nat→Fm→Ans) (f:Fm) (k w:Nat):Ans :=
 if 4096≤k then (false,w,4) else if (putR f (numT k)).2 != 0 then (false,w,(putR f (numT k)).2) else D w (putR f (numT k)).1
def dB (D:Nat→Fm→Ans) (lim:Nat) (all:Bool) (f:Fm):Nat→Nat→Nat→Ans
 | 0,_,w=>(all,w,0)
 | n+1,k,w=>if lim≤w then (false,w,5) else
  if (dW D f k (w+1)).2.2 != 0||(dW D f k (w+1)).1 != all then dW D f k (w+1) else dB D lim all f n (k+1) (dW D f k (w+1)).2.1
def dE (lim w:Nat) (x y:Tm):Ans :=
 if (dN lim w x).2.2 != 0 then (false,(dN lim w x).2.1,(dN lim w x).2.2)
 else if (dN lim (dN lim w x).2.1 y).2.2 != 0 then (false,(dN lim (dN lim w x).2.1 y).2.1,(dN lim (dN lim w x).2.1 y).2.2)
 else ((dN lim w x).1==(dN lim (dN lim w x).2.1 y).1,(dN lim (dN lim w x).2.1 y).2.1,0)
def dT (lim:Nat):Nat→Nat→Fm→Ans
 | 0,w,_=>(false,w,0)
 | n+1,w,f =>
  if f.kind==1 then dE lim w (f.terms.getD 0 zeroT) (f.terms.getD 1 zeroT)
  else if f.kind==2 then (if (dT lim n w (fa f 0)).1 then dT lim n (dT lim n w (fa f 0)).2.1 (fa f 1) else dT lim n w (fa f 0))
  else if f.kind==3 then
   (if (dT lim n w (fa f 0)).2.2 != 0||!(dT lim n w (fa f 0)).1 then ((dT lim n w (fa f 0)).2.2==0,(dT lim n w (fa f 0)).2.1,(dT lim n w (fa f 0)).2.2) else dT lim n (dT lim n w (fa f 0)).2.1 (fa f 1))
  else if (dN lim w (tPut (bndTerm f) 0 zeroT)).2.2 != 0 then (false,(dN lim w (tPut (bndTerm f) 0 zeroT)).2.1,(dN lim w (tPut (bndTerm f) 0 zeroT)).2.2)
  else dB (fun w f=>dT lim n w f) lim (f.kind==4) (bndBody f) (dN lim w (tPut (bndTerm f) 0 zeroT)).1 0 (dN lim w (tPut (bndTerm f) 0 zeroT)).2.1
theorem dT_eq {lim n w:Nat} {x y:Tm}:dT lim (n+1) w (fmEq x y)=dE lim w x y:=rfl
theorem dT_and {lim n w:Nat} {a b:Fm}:dT lim (n+1) w (fmTwo 2 a b)=if (dT lim n w a).1 then dT lim n (dT lim n w a).2.1 b else dT lim n w a:=rfl
theorem dT_imp {lim n w:Nat} {a b:Fm}:dT lim (n+1) w (fmTwo 3 a b) =
  if (dT lim n w a).2.2 != 0||!(dT lim n w a).1 then ((dT lim n w a).2.2==0,(dT lim n w a).2.1,(dT lim n w a).2.2) else dT lim n (dT lim n w a).2.1 b:=rfl
theorem dT_bnd {lim n w:Nat} {all:Bool} {q:Tm} {a:Fm}:dT lim (n+1) w (bndF all q a) =
  if (dN lim w (tPut q 0 zeroT)).2.2 != 0 then (false,(dN lim w (tPut q 0 zeroT)).2.1,(dN lim w (tPut q 0 zeroT)).2.2)
  else dB (fun w f=>dT lim n w f) lim all a (dN lim w (tPut q 0 zeroT)).1 0 (dN lim w (tPut q 0 zeroT)).2.1:=by
 cases all<;>rfl
theorem fdp_bnd {all:Bool} {q:Tm} {a:Fm}:fdp (bndF all q a)=fdp a+2:=by
 have:=fdp_pos a
 unfold bndF
 rw [fdp_q,fdp_two,lessF,fdp_eqn];omega
theorem fdp_inn {s:Tm}:∀ (f:Fm) (d:Int),fdp (fmInn s 0 f d)=fdp f:=by
 intro f
 induction f using Fm.ind with|h f ih=>?_
 intro d
 obtain ⟨k,t,l,a⟩:=f
 rw [fmInn,fmInnL_map,fdp,fdp]
 congr 1
 have:∀ (l:List Fm) (d:Int),(∀ x∈l,∀ d,fdp (fmInn s 0 x d)=fdp x)→fdpL (l.map fun x=>fmInn s 0 x d)=fdpL l:=by
  intro l
  induction l with
  | nil=>intro d _;rfl
  | cons x l ih2=>intro d h;rw [List.map_cons,fdpL,fdpL,h x (by simp),ih2 d (fun y hy=>h y (by simp [hy]))]
 exact this a _ (fun x hx d=>ih x hx d)
theorem bnd_term {q:Tm} (gq:TmG q) (hq:HasTy TyG [tNat] q tNat) (oq:tmOcc q 0=0) (zq:tmSz q≤4096):TmG (tPut q 0 zeroT)∧HasTy TyG [] (tPut q 0 zeroT) tNat∧tmSz (tPut q 0 zeroT)=tmSz q:=by
 have g0:TmG (tm0 4 []):=.t0 ar4 rfl
 have lq:q.least 536870912=true:=hq.least _ (by omega) (by simp;omega)
 have key:∀ (n:Nat) {s s' t:Tm},TmG t→tmSz t≤n→∀ d:Int,0≤d→d+n≤100000→tmOcc t d=0→t.least 1000000000=true→t.rb (putG 0 s) d=t.rb (putG 0 s') d:=by
  intro n
  induction n with
  | zero=>intro s s' t _ hn;have:=tmSz_pos t;omega
  | succ n ih =>
   intro s s' t gt hn d h0 hd ho hl
   revert hn ho hl
   refine gt.cases' (p:=fun t=>tmSz t≤n+1→tmOcc t d=0→t.least 1000000000=true→t.rb (putG 0 s) d=t.rb (putG 0 s') d) ?_ ?_
   ·intro i hi _ ho hl
    have hi2:=var_j hl
    rw [tmVar,tmOcc] at ho
    simp only [beq_self_eq_true,if_true] at ho
    have hne:i≠d:=by intro e;subst e;simp at ho
    rw [tmVar,Tm.rb,Tm.rb]
    simp only [beq_self_eq_true,if_true,putG]
    rw [subW_eq (by omega) (by omega) (by omega) (by omega)]
    have:(i - d==0)=false:=by simp;omega
    rw [this];rfl
   ·intro k ty l hk _ hg _ hn ho hl
    rw [tmSz] at hn
    rw [Tm.least,Bool.and_eq_true] at hl
    rw [tmOcc,hk] at ho
    simp only [Bool.false_eq_true,if_false] at ho
    have hr:=tmBelow_range k
    rw [Tm.rb,Tm.rbL_map,Tm.rb,Tm.rbL_map,hk,below_eq h0 (by omega)]
    simp only [Bool.false_eq_true,if_false]
    congr 1
    refine List.map_congr_left fun y hy=>?_
    have hoy:tmOcc y (d+tmBelow k)=0:=by
     have:∀ {l:List Tm},y∈l→tmOccL l (d+tmBelow k)=0→tmOcc y (d+tmBelow k)=0:=by
      intro l
      induction l with
      | nil=>intro h;simp at h
      | cons z l ihl =>
       intro h h2
       rw [tmOccL] at h2
       rcases List.mem_cons.1 h with rfl|h
       ·omega
       ·exact ihl h (by omega)
     exact this hy ho
    exact ih (hg y hy) (by have:=tmSzL_mem hy;omega) _ (by omega) (by omega) hoy (Tm.leastL_iff.1 hl.2 y hy)
 have e:tPut q 0 zeroT=tmInn (tm0 4 []) 0 q 0:=by
  rw [← tPut_inn g0 (by simp [tm0,tmSz,tmSzL]) (least_0 (by omega)) gq (by omega) lq (by omega) (by omega)]
  exact key _ gq (Nat.le_refl _) 0 (by omega) (by omega) oq (least_mono (by omega) _ lq)
 rw [e]
 refine ⟨TmG.inn g0 (least_0 (by omega)) _ gq (Nat.le_refl _) lq 0 (by omega) (by omega),?_,?_⟩
 ·have:=hq.inn [] [] rfl (HasTy.num 0) (by simp;omega) (by simp [numT,tm0,tmSz,tmSzL])
  exact this
 ·rw [TmG.inn_sz _ gq (Nat.le_refl _) 0 (by omega) (by omega),oq];omega
theorem Dc.put {a:Fm} (h:Dc [tNat] a) (za:fmSz a≤4096) {k:Nat} (hk:k<4096) (hp:(putR a (numT k)).2=0):Dc [] (putR a (numT k)).1∧fmSz (putR a (numT k)).1≤4096∧fdp (putR a (numT k)).1=fdp a:=by
 have zk:tmSz (numT k)=k+1:=tmSz_num k
 unfold putR at hp ⊢
 split at hp
 ·rename_i hle
  rw [if_pos hle]
  refine ⟨h.inn (numT_G k) (HasTy.num k) (by omega) [] rfl (by simp;omega),?_,fdp_inn _ _⟩
  rw [(h.G (u:=true)).inn_sz 0 (by omega) (by omega)]
  exact hle
 ·simp at hp
theorem MkDec.dc {n:Nat} {g:List Ty} {f:Fm} (h:MkDec n g f) (hg:∀ y∈g,MkTy 1 y) (hb:g.length+n≤10000):Dc g f:=by
 induction h with
 | eq h1 h2=>exact .eq (h1.small hg (by omega)).1 (h2.small hg (by omega)).1 (h1.ty (mk20 hg) nat20) (h2.ty (mk20 hg) nat20)
 | two hk _ _ h1 h2=>exact .two hk (h1 hg (by omega)) (h2 hg (by omega))
 | @bnd n g all x b hx _ h1 =>
  have hz:=(hx.small hg (by omega)).2.1
  obtain ⟨u1,u2,u3⟩:=hx.up1 hg (by omega)
  refine .bnd u1 ((hx.ty (mk20 hg) nat20).up0 (by omega) (by omega)) ?_ (h1 (app_mk hg .nat) (by simp;omega))
  exact TmG.up_occ _ (hx.small hg (by omega)).1 (Nat.le_refl _) (hx.small hg (by omega)).2.2 0 (by omega) (by omega)
theorem Dc.fld {g:List Ty} {f:Fm} (h:Dc g f):g.length+fmSz f≤50000→f.fl.d=true:=by
 induction h with
 | eq _ _ _ _=>intro _;rw [Fm.fl_eqn]
 | two hk _ _ h1 h2 =>
  intro hb
  rw [fmSz_two] at hb
  rw [Fm.fl_two hk,h1 (by omega),h2 (by omega)];rfl
 | @bnd g all q a gq tq oq _ h1 =>
  intro hb
  rw [bnd_sz] at hb
  rw [bndF_fl (by rw [gq.count_occ (by omega) (tq.least _ (by omega) (by simp;omega)) (by omega) (by omega),oq];rfl)]
  exact h1 (by simp;omega)
def EvM (m:Nat) (E F:Evl):Prop:=∀ u t e r u',u≤m→E u t e=some (r,u',false)→u≤u'∧u'≤m∧F u t e=some (r,u',false)
section
variable {m:Nat} {E F:Evl} (hM:EvM m E F)
include hM
theorem evArgs_M {e:List Res}:∀ {l:List Tm} {u u':Nat} {l':List Res},u≤m→evArgs E e u l=some (l',u',false)→u≤u'∧u'≤m∧evArgs F e u l=some (l',u',false)
 | [],u,u',l',hu,h=>by
  simp only [evArgs,Option.some.injEq,Prod.mk.injEq] at h
  obtain ⟨rfl,rfl,_⟩:=h
  exact ⟨Nat.le_refl _,hu,rfl⟩
 | t :: l,u,u',l',hu,h=>by
  rw [evArgs] at h ⊢
  cases h1:E u t e with
  | none=>rw [h1] at h;cases h
  | some p =>
   obtain ⟨r,u1,o⟩:=p
   rw [h1] at h
   cases o with
   | true=>simp at h
   | false =>
    obtain ⟨a1,a2,a3⟩:=hM u t e r u1 hu h1
    simp only at h
    cases h2:evArgs E e u1 l with
    | none=>rw [h2] at h;cases h
    | some q =>
     obtain ⟨l2,u2,o2⟩:=q
     rw [h2] at h
     simp only [Option.some.injEq,Prod.mk.injEq] at h
     obtain ⟨rfl,rfl,rfl⟩:=h
     obtain ⟨b1,b2,b3⟩:=evArgs_M a2 h2
     rw [a3]
     simp only [b3]
     exact ⟨by omega,b2,trivial⟩
theorem evCall_M {u u':Nat} {f a r:Res} (hu:u≤m) (h:evCall E u f a=some (r,u',false)):u≤u'∧u'≤m∧evCall F u f a=some (r,u',false):=hM _ _ _ _ _ hu h
theorem evRec_M {s:Res}:∀ {n k u u':Nat} {r r':Res},u≤m→evRec E s n k u r=some (r',u',false)→u≤u'∧u'≤m∧evRec F s n k u r=some (r',u',false)
 | 0,k,u,u',r,r',hu,h=>by
  simp only [evRec,Option.some.injEq,Prod.mk.injEq] at h
  obtain ⟨rfl,rfl,_⟩:=h
  exact ⟨Nat.le_refl _,hu,rfl⟩
 | n + 1,k,u,u',r,r',hu,h=>by
  rw [evRec] at h ⊢
  cases h1:evCall E u s (numR k) with
  | none=>rw [h1] at h;cases h
  | some p =>
   obtain ⟨f,u1,o⟩:=p
   rw [h1] at h
   cases o with
   | true=>simp at h
   | false =>
    obtain ⟨a1,a2,a3⟩:=evCall_M hM hu h1
    simp only at h
    cases h2:evCall E u1 f r with
    | none=>rw [h2] at h;cases h
    | some q =>
     obtain ⟨r1,u2,o2⟩:=q
     rw [h2] at h
     cases o2 with
     | true=>simp at h
     | false =>
      obtain ⟨b1,b2,b3⟩:=evCall_M hM a2 h2
      simp only at h
      obtain ⟨c1,c2,c3⟩:=evRec_M b2 h
      rw [a3]
      simp only [b3]
      exact ⟨by omega,c2,c3⟩
theorem evFold_M {s:Res} {l:List Nat}:∀ {n u u':Nat} {r r':Res},u≤m→evFold E s l n u r=some (r',u',false)→u≤u'∧u'≤m∧evFold F s l n u r=some (r',u',false)
 | 0,u,u',r,r',hu,h=>by
  simp only [evFold,Option.some.injEq,Prod.mk.injEq] at h
  obtain ⟨rfl,rfl,_⟩:=h
  exact ⟨Nat.le_refl _,hu,rfl⟩
 | n + 1,u,u',r,r',hu,h=>by
  rw [evFold] at h ⊢
  cases h1:evCall E u s (numR (l.getD n 0)) with
  | none=>rw [h1] at h;cases h
  | some p =>
   obtain ⟨f,u1,o⟩:=p
   rw [h1] at h
   cases o with
   | true=>simp at h
   | false =>
    obtain ⟨a1,a2,a3⟩:=evCall_M hM hu h1
    simp only at h
    cases h2:evCall E u1 f (listR (l.drop (n+1))) with
    | none=>rw [h2] at h;cases h
    | some q =>
     obtain ⟨f2,u2,o2⟩:=q
     rw [h2] at h
     cases o2 with
     | true=>simp at h
     | false =>
      obtain ⟨b1,b2,b3⟩:=evCall_M hM a2 h2
      simp only at h
      cases h3:evCall E u2 f2 r with
      | none=>rw [h3] at h;cases h
      | some q =>
       obtain ⟨r1,u3,o3⟩:=q
       rw [h3] at h
       cases o3 with
       | true=>simp at h
       | false =>
        obtain ⟨c1,c2,c3⟩:=evCall_M hM b2 h3
        simp only at h
        obtain ⟨d1,d2,d3⟩:=evFold_M c2 h
        rw [a3]
        simp only [b3,c3]
        exact ⟨by omega,d2,d3⟩
theorem evOf_M {k:Int} {u u':Nat} {l:List Res} {r:Res} (hu:u≤m) (h:evOf E k u l=some (r,u',false)):u≤u'∧u'≤m∧evOf F k u l=some (r,u',false):=by
 have one:∀ {x:Option (Res × Nat × Bool)} {y:Res},x=some (y,u,false)→x=some (r,u',false)→u≤u'∧u'≤m:=by
  intro x y h1 h2
  rw [h1] at h2
  simp only [Option.some.injEq,Prod.mk.injEq] at h2
  obtain ⟨_,rfl,_⟩:=h2
  exact ⟨Nat.le_refl _,hu⟩
 unfold evOf at h ⊢
 split at h
 ·rename_i hk
  rw [if_pos hk]
  split at h
  ·exact evCall_M hM hu h
  ·cases h
 rename_i hk
 rw [if_neg hk]
 clear hk
 split at h
 ·rename_i hk
  rw [if_pos hk]
  split at h
  ·exact ⟨(one rfl h).1,(one rfl h).2,h⟩
  ·cases h
 rename_i hk
 rw [if_neg hk]
 clear hk
 split at h
 ·rename_i hk
  rw [if_pos hk]
  split at h
  ·exact evRec_M hM hu h
  ·cases h
 rename_i hk
 rw [if_neg hk]
 clear hk
 split at h
 ·rename_i hk
  rw [if_pos hk]
  split at h
  ·exact ⟨(one rfl h).1,(one rfl h).2,h⟩
  ·cases h
 rename_i hk
 rw [if_neg hk]
 clear hk
 split at h
 ·rename_i hk
  rw [if_pos hk]
  split at h
  ·exact evFold_M hM hu h
  ·cases h
 rename_i hk
 rw [if_neg hk]
 clear hk
 refine ⟨?_,?_,h⟩
 all_goals
  repeat' split at h
  all_goals first|exact (one rfl h).1|exact (one rfl h).2|cases h
theorem evStep_M {m':Nat} (hm:m≤m'):EvM m (evStep m E) (evStep m' F):=by
 intro u t e r u' hu h
 unfold evStep at h ⊢
 split at h
 ·simp at h
 rename_i hne
 rw [if_neg (by omega:¬ u=m')]
 split at h
 ·rename_i hk
  rw [if_pos hk]
  split at h
  ·rename_i h0
   rw [if_pos h0]
   cases hx:e[((e.length:Int) - 1 - t.index).toNat]? with
   | none=>rw [hx] at h;cases h
   | some x =>
    rw [hx] at h
    simp only [Option.map_some,Option.some.injEq,Prod.mk.injEq] at h
    obtain ⟨rfl,rfl,_⟩:=h
    exact ⟨by omega,by omega,rfl⟩
  ·cases h
 rename_i hk
 rw [if_neg hk]
 clear hk
 split at h
 ·rename_i hk
  rw [if_pos hk]
  split at h
  ·simp only [Option.some.injEq,Prod.mk.injEq] at h
   obtain ⟨rfl,rfl,_⟩:=h
   exact ⟨by omega,by omega,rfl⟩
  ·cases h
 rename_i hk
 rw [if_neg hk]
 clear hk
 cases h1:evArgs E e (u+1) t.args with
 | none=>rw [h1] at h;cases h
 | some p =>
  obtain ⟨l,u1,o⟩:=p
  rw [h1] at h
  cases o with
  | true=>simp at h
  | false =>
   obtain ⟨a1,a2,a3⟩:=evArgs_M hM (by omega) h1
   simp only at h
   obtain ⟨b1,b2,b3⟩:=evOf_M hM a2 h
   rw [a3]
   exact ⟨by omega,b2,b3⟩
end
theorem ev_M {m m':Nat} (hm:m≤m'):∀ {f f':Nat},f≤f'→EvM m (ev m f) (ev m' f')
 | 0,_,_=>fun u t e r u' _ h=>by simp [ev] at h
 | f+1,0,h=>by omega
 | f+1,f'+1,h=>by rw [ev_succ,ev_succ];exact evStep_M (ev_M hm (by omega)) hm
theorem evN_up {m m' n u:Nat} {t:Tm} (hm:m≤m') (h:evN m t=(n,u,false)):u≤m∧evN m' t=(n,u,false):=by
 unfold evN at h
 split at h
 ·rename_i r u1 o h1
  simp only [Prod.mk.injEq] at h
  obtain ⟨rfl,rfl,rfl⟩:=h
  obtain ⟨a1,a2,a3⟩:=ev_M hm (show m+1≤m'+1 by omega) 0 t [] r u1 (by omega) h1
  exact ⟨a2,by simp [evN,a3]⟩
 ·simp at h
theorem dN_up {lim w n w1 lim' w0:Nat} {t:Tm} (hw:w≤lim) (h:dN lim w t=(n,w1,0)) (h0:w0≤lim') (hl:lim - w≤lim' - w0) :
  w≤w1∧w1≤lim∧dN lim' w0 t=(n,w0+(w1 - w),0):=by
 unfold dN at h
 generalize hx:evN (lim - w) t=x at h
 obtain ⟨n',u,o⟩:=x
 cases o with
 | true=>simp at h
 | false =>
  simp only [Bool.false_eq_true,if_false,Prod.mk.injEq,and_true] at h
  obtain ⟨rfl,rfl⟩:=h
  obtain ⟨a1,a2⟩:=evN_up hl hx
  refine ⟨by omega,by omega,?_⟩
  unfold dN
  rw [a2]
  simp
def AnsC (a:Ans):Prop:=(a.1=true→a.2.2=0)∧(a.2.2=0∨a.2.2=4∨a.2.2=5)
theorem putR_code (f:Fm) (s:Tm):(putR f s).2=0∨(putR f s).2=4:=by unfold putR;split<;>simp
theorem dN_code (lim w:Nat) (t:Tm):(dN lim w t).2.2=0∨(dN lim w t).2.2=5:=by unfold dN;split<;>simp
theorem dE_code (lim w:Nat) (x y:Tm):AnsC (dE lim w x y):=by
 unfold dE AnsC
 split
 ·exact ⟨by simp,by rcases dN_code lim w x with h|h<;>simp [h]⟩
 ·split
  ·exact ⟨by simp,by rcases dN_code lim (dN lim w x).2.1 y with h|h<;>simp [h]⟩
  ·exact ⟨fun _=>rfl,.inl rfl⟩
theorem dB_code {lim:Nat} {D:Nat→Fm→Ans} {all:Bool} {a:Fm} (hD:∀ k w,k<4096→(putR a (numT k)).2=0→AnsC (D w (putR a (numT k)).1)):∀ n k w,AnsC (dB D lim all a n k w)
 | 0,k,w=>⟨fun _=>rfl,.inl rfl⟩
 | n+1,k,w=>by
  rw [dB]
  split
  ·exact ⟨by simp,by simp⟩
  ·split
   ·unfold dW
    by_cases hk:4096≤k
    ·rw [if_pos hk];exact ⟨by simp,by simp⟩
    rw [if_neg hk]
    rcases putR_code a (numT k) with h|h
    ·rw [h];simp only [bne_self_eq_false,Bool.false_eq_true,if_false];exact hD k _ (by omega) h
    ·rw [h];exact ⟨by simp,by simp⟩
   ·exact dB_code hD n (k+1) _
theorem dT_code {lim:Nat}:∀ (n:Nat) (f:Fm) (w:Nat),fdp f≤n→Dc [] f→fmSz f≤4096→AnsC (dT lim n w f)
 | 0,f,w,hn,_,_=>by have:=fdp_pos f;omega
 | n+1,f,w,hn,hf,zf=>by
  generalize hg:([]:List Ty)=g at hf
  cases hf with
  | eq _ _ _ _=>rw [dT_eq];exact dE_code _ _ _ _
  | @two _ k x y hk da db =>
   subst hg
   rw [fmSz_two] at zf
   rw [fdp_two] at hn
   have ihx:=fun w=>dT_code (lim:=lim) n x w (by omega) da (by omega)
   have ihy:=fun w=>dT_code (lim:=lim) n y w (by omega) db (by omega)
   rcases hk with rfl|rfl
   ·rw [dT_and]
    split
    ·exact ihy _
    ·exact ihx w
   ·rw [dT_imp]
    split
    ·exact ⟨fun h=>by simpa using h,(ihx w).2⟩
    ·exact ihy _
  | @bnd _ all q a gq tq oq da =>
   subst hg
   rw [bnd_sz] at zf
   rw [fdp_bnd] at hn
   rw [dT_bnd]
   split
   ·exact ⟨by simp,by rcases dN_code lim w (tPut q 0 zeroT) with h|h<;>simp [h]⟩
   ·refine dB_code (fun k w hk hp=>?_) _ _ _
    obtain ⟨p1,p2,p3⟩:=da.put (by omega) hk hp
    exact dT_code n _ w (by omega) p1 p2
def UpD (lim lim':Nat) (D D':Nat→Fm→Ans) (f:Fm):Prop:=∀ w b w1 w0,w≤lim→D w f=(b,w1,0)→w0≤lim'→lim - w≤lim' - w0→w≤w1∧w1≤lim∧D' w0 f=(b,w0+(w1 - w),0)
theorem dB_up {lim lim':Nat} {D D':Nat→Fm→Ans} {all:Bool} {a:Fm} (hD:∀ k,k<4096→(putR a (numT k)).2=0→UpD lim lim' D D' (putR a (numT k)).1) :
  ∀ n k w b w1 w0,w≤lim→dB D lim all a n k w=(b,w1,0)→w0≤lim'→lim - w≤lim' - w0→w≤w1∧w1≤lim∧dB D' lim' all a n k w0=(b,w0+(w1 - w),0)
 | 0,k,w,b,w1,w0,hw,h,h0,hl=>by
  simp only [dB,Prod.mk.injEq,and_true] at h
  obtain ⟨rfl,rfl⟩:=h
  exact ⟨Nat.le_refl _,hw,by simp [dB]⟩
 | n+1,k,w,b,w1,w0,hw,h,h0,hl=>by
  rw [dB] at h
  by_cases hlt:lim≤w
  ·rw [if_pos hlt] at h;simp at h
  rw [if_neg hlt] at h
  have hW:∀ b2 w2,dW D a k (w+1)=(b2,w2,0)→w+1≤w2∧w2≤lim∧dW D' a k (w0+1)=(b2,w0+1+(w2 - (w+1)),0):=by
   intro b2 w2 h2
   unfold dW at h2
   by_cases hk:4096≤k
   ·rw [if_pos hk] at h2;simp at h2
   rw [if_neg hk] at h2
   cases hz:((putR a (numT k)).2 != 0) with
   | true =>
    rw [hz] at h2
    simp only [if_true,Prod.mk.injEq] at h2
    rw [h2.2.2] at hz;simp at hz
   | false =>
    rw [hz] at h2
    simp only [Bool.false_eq_true,if_false] at h2
    obtain ⟨c1,c2,c3⟩:=hD k (by omega) (by simpa using hz) (w+1) b2 w2 (w0+1) (by omega) h2 (by omega) (by omega)
    refine ⟨c1,c2,?_⟩
    unfold dW
    rw [if_neg hk,hz]
    simp only [Bool.false_eq_true,if_false]
    exact c3
  rw [dB,if_neg (by omega)]
  generalize hp:dW D a k (w+1)=p at h hW
  obtain ⟨b2,w2,e2⟩:=p
  simp only at h
  cases hs:(e2 != 0||b2 != all) with
  | true =>
   rw [hs] at h
   simp only [if_true,Prod.mk.injEq] at h
   obtain ⟨rfl,rfl,rfl⟩:=h
   obtain ⟨c1,c2,c3⟩:=hW b2 w2 rfl
   rw [c3]
   simp only [hs,if_true]
   exact ⟨by omega,c2,by simp;omega⟩
  | false =>
   rw [hs] at h
   simp only [Bool.false_eq_true,if_false] at h
   have he:e2=0:=by
    have:=hs
    simp at this
    exact this.1
   subst he
   obtain ⟨c1,c2,c3⟩:=hW b2 w2 rfl
   obtain ⟨d1,d2,d3⟩:=dB_up hD n (k+1) w2 b w1 (w0+1+(w2 - (w+1))) c2 h (by omega) (by omega)
   rw [c3]
   simp only [hs,Bool.false_eq_true,if_false]
   refine ⟨by omega,d2,?_⟩
   rw [d3]
   simp;omega
theorem dT_up {lim lim':Nat}:∀ (n:Nat) (f:Fm),fdp f≤n→Dc [] f→fmSz f≤4096→∀ n',fdp f≤n'→UpD lim lim' (dT lim n) (dT lim' n') f
 | 0,f,hn,_,_,_,_=>by have:=fdp_pos f;omega
 | n+1,f,hn,_,_,0,hn'=>by have:=fdp_pos f;omega
 | n + 1,f,hn,hf,zf,n'+1,hn'=>by
  intro w b w1 w0 hw h h0 hl
  generalize hg:([]:List Ty)=g at hf
  cases hf with
  | @eq _ x y gx gy tx ty =>
   rw [dT_eq] at h ⊢
   unfold dE at h ⊢
   generalize hx:dN lim w x=p at h
   obtain ⟨m1,v1,e1⟩:=p
   simp only at h
   cases he:(e1 != 0) with
   | true =>
    rw [he] at h
    simp only [if_true,Prod.mk.injEq] at h
    rw [h.2.2] at he;simp at he
   | false =>
    rw [he] at h
    simp only [Bool.false_eq_true,if_false] at h
    obtain rfl:e1=0:=by simpa using he
    obtain ⟨a1,a2,a3⟩:=dN_up hw hx h0 hl
    generalize hy:dN lim v1 y=q at h
    obtain ⟨m2,v2,e2⟩:=q
    simp only at h
    cases he2:(e2 != 0) with
    | true =>
     rw [he2] at h
     simp only [if_true,Prod.mk.injEq] at h
     rw [h.2.2] at he2;simp at he2
    | false =>
     rw [he2] at h
     simp only [Bool.false_eq_true,if_false,Prod.mk.injEq,and_true] at h
     obtain rfl:e2=0:=by simpa using he2
     obtain ⟨rfl,rfl⟩:=h
     obtain ⟨b1,b2,b3⟩:=dN_up a2 hy (show w0+(v1 - w)≤lim' by omega) (by omega)
     rw [a3]
     simp only [b3]
     refine ⟨by omega,b2,?_⟩
     simp;omega
  | @two _ k x y hk da db =>
   subst hg
   rw [fmSz_two] at zf
   rw [fdp_two] at hn hn'
   have ihx:=dT_up (lim:=lim) (lim':=lim') n x (by omega) da (by omega) n' (by omega)
   have ihy:=dT_up (lim:=lim) (lim':=lim') n y (by omega) db (by omega) n' (by omega)
   generalize hx:dT lim n w x=p
   obtain ⟨b1,v1,e1⟩:=p
   rcases hk with rfl|rfl
   ·rw [dT_and,hx] at h
    rw [dT_and]
    cases b1 with
    | false =>
     simp only [Bool.false_eq_true,if_false,Prod.mk.injEq] at h
     obtain ⟨rfl,rfl,rfl⟩:=h
     obtain ⟨a1,a2,a3⟩:=ihx w false v1 w0 hw hx h0 hl
     rw [a3]
     exact ⟨a1,a2,rfl⟩
    | true =>
     simp only [if_true] at h
     have he:e1=0:=by
      have:=(dT_code (lim:=lim) n x w (by omega) da (by omega)).1
      rw [hx] at this
      exact this rfl
     subst he
     obtain ⟨a1,a2,a3⟩:=ihx w true v1 w0 hw hx h0 hl
     obtain ⟨c1,c2,c3⟩:=ihy v1 b w1 (w0+(v1 - w)) a2 h (by omega) (by omega)
     rw [a3]
     simp only [if_true,c3]
     refine ⟨by omega,c2,?_⟩
     simp;omega
   ·rw [dT_imp,hx] at h
    rw [dT_imp]
    simp only at h
    cases hs:(e1 != 0||!b1) with
    | true =>
     rw [hs] at h
     simp only [if_true,Prod.mk.injEq] at h
     obtain ⟨rfl,rfl,rfl⟩:=h
     obtain ⟨a1,a2,a3⟩:=ihx w b1 v1 w0 hw hx h0 hl
     rw [a3]
     simp only [hs,if_true]
     exact ⟨a1,a2,trivial⟩
    | false =>
     rw [hs] at h
     simp only [Bool.false_eq_true,if_false] at h
     simp only [Bool.or_eq_false_iff,bne_eq_false_iff_eq] at hs
     obtain ⟨rfl,hb⟩:=hs
     obtain ⟨a1,a2,a3⟩:=ihx w b1 v1 w0 hw hx h0 hl
     obtain ⟨c1,c2,c3⟩:=ihy v1 b w1 (w0+(v1 - w)) a2 h (by omega) (by omega)
     rw [a3]
     simp only [hb,bne_self_eq_false,Bool.or_self,Bool.false_eq_true,if_false,c3]
     refine ⟨by omega,c2,?_⟩
     simp;omega
  | @bnd _ all q a gq tq oq da =>
   subst hg
   rw [bnd_sz] at zf
   rw [fdp_bnd] at hn hn'
   rw [dT_bnd] at h ⊢
   generalize hx:dN lim w (tPut q 0 zeroT)=p at h
   obtain ⟨m1,v1,e1⟩:=p
   simp only at h
   cases he:(e1 != 0) with
   | true =>
    rw [he] at h
    simp only [if_true,Prod.mk.injEq] at h
    rw [h.2.2] at he;simp at he
   | false =>
    rw [he] at h
    simp only [Bool.false_eq_true,if_false] at h
    obtain rfl:e1=0:=by simpa using he
    obtain ⟨a1,a2,a3⟩:=dN_up hw hx h0 hl
    rw [a3]
    simp only [he,Bool.false_eq_true,if_false]
    obtain ⟨c1,c2,c3⟩:=dB_up (D:=fun w f=>dT lim n w f) (D':=fun w f=>dT lim' n' w f) (all:=all) (a:=a) (fun k hk hp=>by
      obtain ⟨p1,p2,p3⟩:=da.put (by omega) hk hp
      exact dT_up n _ (by omega) p1 p2 n' (by omega)) m1 0 v1 b w1 (w0+(v1 - w)) a2 h (by omega) (by omega)
    rw [c3]
    refine ⟨by omega,c2,?_⟩
    simp;omega
def dA (lim:Nat) (f:Fm):Ans:=dT lim (fdp f) 0 f
theorem dA_code {lim:Nat} {f:Fm} (hf:Dc [] f) (zf:fmSz f≤4096):(dA lim f).2.2=0∨(dA lim f).2.2=4∨(dA lim f).2.2=5:=(dT_code _ f 0 (Nat.le_refl _) hf zf).2
section
variable {f g:Fm} (hf:Dc [] f) (hg:Dc [] g) (zf:fmSz f≤1000) (zg:fmSz g≤1000)
include hf hg zf zg
end
def hR (lim:Nat) (f:Fm) (k:Nat):Ans:=if (putR f (numT k)).2 != 0 then (false,0,(putR f (numT k)).2) else dA lim (putR f (numT k)).1
section
variable {all:Bool} {f:Fm} {n:Nat} (hf:Dc [tNat] f) (zf:fmSz f≤1000) (hn:n≤5)
include hf zf hn
end
inductive PVl where
 | mk (kind num:Int) (list:List Int) (args:List PVl)
def PVl.kind:PVl→Int | .mk k _ _ _=>k
def PVl.num:PVl→Int | .mk _ n _ _=>n
def PVl.list:PVl→List Int | .mk _ _ l _=>l
def PVl.args:PVl→List PVl | .mk _ _ _ a=>a
theorem PVl.ind {p:PVl→Prop} (h:∀ t,(∀ x∈t.args,p x)→p t):∀ t,p t:=by
 intro t
 refine PVl.rec (motive_1:=p) (motive_2:=fun l=>∀ x∈l,p x) (fun k n l a i1=>h _ i1) (by simp) (fun a l ha hl x hx=>?_) t
 rcases List.mem_cons.1 hx with rfl|hx
 ·exact ha
 ·exact hl x hx
mutual
def PVl.cells:PVl→List V
 | .mk k n l a=>[.int .i64 k,.int .i64 n,.sl .any (ints l),.sl .any (PVl.rows a)]
def PVl.rows:List PVl→List (List V)
 | []=>[]
 | r::l=>r.cells::PVl.rows l
end
theorem PVl.rows_eq:∀ l,PVl.rows l=l.map PVl.cells
 | []=>by simp [PVl.rows]
 | t::l=>by simp [PVl.rows,PVl.rows_eq l]
theorem PVl.cells_eq (t:PVl):t.cells=[.int .i64 t.kind,.int .i64 t.num,.sl .any (ints t.list),.sl .any (t.args.map PVl.cells)]:=by
 cases t;simp [PVl.cells,PVl.rows_eq,PVl.kind,PVl.num,PVl.list,PVl.args]
section
variable (t:PVl)
theorem PVl.cells_len:t.cells.length=4:=by rw [PVl.cells_eq];rfl
theorem PVl.cells_0:t.cells[0]? = some (.int .i64 t.kind):=by rw [PVl.cells_eq];rfl
theorem PVl.cells_1:t.cells[1]? = some (.int .i64 t.num):=by rw [PVl.cells_eq];rfl
theorem PVl.cells_2:t.cells[2]? = some (.sl .any (ints t.list)):=by rw [PVl.cells_eq];rfl
theorem PVl.cells_3:t.cells[3]? = some (.sl .any (t.args.map PVl.cells)):=by rw [PVl.cells_eq];rfl
theorem PVl.cells_take:List.take 4 t.cells=t.cells:=List.take_of_length_le (by rw [PVl.cells_len];exact Nat.le_refl _)
theorem PVl.cells_one:t.cells.all oneV=true:=by rw [PVl.cells_eq];rfl
end
theorem splice_PVl {cs:List V} {t:PVl} (h:cs.length=4):splice cs 0 t.cells=t.cells:=splice_full (by rw [h,PVl.cells_len])
theorem weakL_PVl:∀ t:PVl,weakL t.cells=t.cells:=by
 intro t
 induction t using PVl.ind with
 | h t i1 =>
  rw [PVl.cells_eq]
  have e1:weakLL (t.args.map PVl.cells)=t.args.map PVl.cells:=by
   rw [weakLL_eq,List.map_map];exact List.map_congr_left fun x hx=>i1 x hx
  simp only [weakL,weak,weakLL_ints,e1]
theorem weakLL_PVl (l:List PVl):weakLL (l.map PVl.cells)=l.map PVl.cells:=by
 rw [weakLL_eq,List.map_map];exact List.map_congr_left fun x _=>weakL_PVl x
section
variable {S:Id→Prop}
theorem InL_PVl:∀ t:PVl,InL S t.cells:=by
 intro t
 induction t using PVl.ind with
 | h t i1 =>
  rw [PVl.cells_eq]
  have e1:InLL S (t.args.map PVl.cells):=by
   rw [InLL_mem];intro l hl;obtain ⟨x,hx,rfl⟩:=List.mem_map.1 hl;exact i1 x hx
  simp only [InL,InV,capIn,true_and,and_true,InLL_ints,e1]
theorem InLL_PVl (l:List PVl):InLL S (l.map PVl.cells):=by
 rw [InLL_mem];intro x hx;obtain ⟨y,_,rfl⟩:=List.mem_map.1 hx;exact InL_PVl y
end
theorem all_len_PVl (l:List PVl):(l.map PVl.cells).all (fun e=>e.length==4)=true:=by simp [PVl.cells_len]
theorem all_one_PVl (l:List PVl):(l.map PVl.cells).flatten.all oneV=true:=by
 rw [List.all_eq_true];intro v hv
 obtain ⟨c,hc,hv⟩:=List.mem_flatten.1 hv
 obtain ⟨x,_,rfl⟩:=List.mem_map.1 hc
 exact List.all_eq_true.1 (PVl.cells_one x) v hv
theorem PVl.mk_cells (k n:Int) (l:List Int) (a:List PVl):(PVl.mk k n l a).cells=[.int .i64 k,.int .i64 n,.sl .any (ints l),.sl .any (a.map PVl.cells)]:=PVl.cells_eq _
attribute [go_sem] InL_PVl InLL_PVl
attribute [go_sem] PVl.cells_len PVl.cells_0 PVl.cells_1 PVl.cells_2 PVl.cells_3 PVl.cells_take PVl.cells_one splice_PVl weakL_PVl weakLL_PVl all_len_PVl all_one_PVl
def listT:List Nat→Tm
 | []=>tm0 7 []
 | n::l=>tm0 8 [numT n,listT l]
inductive IsVl:Ty→PVl→Tm→Prop
 | num (n:Nat):IsVl tNat (.mk 1 n [] []) (numT n)
 | list (l:List Nat):IsVl tList (.mk 2 0 (l.map fun (n:Nat)=>(n:Int)) []) (listT l)
 | unit:IsVl tUnit (.mk 4 0 [] []) (tm0 13 [])
 | pair {a b:Ty} {x y:PVl} {s t:Tm}:IsVl a x s→IsVl b y t→IsVl (tPair a b) (.mk 3 0 [] [x,y]) (tm0 10 [s,t])
theorem listT_G:∀ l,TmG (listT l)
 | []=>.t0 (k:=7) rfl rfl
 | n::l=>.t2 (k:=8) rfl rfl (numT_G n) (listT_G l)
theorem IsVl.G {a:Ty} {v:PVl} {t:Tm} (h:IsVl a v t):TmG t:=by
 induction h with
 | num n=>exact numT_G n
 | list l=>exact listT_G l
 | unit=>exact .t0 (k:=13) rfl rfl
 | pair _ _ h1 h2=>exact .t2 (k:=10) rfl rfl h1 h2
theorem listT_ty {g:List Ty}:∀ l,HasTy TyG g (listT l) tList
 | []=>.n0 (ty:=.mk 0 []) .nil
 | n::l=>.n2 (ty:=.mk 0 []) .cons (HasTy.num n) (listT_ty l)
theorem IsVl.ty {a:Ty} {v:PVl} {t:Tm} (h:IsVl a v t):TyG a→∀ g,HasTy TyG g t a:=by
 induction h with
 | num n=>exact fun _ g=>HasTy.num n
 | list l=>exact fun _ g=>listT_ty l
 | unit=>exact fun _ g=>.n0 (ty:=.mk 0 []) .unit
 | pair _ _ h1 h2 =>
  intro ht g
  obtain ⟨t1,t2⟩:=ht.pair1
  exact .n2 (ty:=.mk 0 []) (.pair ht) (h1 t1 g) (h2 t2 g)
theorem Dc.innG {s:Tm} {a:Ty} {g:List Ty} (gs:TmG s) (ts:HasTy TyG g s a) (zs:tmSz s≤4096) (hg:g.length≤100) {g':List Ty} {f:Fm} (h:Dc g' f) :
  ∀ l:List Ty,g'=g++[a]++l→l.length+fmSz f≤10000→Dc (g++l) (fmInn s 0 f (l.length:Int)):=by
 have ls:s.least 536870912=true:=ts.least _ (by omega) (by omega)
 induction h with
 | @eq g' x y gx gy h1 h2 =>
  intro l e hb
  rw [fmSz_eq] at hb
  subst e
  rw [fmInn_eqn]
  have lx:x.least 536870912=true:=h1.least _ (by omega) (by simp;omega)
  have ly:y.least 536870912=true:=h2.least _ (by omega) (by simp;omega)
  exact .eq (TmG.inn gs ls _ gx (Nat.le_refl _) lx _ (by omega) (by omega)) (TmG.inn gs ls _ gy (Nat.le_refl _) ly _ (by omega) (by omega))
   (h1.inn g l rfl ts (by omega) (by omega)) (h2.inn g l rfl ts (by omega) (by omega))
 | @two g' k x y hk _ _ ih1 ih2 =>
  intro l e hb
  rw [fmSz_two] at hb
  rw [fmInn_two,below_two hk,addW_zero (by omega) (by omega)]
  exact .two hk (ih1 l e (by omega)) (ih2 l e (by omega))
 | @bnd g' all q x gq hq oq _ ih =>
  intro l e hb
  rw [bnd_sz] at hb
  subst e
  rw [bnd_inn (by omega) (by omega)]
  have lq:q.least 536870912=true:=hq.least _ (by omega) (by simp;omega)
  have e1:((l.length:Int)+1)=((l++[tNat]).length:Int):=by simp
  refine .bnd ?_ ?_ ?_ ?_
  ·exact TmG.inn gs ls _ gq (Nat.le_refl _) lq _ (by omega) (by omega)
  ·rw [e1,List.append_assoc];exact hq.inn g (l++[tNat]) (by simp) ts (by simp;omega) (by omega)
  ·rw [TmG.inn_occ gs (by omega) (least_mono (by omega) _ ls) _ gq (Nat.le_refl _) (least_mono (by omega) _ lq) _ 0 (by omega) (by omega) (by omega)];exact oq
  ·rw [e1,List.append_assoc];exact ih (l++[tNat]) (by simp) (by simp;omega)
theorem Dc.inn0 {s:Tm} {a:Ty} {g:List Ty} {f:Fm} (h:Dc (g++[a]) f) (gs:TmG s) (ts:HasTy TyG g s a) (zs:tmSz s≤4096) (hg:g.length≤100) (zf:fmSz f≤4096):Dc g (fmInn s 0 f 0):=by
 have:=h.innG gs ts zs hg [] (by simp) (by simp;omega)
 simpa using this
def putsR:Fm→List Tm→Fm × Int
 | f,[]=>(f,0)
 | f,t::l=>if (putR f t).2 != 0 then (zeroF,(putR f t).2) else putsR (putR f t).1 l
theorem putR_dc {f:Fm} {g:List Ty} {a:Ty} {v:PVl} {t:Tm} (hf:Dc (g++[a]) f) (hv:IsVl a v t) (ha:TyG a) (zt:tmSz t≤4096) (hg:g.length≤100) (zf:fmSz f≤4096) (h:(putR f t).2=0) :
  Dc g (putR f t).1∧fmSz (putR f t).1≤4096:=by
 unfold putR at h ⊢
 split at h
 ·rename_i hle
  rw [if_pos hle]
  refine ⟨hf.inn0 hv.G (hv.ty ha g) zt hg zf,?_⟩
  rw [(hf.G (u:=true)).inn_sz 0 (by omega) (by omega)]
  exact hle
 ·simp at h
def lsz:List Nat→Nat
 | []=>1
 | n::l=>n+2+lsz l
theorem listT_sz:∀ l,tmSz (listT l)=lsz l
 | []=>by rw [listT,tmSz_0];rfl
 | n::l=>by rw [listT,tmSz_2,tmSz_num,listT_sz l,lsz];omega
theorem lsz_take:∀ {l:List Nat} {i x:Nat},l[i]? = some x→lsz (l.take (i+1))=lsz (l.take i)+x+2
 | [],i,x,h=>by simp at h
 | y::l,0,x,h=>by simp at h;subst h;simp [lsz];omega
 | y::l,i+1,x,h=>by
  have:=lsz_take (l:=l) (i:=i) (x:=x) (by simpa using h)
  rw [List.take_succ_cons,List.take_succ_cons,lsz,lsz,this];omega
theorem lsz_take_le:∀ (l:List Nat) (i:Nat),lsz (l.take i)≤lsz l
 | [],i=>by simp
 | y::l,0=>by simp [lsz];omega
 | y::l,i+1=>by have:=lsz_take_le l i;rw [List.take_succ_cons,lsz,lsz];omega
theorem lsz_len:∀ l:List Nat,l.length * 2+1≤lsz l
 | []=>by simp [lsz]
 | y::l=>by have:=lsz_len l;rw [lsz,List.length_cons];omega
theorem lsz_mem:∀ {l:List Nat} {x:Nat},x∈l→x+3≤lsz l
 | [],x,h=>by simp at h
 | y::l,x,h=>by
  rw [lsz]
  rcases List.mem_cons.1 h with rfl|h
  ·have:=lsz_len l;omega
  ·have:=lsz_mem h;omega
inductive VlW:PVl→Prop
 | mk (k n:Int) (l:List Int) (a:List PVl):l.length≤5000→a.length≤1000→(∀ x∈a,VlW x)→VlW (.mk k n l a)
theorem VlW.len {v:PVl} (h:VlW v):v.args.length≤1000:=by cases h;assumption
theorem VlW.arg {v:PVl} (h:VlW v):∀ x∈v.args,VlW x:=by cases h;assumption
theorem IsVl.W {a:Ty} {v:PVl} {t:Tm} (h:IsVl a v t):tmSz t≤4096→VlW v:=by
 induction h with
 | num n=>intro _;exact .mk _ _ _ _ (by simp) (by simp) (by simp)
 | list l=>intro hb;rw [listT_sz] at hb;have:=lsz_len l;exact .mk _ _ _ _ (by simp;omega) (by simp) (by simp)
 | unit=>intro _;exact .mk _ _ _ _ (by simp) (by simp) (by simp)
 | pair _ _ h1 h2 =>
  intro hb
  rw [tmSz_2] at hb
  exact .mk _ _ _ _ (by simp) (by simp) (by simp [h1 (by omega),h2 (by omega)])
theorem IsVl.mem {l:List Nat} (hb:lsz l≤4096):(∀ x∈l,x≤4096)∧l.length≤4096:=⟨fun x hx=>by have:=lsz_mem hx;omega,by have:=lsz_len l;omega⟩
def numP (n:Nat):PVl:=.mk 1 n [] []
def listP (l:List Nat):PVl:=.mk 2 0 (l.map fun (n:Nat)=>(n:Int)) []
def unitP:PVl:=.mk 4 0 [] []
def pairP (a b:PVl):PVl:=.mk 3 0 [] [a,b]
def valsN (b:Nat):List PVl:=(List.range b).map numP
def valsL (b:Nat):List PVl:=listP []::((List.range b).map fun a=>listP [a])++(List.range b).flatMap fun a=>(List.range b).map fun c=>listP [a,c]
def valsP (l r:List PVl):List PVl:=l.flatMap fun a=>r.map fun c=>pairP a c
inductive PlT:Ty→Prop
 | nat:PlT tNat
 | list:PlT tList
 | unit:PlT tUnit
 | pair {a b:Ty}:PlT a→PlT b→PlT (tPair a b)
def vals (b:Nat):Ty→List PVl
 | .mk 2 _=>valsL b
 | .mk 5 _=>[unitP]
 | .mk 3 [x,y]=>valsP (vals b x) (vals b y)
 | _=>valsN b
def rows (l:List PVl):List (List V):=l.map fun v=>[V.agg v.cells]
theorem rows_len (l:List PVl):(rows l).length=l.length:=by simp [rows]
theorem rows_at {l:List PVl} {i:Nat} {v:PVl} (h:l[i]? = some v):(rows l)[i]? = some [V.agg v.cells]:=by simp [rows,h]
theorem valsN_len (b:Nat):(valsN b).length=b:=by simp [valsN]
theorem valsN_at {b i:Nat} (h:i<b):(valsN b)[i]? = some (numP i):=by simp [valsN,h]
theorem flatM_at {α β:Type} (f:α→List β) (n:Nat):∀ (l:List α),(∀ a∈l,(f a).length=n)→∀ (i m:Nat) (a:α) (x:β),l[i]? = some a→(f a)[m]? = some x→(l.flatMap f)[i * n+m]? = some x
 | [],_,i,m,a,x,h,_=>by simp at h
 | b::l,hl,0,m,a,x,h,hx=>by
  simp at h
  subst h
  have hm:m<(f b).length:=(List.getElem?_eq_some_iff.1 hx).1
  rw [List.flatMap_cons,Nat.zero_mul,Nat.zero_add,List.getElem?_append_left hm]
  exact hx
 | b::l,hl,i+1,m,a,x,h,hx=>by
  have hb:=hl b (by simp)
  rw [List.flatMap_cons,List.getElem?_append_right (by rw [hb,Nat.succ_mul];omega),hb,show (i+1) * n+m - n=i * n+m by rw [Nat.succ_mul];omega]
  exact flatM_at f n l (fun a ha=>hl a (by simp [ha])) i m a x (by simpa using h) hx
theorem flatM_len {α β:Type} (f:α→List β) (n:Nat):∀ (l:List α),(∀ a∈l,(f a).length=n)→(l.flatMap f).length=l.length * n
 | [],_=>by simp
 | b::l,hl=>by
  rw [List.flatMap_cons,List.length_append,hl b (by simp),flatM_len f n l (fun a ha=>hl a (by simp [ha])),List.length_cons,Nat.succ_mul];omega
theorem valsP_len (l r:List PVl):(valsP l r).length=l.length * r.length:=flatM_len _ _ _ (fun a _=>by simp)
theorem valsP_at {l r:List PVl} {i m:Nat} {a c:PVl} (ha:l[i]? = some a) (hc:r[m]? = some c):(valsP l r)[i * r.length+m]? = some (pairP a c) :=
 flatM_at _ r.length l (fun a _=>by simp) i m a _ ha (by simp [hc])
theorem valsL_len (b:Nat):(valsL b).length=1+b+b * b:=by
 have h:((List.range b).flatMap fun a=>(List.range b).map fun c=>listP [a,c]).length=b * b:=by
  rw [flatM_len _ b _ (fun a _=>by simp)];simp
 unfold valsL
 rw [List.length_append,List.length_cons,List.length_map,List.length_range,h];omega
theorem valsL_0 (b:Nat):(valsL b)[0]? = some (listP []):=rfl
theorem valsL_1 {b i:Nat} (h:i<b):(valsL b)[1+i]? = some (listP [i]):=by
 unfold valsL
 rw [List.getElem?_append_left (by simp;omega),show 1+i=i+1 by omega,List.getElem?_cons_succ]
 simp [h]
theorem valsL_2 {b i m:Nat} (hi:i<b) (hm:m<b):(valsL b)[1+b+(i * b+m)]? = some (listP [i,m]):=by
 unfold valsL
 rw [List.getElem?_append_right (by simp;omega)]
 have e:1+b+(i * b+m) - (listP []::(List.range b).map fun a=>listP [a]).length=i * b+m:=by simp;omega
 rw [e]
 exact flatM_at _ b _ (fun a _=>by simp) i m i _ (by simp [hi]) (by simp [hm])
def yfunR (env:Nat→Option (List V)) (C:Cons) (i:Nat) (g0:G) (w0:World) (h0:H) (e:Ending) (W':World):Prop :=
 ∃ g' h',After C g0 w0 h0 g' W' h'∧Rel env g' W' h'∧((e=.returned (.bool true)∧C.Y (i+1) g' W' h')∨(e=.returned (.bool false)∧C.Z g' W' h'))
theorem yfun_of_walk {P : Program} {env : Nat → Option (List V)} {kf : Nat} {fn : Func} {body : Code} {as vv : List V} {vs : List (List V)} {C : Cons} {pre : H → Prop} (hf : P.funcs[kf]? = some fn) (hb : fn.body = some body) (hname : (fn.name == "runtime.NumGoroutine") = false) (hC : ConsOk P env C vs)
  (walk:∀ (i:Nat) (g0:G) (w0:World) (h:H) (gen:Nat),vs[i]? = some vv→pre h→(∀ id,h id≠none→id.gen<gen)→(∀ b,g0.wr b=true)→(∀ b,w0.heap.size≤b→g0.lim b=0)→C.bd≤w0.heap.size→(∀ b,C.L b→b<w0.heap.size) →
   ARX ⟨P,env,fn.ntmps,fn,g0,w0,h,.undef,h⟩ ((yI ⟨P,env,fn.ntmps,fn,g0,w0,h,.undef,h⟩ C (yfunR env C i g0 w0 h)).at (fun g w=>C.Y i g w h)) gen [.code body] .normal ⟨argTm as,h⟩) :
  YFun P env C vs kf as vv pre:=by
 refine ⟨⟨fn,hf,by rw [hb];rfl,hname⟩,fun i g1 W1 h1 xs hv hY q1 hL hpre hxs=>?_⟩
 have hbd:=hC.Ybd _ _ _ _ hY
 refine (callsIn_of_wp_marks (n:=0) (R:=yfunR env C i g1.free W1 h1) hf hb trivial ?_).mono (fun e W' ⟨g',h',⟨a1,a2,a3⟩,q,r⟩=>⟨g',h',⟨a1,a2,a3⟩,q,r⟩)
 have hcs:RVL (g1.dn W1) W1 xs as:=hxs.mono ext_dn
 have hst:RelSt env fn.ntmps (g1.dn W1) W1 { tmps:=xs++Array.replicate (fn.ntmps - xs.size) undef,defers:=[] } ⟨argTm as,h1⟩:=by
  refine ⟨q1.dn,fun t=>?_,by simp;omega,rfl⟩
  simp only [argTm]
  cases ha:as[t]? with
  | none=>exact .undef _
  | some v =>
   obtain ⟨c0,h1,h2⟩:=hcs.at ha
   have hlt:t<xs.size:=(Array.getElem?_eq_some_iff.1 h1).1
   have:(xs++Array.replicate (fn.ntmps - xs.size) undef).getD t undef=c0:=by
    simp [Array.getElem?_append_left hlt,h1]
   rw [this];exact h2
 have:=walk i g1.free W1 h1 g1.top hv hpre (fun id hid=>q1.top id hid) (fun _=>rfl) q1.limnew hbd hL (g1.dn W1) _ W1 (ext_free ext_dn) ⟨hC.Yext _ _ _ _ _ _ ext_dn hY,KO.here,Nat.le_refl _⟩ (RelD.of hst)
 refine wpIn_mono (show body.wpIn _ _ _ _ _ _ from this) ?_
 intro e a' w' hp
 cases e<;>exact hp
theorem ARX_yend {c:Ctx} {C:Cons} {i gen r:Nat} {b:Bool} {σ:St} {X:G→World→Prop} (hres:c.fn.results=#[.tmp r]) (hr:σ.tm r=.bool b) (hX:∀ g w,X g w→(b=true∧C.Y (i+1) g w σ.h)∨(b=false∧C.Z g w σ.h)) (hs:∀ id,¬ C.S id→c.h0 id≠none→σ.h id=c.h0 id) :
  ARX c ((yI c C (yfunR c.env C i c.g0 c.w0 c.h0)).at X) gen [] .ret σ:=by
 intro g a w hx ⟨h1,h2,h3⟩ r0
 show LeavesInM Fence.wide 0 c.P c.fn a.tmps (yfunR c.env C i c.g0 c.w0 c.h0) a.defers .returning w
 rw [r0.2]
 have hv:=r0.1.tm r
 rw [hr] at hv
 have hb:a.tmps.getD r undef=.bool b:=by
  have hv':RV g w (a.tmps.getD r undef) (.bool b):=hv
  generalize a.tmps.getD r undef=v at hv'
  cases hv';rfl
 refine ⟨_,results_tmp hres _ _ _,g,σ.h,⟨ext_free hx,hs,fun b o hb ho hc=>(h2 b o hb ho hc).1⟩,r0.1.rel,?_⟩
 rw [hb]
 rcases hX g w h1 with ⟨rfl,h⟩|⟨rfl,h⟩
 ·exact .inl ⟨rfl,h⟩
 ·exact .inr ⟨rfl,h⟩
end GoAbs
