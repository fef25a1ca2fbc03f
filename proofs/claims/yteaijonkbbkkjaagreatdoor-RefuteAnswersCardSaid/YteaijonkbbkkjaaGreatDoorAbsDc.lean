/-
 The abstract layer: plain laws, further ones.
-/
import Derived.Test.YteaijonkbbkkjaaGreatDoorAbsDb
import Derived.Test.YteaijonkbbkkjaaGreatDoorAbsD
import Derived.Test.YteaijonkbbkkjaaGreatDoorAbsB
set_option linter.unusedSimpArgs false
set_option linter.unusedVariables false
set_option linter.unusedSectionVars false
namespace GoAbs
open Go
def FzP (id:Id) (cs:List V) (v v':V):Prop:=v'=.undef∨v'=v∨∃ off,v=.ptr id off∧v'=.el cs off
theorem bB5 {c:Ctx} {gen:Nat} {k:List It} {e:Exit} {σ:St} (id:Id) {cs:List V} {tm':Nat→V} {h':H}
  (af2:Rel c.env c.g0 c.w0 c.h0) (hb:σ.h id=some (.box cs)) (cU4:InL (fun j=>h' j≠none) cs) (hid:h' id=none)
  (hh:∀ j,h' j≠none→(h' j=σ.h j∧∀ bs,h' j=some (.box bs)→c.h0 j=some (.box bs)) ∨
   ∃ bs bs',σ.h j=some (.box bs)∧h' j=some (.box bs')∧bs.length=bs'.length∧(∀ (i:Nat) v v',bs[i]? = some v→bs'[i]? = some v'→FzP id cs v v')∧InL (fun j=>h' j≠none) bs')
  (aK2:∀ j,c.h0 j≠none→h' j≠none) (htm:∀ t,FzP id cs (σ.tm t) (tm' t)∧InV (fun j=>h' j≠none) (tm' t))
  (h:AR c gen k e ⟨tm',h'⟩):AR c gen k e σ:=by
 intro ok hm g a w hx r;have q:=r.rel;obtain ⟨vs,⟨ty,b1⟩,b2,b3,b4,b5⟩:=q.box id cs hb
 let g':G:={ g with dom:=fun j=>decide (h' j≠none),lim:=fun b=>if b=g.loc id then cs.length else g.lim b }
 have hl:∀ b,g.lim b≤g'.lim b:=fun b=>by
  show g.lim b≤if b=g.loc id then cs.length else g.lim b
  split
  ·rename_i e;rw [e,b4];omega
  ·exact Nat.le_refl _
 have hlo:∀ b,b≠g.loc id→g'.lim b=g.lim b:=fun b hb=>by show (if b=g.loc id then _ else g.lim b)=_;rw [if_neg hb]
 have hS:∀ j,h' j≠none→g'.dom j=true∧g'.loc j=g.loc j∧g'.buf j=g.buf j:=fun j hj=>⟨by show decide (h' j≠none)=true;simpa using hj,rfl,rfl⟩;have hmv:∀ {c:Value} {v:V},RV g w c v→InV (fun j=>h' j≠none) v→RV g' w c v:=fun h1 h2=>h1.freeze hl hS h2;have ab4:∀ j,h' j≠none→∃ ob,σ.h j=some ob:=fun j hj=>by
  rcases hh j hj with ⟨h1,_⟩|⟨bs,bs',h1,_⟩
  ·rw [← h1];cases hj':h' j with
   | none=>exact absurd hj' hj
   | some ob=>exact ⟨ob,rfl⟩
  ·exact ⟨_,h1⟩
 have hx':Ext c.g0 c.w0 g' w:=by
  refine ⟨hx.os,hx.tape,hx.output,hx.size,fun b=>Nat.le_trans (hx.lim b) (hl b),hx.cells,hx.wr,fun j hj=>?_,hx.top⟩;obtain ⟨_,a2,a3⟩:=hx.dom j hj;exact ⟨by show decide (h' j≠none)=true;simpa using aK2 j ((af2.dom j).1 hj),a2,a3⟩
 have dj0:∀ off,RV g' w (.pointer (some ⟨g.loc id,off,none⟩)) (.el cs off):=fun off=>by
  have:RV g' w (.pointer (some ⟨g.loc id,0+off,none⟩)) (.el cs off):=by
   refine .el _ 0 cs off (fun i=>vs[i]?.getD undef) ?_ (fun i hi=>?_) (fun i v hv=>?_)
   ·show 0+_≤if g.loc id=g.loc id then cs.length else _
    rw [if_pos rfl];omega
   ·rw [Nat.zero_add]
    have:i<vs.size:=by omega
    simp [World.cell?,b1,this]
   ·obtain ⟨c0,hc1,hc2⟩:=(show RVL g w vs cs from ⟨b2,b3⟩).at hv
    simp only [hc1,Option.getD_some];exact hmv hc2 (N9 cU4 hv)
  rwa [Nat.zero_add] at this
 have hfz:∀ {cv:Value} {v v':V},RV g w cv v→FzP id cs v v'→InV (fun j=>h' j≠none) v'→RV g' w cv v':=by
  intro cv v v' h1 h2 h3;rcases h2 with rfl|rfl|⟨off,rfl,rfl⟩
  ·exact .undef _
  ·exact hmv h1 h3
  ·cases h1 with
   | ptr _ _ _=>exact dj0 off
 have ba5:∀ j bs',h' j=some (.box bs')→∃ bs,σ.h j=some (.box bs)∧bs.length=bs'.length∧∀ (vs:Array Value),RVL g w vs bs→RVL g' w vs bs':=by
  intro j bs' e';rcases hh j (by rw [e'];simp) with ⟨h1,h2⟩|⟨bs,bs2,h1,h2,h3,h4,h5⟩
  ·have h0:=h2 bs' e'
   refine ⟨bs',by rw [← h1];exact e',rfl,fun vs hv=>⟨hv.1,fun i cv v hc hv'=>hmv (hv.2 i cv v hc hv') ?_⟩⟩;obtain ⟨vs0,_,z2,z3,_⟩:=af2.box j bs' h0;obtain ⟨c0,hc0⟩:=au5 (g:=c.g0) (w:=c.w0) z2 hv';have:=(z3 i c0 v hc0 hv').inV;exact aj1 (fun id hid=>aK2 id ((af2.dom id).1 hid)) v this
  ·rw [e'] at h2;cases h2
   refine ⟨bs,h1,h3,fun vs hv=>⟨by rw [hv.1,h3],fun i cv v hc hv'=>?_⟩⟩;have hi:i<bs.length:=by rw [h3];exact (List.getElem?_eq_some_iff.1 hv').1
   have hbi:bs[i]? = some bs[i]:=List.getElem?_eq_getElem hi;exact hfz (hv.2 i cv _ hc hbi) (h4 i _ _ hbi hv') (N9 h5 hv')
 have hne:∀ j bs',h' j=some (.box bs')→g.loc j≠g.loc id:=fun j bs' e' e2=>by
  obtain ⟨bs,h1,_⟩:=ba5 j bs' e';have:=q.inj j id bs cs h1 hb e2;rw [this,hid] at e';cases e'
 have ae2:∀ j n' k',h' j=some (.tok n' k')→σ.h j=some (.tok n' k'):=fun j n' k' e'=>by
  rcases hh j (by rw [e'];simp) with ⟨h1,_⟩|⟨bs,bs2,_,h2,_⟩
  ·rw [← h1];exact e'
  ·rw [e'] at h2;cases h2
 refine h ok hm g' a w hx' ⟨?_,fun t=>?_,r.size,r.defers⟩
 ·refine ⟨fun j=>by show decide (h' j≠none)=true↔_;simp,fun j hj=>?_,?_,?_,?_,?_,?_,?_,?_⟩
  ·obtain ⟨ob,ho⟩:=ab4 j hj
   exact q.top j (by rw [ho];simp)
  ·intro j bs' e'
   obtain ⟨bs,h1,h2,h3⟩:=ba5 j bs' e';obtain ⟨vs',c1,c2,c3,c4,c5⟩:=q.box j bs h1;have:=h3 vs' ⟨c2,c3⟩;exact ⟨vs',c1,this.1,this.2,by show g'.lim (g.loc j)=0;rw [hlo _ (hne j bs' e')];exact c4,c5⟩
  ·intro i1 i2 c1 c2 e1 e2 e3
   obtain ⟨d1,f1,_⟩:=ba5 i1 c1 e1;obtain ⟨d2,f2,_⟩:=ba5 i2 c2 e2;exact q.inj i1 i2 d1 d2 f1 f2 e3
  ·intro j n' k' e'
   obtain ⟨h1,h2,h3,hk⟩:=q.tok j n' k' (ae2 j n' k' e');refine ⟨h1,h2,fun hlt=>?_,hk⟩;obtain ⟨b,off,vs',s1,s2,s3,s4,s5⟩:=h3 hlt;have:=q.apart j id n' k' cs (ae2 j n' k' e') hlt hb _ s1;exact ⟨b,off,vs',s1,s2,s3,by rw [hlo b this];exact s4,s5⟩
  ·intro i1 i2 n' k' c' e1 hlt e2
   obtain ⟨d2,f2,_⟩:=ba5 i2 c' e2;exact q.apart i1 i2 n' k' d2 (ae2 i1 n' k' e1) hlt f2
  ·intro i1 i2 n1 n2 k1 k2 e1 hlt e2 al9
   exact q.T8 i1 i2 n1 n2 k1 k2 (ae2 _ _ _ e1) hlt (ae2 _ _ _ e2) al9
  ·intro b hb'
   rw [hlo b (by have:=q.lt hb;omega)];exact q.C4 b hb'
  ·intro k cs' e'
   refine hmv (q.glob k cs' e') ?_;have:=(af2.glob k cs' e').inV;exact aj1 (fun id hid=>aK2 id ((af2.dom id).1 hid)) _ this
 ·exact hfz (r.tm t) (htm t).1 (htm t).2
theorem L8 {c:Ctx} {gen:Nat} {k:List It} {e:Exit} {σ:St} (id:Id) (L:List (Nat × V)) (B:List (Id × List V × List V)) {cs:List V} {h':H} {tm':Nat→V}
  (hh':h'=B.foldr (fun b h=>u9 h b.1 (.box b.2.2)) c.h0) (da3:tm'=L.foldr (fun p tm=>upd tm (some p.1) p.2) (fun _=>.undef))
  (af2:Rel c.env c.g0 c.w0 c.h0) (hb:σ.h id=some (.box cs)) 
  (h0:c.h0 id=none) (di0:∀ b∈B,b.1≠id) (hag:g9 c.h0 σ.h)
  (cU4:InL (fun j=>h' j≠none) cs)
  (hB:∀ b∈B,c.h0 b.1=none∧σ.h b.1=some (.box b.2.1)∧b.2.1.length=b.2.2.length∧(∀ p∈b.2.1.zip b.2.2,FzP id cs p.1 p.2)∧InL (fun j=>h' j≠none) b.2.2)
  (hL:∀ p∈L,FzP id cs (σ.tm p.1) p.2∧InV (fun j=>h' j≠none) p.2)
  (h:AR c gen k e ⟨tm',h'⟩):AR c gen k e σ:=by
 have key:∀ (B':List (Id × List V × List V)) (j:Id),(B'.foldr (fun b h=>u9 h b.1 (.box b.2.2)) c.h0) j=c.h0 j∨∃ b∈B',b.1=j∧(B'.foldr (fun b h=>u9 h b.1 (.box b.2.2)) c.h0) j=some (.box b.2.2):=by
  intro B' j
  induction B' with
  | nil=>exact .inl rfl
  | cons b B' ih =>
   by_cases hj:j=b.1
   ·right;exact ⟨b,sp_,hj.symm,by simp only [List.foldr_cons];rw [hj,B0]⟩
   ·simp only [List.foldr_cons]
    rw [l8 hj];rcases ih with h|⟨b',h1,h2,h3⟩
    ·exact .inl h
    ·exact .inr ⟨b',by simp [h1],h2,h3⟩
 have keyT:∀ (L':List (Nat × V)) (t:Nat),(L'.foldr (fun p tm=>upd tm (some p.1) p.2) (fun _=>V.undef)) t=.undef∨∃ p∈L',p.1=t∧(L'.foldr (fun p tm=>upd tm (some p.1) p.2) (fun _=>V.undef)) t=p.2:=by
  intro L' t
  induction L' with
  | nil=>exact .inl rfl
  | cons p L' ih =>
   simp only [List.foldr_cons,upd];by_cases ht:t=p.1
   ·right;exact ⟨p,sp_,ht.symm,by rw [if_pos ht]⟩
   ·rw [if_neg ht]
    rcases ih with h|⟨b',h1,h2,h3⟩
    ·exact .inl h
    ·exact .inr ⟨b',by simp [h1],h2,h3⟩
 refine bB5 id af2 hb cU4 ?_ ?_ ?_ ?_ h
 ·rcases key B id with h1|⟨b,h1,h2,_⟩
  ·rw [hh',h1];exact h0
  ·exact absurd h2 (di0 b h1)
 ·intro j hj
  rcases key B j with h1|⟨b,h1,h2,h3⟩
  ·left
   have e1:h' j=c.h0 j:=by rw [hh'];exact h1
   rw [e1] at hj ⊢;exact ⟨(hag j hj).symm,fun bs hbs=>hbs⟩
  ·right
   obtain ⟨_,b1,b2,b3,b4⟩:=hB b h1;subst h2;refine ⟨_,_,b1,by rw [hh'];exact h3,b2,fun i v v' hv hv'=>?_,b4⟩;refine b3 (v,v') ?_;have:(b.2.1.zip b.2.2)[i]? = some (v,v'):=by rw [List.getElem?_zip_eq_some];exact ⟨hv,hv'⟩
   exact List.mem_of_getElem? this
 ·intro j hj
  rcases key B j with h1|⟨b,h1,h2,h3⟩
  ·rw [hh',h1];exact hj
  ·rw [hh',h3];simp
 ·intro t
  rcases keyT L t with h1|⟨p,h1,h2,h3⟩
  ·rw [da3,h1];exact ⟨.inl rfl,by rw [InV];trivial⟩
  ·subst h2
   rw [da3,h3];exact hL p h1
/- Content types. -/
/- realize. -/
theorem FmG.qk {u:Bool} {k:Int} (hk:k=4∨k=5∨(u=true∧(k=6∨k=7))):k=4∨k=5∨k=6∨k=7:=by
 rcases hk with h|h|⟨_,h|h⟩<;>simp [h]
theorem bT8 {k:Int} (hk:k=4∨k=5∨k=6∨k=7):D9 k=1:=by rcases hk with rfl|rfl|rfl|rfl<;>rfl
theorem dc5 {k:Int} {t:Ty} {a:Fm}:fdp (fmQ k t a)=fdp a+1:=by simp [fmQ,fdp,bm5]
/- Existential quantifiers are counted. -/
mutual
def Fm.rv (F:Tm→Int→Tm):Fm→Int→Fm
 | .mk k t l a,b=>.mk k t (l.map fun x=>F x b) (Fm.rvL F a (evB k b))
def Fm.rvL (F:Tm→Int→Tm):List Fm→Int→List Fm
 | [],_=>[]
 | t::l,b=>t.rv F b::Fm.rvL F l b
end
theorem Fm.bQ9 {F:Tm→Int→Tm}:∀ (l:List Fm) (b:Int),Fm.rvL F l b=l.map fun t=>t.rv F b
 | [],b=>by simp [Fm.rvL]
 | t::l,b=>by simp [Fm.rvL,Fm.bQ9 l b]
theorem Fm.bU1 (F:Tm→Int→Tm) (f:Fm) (b:Int):f.rv F b=.mk f.kind f.type (f.r8.map fun x=>F x b) (f.args.map fun x=>x.rv F (evB f.kind b)):=by
 cases f;rw [Fm.rv,Fm.bQ9];rfl
/- The context of a sequent, and the places of its hypotheses. -/
mutual
def Fm.sm (F:Tm→Int→Int):Fm→Int→Int→Int
 | .mk k _ l a,b,n=>Fm.smL F a (evB k b) (l.foldl (fun n t=>x4 n (F t b)) n)
def Fm.smL (F:Tm→Int→Int):List Fm→Int→Int→Int
 | [],_,n=>n
 | f::l,b,n=>Fm.smL F l b (f.sm F b n)
end
theorem Fm.bA6 {F:Tm→Int→Int}:∀ (l:List Fm) (b n:Int),Fm.smL F l b n=l.foldl (fun n f=>f.sm F b n) n
 | [],b,n=>by simp [Fm.smL]
 | t::l,b,n=>by simp [Fm.smL,Fm.bA6 l b]
theorem Fm.bR9 (F:Tm→Int→Int) (f:Fm) (b n:Int):f.sm F b n=f.args.foldl (fun n x=>x.sm F (evB f.kind b) n) (f.r8.foldl (fun n t=>x4 n (F t b)) n):=by
 cases f;rw [Fm.sm,Fm.bA6];rfl
theorem ak4 {α:Type} {g:Int→α→Int} {l:List α} {i:Nat} {x:α} (h:l[i]? = some x) (n:Int):(l.take (i+1)).foldl g n=g ((l.take i).foldl g n) x:=by
 rw [List.take_add_one,h];simp
theorem TmG.ct5 {s:Tm} (hs:TmG s) (zs:m7 s≤5000) (ls:s.least 536870912=true) {a:Int} (ha0:0≤a) (ha:a≤100000):∀ (n:Nat) {t:Tm},TmG t→m7 t≤n→t.least 1000000000=true→∀ d:Int,0≤d→d+n≤100000 →
  t.rb (aE6 a s) d=F0 s 0 t (a+d)
 | 0,t,h,hn,_,_,_,_=>by have:=Q3 t;omega
 | n + 1,t,h,hn,hl,d,h0,hd=>by
  revert hn hl
  have e0:x4 0 (a+d)=a+d:=by rw [C9 om_ om_ om_ om_];omega
  refine h.aj9 (p:=fun t=>m7 t≤n+1→t.least 1000000000=true→t.rb (aE6 a s) d=F0 s 0 t (a+d)) ?_ ?_
  ·intro i hi _ hl
   have hi2:=bS4 hl;rw [u5,Tm.rb,F0,e0];simp only [beq_self_eq_true,if_true,aE6];rw [ai8 om_ om_ om_ om_,C9 (a:=a) om_ om_ om_ om_];have e1:(i - d==a)=(i==a+d):=by
    by_cases h:i=a+d
    ·have h1:(i==a+d)=true:=by simpa using h
     rw [h1];simp;omega
    ·have h1:(i==a+d)=false:=by simpa using h
     rw [h1];simp;omega
   have e2:decide (i - d>a)=decide (i>a+d):=by
    by_cases h:i>a+d
    ·rw [decide_eq_true h,decide_eq_true om_]
    ·rw [decide_eq_false h,decide_eq_false om_]
   rw [e1,e2,ck3 hs zs ls om_ om_ om_ om_]
   rfl
  ·intro k ty l hk _ hg _ hn hl
   rw [m7] at hn;rw [Tm.least,Bool.and_eq_true] at hl;have hr:=H9 k;have e:x4 (a+d) (r6 k)=a+(d+r6 k):=by rw [C9 om_ om_ om_ om_];omega
   rw [Tm.rb,Tm.au4,F0,O9,hk,e,aB6 h0 om_];simp only [Bool.false_eq_true,if_false];congr 1;refine List.map_congr_left fun y hy=>?_;exact TmG.ct5 hs zs ls ha0 ha n (hg y hy) (by have:=I3 hy;omega) (Tm.F6.1 hl.2 y hy) _ om_ om_
theorem aY6 {s t:Tm} (hs:TmG s) (zs:m7 s≤5000) (ls:s.least 536870912=true) (ht:TmG t) (zt:m7 t≤5000) (lt:t.least 536870912=true) {a:Int} (ha0:0≤a) (ha:a≤50000):Q5 t a s=F0 s 0 t a:=by
 have:=TmG.ct5 hs zs ls ha0 (by omega:a≤100000) _ ht (Nat.le_refl _) (O8 om_ _ lt) 0 om_ om_;rw [Int.add_zero] at this;exact this
theorem cN0 {u:Bool} {s:Tm} (hs:TmG s) (zs:m7 s≤5000) (ls:s.least 536870912=true) {f:Fm} (h:FmG u f):z6 f≤5000→f.least 536870912=true→∀ d:Int,0≤d→d+z6 f≤50000 →
  f.rv (fun t b=>Q5 t (x4 0 b) s) d=O1 s 0 f d:=by
 induction h with
 | @eq x y hx hy =>
  intro hz hl d h0 hd;rw [V6] at hd hz;obtain ⟨l1,l2⟩:=aD9.1 hl;rw [ar0,M3,Fm.bU1];simp only [Fm.kind,Fm.r8,Fm.args,Fm.type,List.map_cons,List.map_nil];rw [aZ1 h0 om_,aY6 hs zs ls hx om_ l1 h0 om_,aY6 hs zs ls hy om_ l2 h0 om_]
  rfl
 | @two k p q hk _ _ h1 h2 =>
  intro hz hl d h0 hd;rw [O0] at hd hz;obtain ⟨l1,l2⟩:=aF2 hl;rw [aq9,E8,Fm.bU1];simp only [Fm.kind,Fm.r8,Fm.args,Fm.type,List.map_cons,List.map_nil];rw [bm1 h0 om_,ah0 hk,Int.add_zero,J7 h0 om_,h1 om_ l1 d h0 om_,h2 om_ l2 d h0 om_]
  rfl
 | @q k t p hk hs' _ h1 =>
  intro hz hl d h0 hd;rw [ap8] at hd hz;rw [bm3,fmQ,Fm.bU1];simp only [Fm.kind,Fm.r8,Fm.args,Fm.type,List.map_cons,List.map_nil];rw [bm1 h0 om_,bT8 (FmG.qk hk),C9 om_ om_ om_ om_,h1 om_ (aP6 hl) _ om_ om_]
  rfl
theorem cU9 {u:Bool} {f:Fm} (h:FmG u f):z6 f≤5000→f.least 536870912=true→∀ (d:Int) (n:Nat),0≤d→d+z6 f≤50000→n+z6 f≤50000 →
  f.sm (fun t b=>t.count (x4 0 b)) d (n:Int)=((n+L9 f d:Nat):Int):=by
 induction h with
 | @eq x y hx hy =>
  intro hz hl d n h0 hd hn;rw [V6] at hd hz hn;obtain ⟨l1,l2⟩:=aD9.1 hl;have o1:=az6 x d;have o2:=az6 y d;rw [Fm.bR9,ch1,M3];simp only [Fm.kind,Fm.r8,Fm.args,List.foldl_cons,List.foldl_nil];rw [aZ1 h0 om_,hx.am2 om_ (O8 om_ _ l1) h0 om_,hy.am2 om_ (O8 om_ _ l2) h0 om_,
   C9 (a:=(n:Int)) om_ om_ om_ om_,C9 om_ om_ om_ om_]
  omega
 | @two k p q hk _ _ h1 h2 =>
  intro hz hl d n h0 hd hn;rw [O0] at hd hz hn;obtain ⟨l1,l2⟩:=aF2 hl;have o1:=ao4 p d;rw [Fm.bR9,bW5 hk,E8];simp only [Fm.kind,Fm.r8,Fm.args,List.foldl_cons,List.foldl_nil];rw [bm1 h0 om_,ah0 hk,Int.add_zero,h1 om_ l1 d n h0 om_ om_,h2 om_ l2 d _ h0 om_ om_];omega
 | @q k t p hk hs' _ h1 =>
  intro hz hl d n h0 hd hn;rw [ap8] at hd hz hn;rw [Fm.bR9,cH9 (FmG.qk hk),fmQ];simp only [Fm.kind,Fm.r8,Fm.args,List.foldl_cons,List.foldl_nil];rw [bm1 h0 om_,bT8 (FmG.qk hk),h1 om_ (aP6 hl) _ n om_ om_ om_]
theorem w7.least {g:List Ty} {t:Tm} {s:Ty} (h:w7 TyG g t s):∀ M:Int,1≤M→(g.length:Int)+m7 t≤M→t.least M=true:=by
 induction h with
 | var hi h=>intro M hM hb;rw [ao7] at hb;exact ac7 om_
 | lam hG _ ih=>intro M hM hb;rw [P9] at hb;exact L3 hM (ih M hM (by simp;omega))
 | n0 hN=>intro M hM hb;exact ae6 om_ sp_
 | n1 hN _ ih=>intro M hM hb;rw [P9] at hb;exact L3 hM (ih M hM om_)
 | n2 hN _ _ ih1 ih2=>intro M hM hb;rw [cG4] at hb;exact ae6 om_ (by simp [ih1 M hM om_,ih2 M hM om_])
 | n3 hN _ _ _ ih1 ih2 ih3=>intro M hM hb;rw [ai6] at hb;exact aq1 hM (ih1 M hM om_) (ih2 M hM om_) (ih3 M hM om_)
theorem TmG.toW {t:Tm} (h:TmG t):TmW t:=by
 induction h with
 | @plain k l a ha hl ht _ ih =>
  refine aR9 ?_ ih;have:a≤3:=by
   unfold arity at ha;split at ha
   ·cases ha
   ·rename_i hk
    have:k=1∨k=2∨k=3∨k=4∨k=5∨k=6∨k=7∨k=8∨k=9∨k=10∨k=11∨k=12∨k=13:=by omega
    rcases this with rfl|rfl|rfl|rfl|rfl|rfl|rfl|rfl|rfl|rfl|rfl|rfl|rfl<;>simp [arities] at ha<;>omega
  omega
 | var=>exact D4 _
 | @typd k t l a ha hl ht hg _ ih =>
  have:a≤3:=by
   unfold arity at ha;split at ha
   ·cases ha
   ·rename_i hk
    have:k=1∨k=2∨k=3∨k=4∨k=5∨k=6∨k=7∨k=8∨k=9∨k=10∨k=11∨k=12∨k=13:=by omega
    rcases this with rfl|rfl|rfl|rfl|rfl|rfl|rfl|rfl|rfl|rfl|rfl|rfl|rfl<;>simp [arities] at ha<;>omega
  exact .mk _ _ _ _ hg.1.W om_ ih
theorem FmG.toW {u:Bool} {f:Fm} (h:FmG u f):FmW f:=by
 induction h with
 | eq hx hy=>exact aW9 hx.toW hy.toW
 | two hk _ _ h1 h2=>exact .mk _ _ _ _ aw5 sp_ sp_ sp_ (by simp [h1,h2])
 | q hk hs _ h1=>exact .mk _ _ _ _ hs.1.W sp_ sp_ sp_ (by simp [h1])
inductive Dc:List Ty→Fm→Prop
 | eq {g:List Ty} {x y:Tm}:TmG x→TmG y→w7 TyG g x r5→w7 TyG g y r5→Dc g (M3 x y)
 | two {g:List Ty} {k:Int} {a b:Fm} (hk:k=2∨k=3):Dc g a→Dc g b→Dc g (E8 k a b)
 | bnd {g:List Ty} {all:Bool} {q:Tm} {a:Fm}:TmG q→w7 TyG (g++[r5]) q r5→E2 q 0=0→Dc (g++[r5]) a→Dc g (J0 all q a)
theorem Dc.G {u:Bool} {g:List Ty} {f:Fm} (h:Dc g f):FmG u f:=by
 induction h with
 | eq h1 h2 _ _=>exact .eq h1 h2
 | two hk _ _ h1 h2=>exact .two hk h1 h2
 | bnd hq _ _ _ h1=>exact bn0 hq h1
theorem an2 {all:Bool} {q:Tm} {a:Fm}:z6 (J0 all q a)=m7 q+z6 a+24:=by
 rw [aU8]
theorem Dc.ty {g:List Ty} {f:Fm} (h:Dc g f):ak3 TyG g f:=by
 induction h with
 | eq _ _ h1 h2=>exact .eq h1 h2
 | two hk _ _ h1 h2=>exact .two hk h1 h2
 | bnd _ hq _ _ h1=>exact cE1 hq h1
theorem Dc.least {g:List Ty} {f:Fm} (h:Dc g f):(g.length:Int)+z6 f≤100000→f.least 536870912=true:=by
 induction h with
 | eq _ _ h1 h2 =>
  intro hb;rw [V6] at hb;exact aD9.2 ⟨h1.least _ om_ om_,h2.least _ om_ om_⟩
 | two hk _ _ h1 h2 =>
  intro hb;rw [O0] at hb;exact bb4 (h1 om_) (h2 om_)
 | @bnd g all q a _ hq _ _ h1 =>
  intro hb;rw [an2] at hb;have hl:q.least 536870912=true:=hq.least _ om_ (by simp;omega);have db0:(J3 (u5 0) q).least 536870912=true :=
   cd6 (ab2 om_ (ab2 om_ (bh4 om_) (aC7 om_ (ac7 om_))) hl) (at2 om_)
  exact bU0 (cc9 db0 (h1 (by simp;omega)))
theorem bU7 {s:Tm} {all:Bool} {q:Tm} {a:Fm} {d:Int} (hd:0≤d) (hd2:d≤100000) :
  O1 s 0 (J0 all q a) d=J0 all (F0 s 0 q (d+1)) (O1 s 0 a (d+1)):=by
 have e0:x4 (d+1) (r6 3)=d+1:=J7 om_ om_;have hb:D9 (if all then 4 else 5)=1:=by cases all<;>rfl
 have hb2:D9 (if all then 3 else 2)=0:=by cases all<;>rfl
 unfold J0 J3;rw [bm3,hb,C9 om_ om_ om_ om_,aq9,hb2,J7 om_ om_,ar0,bU3 rfl,e0,bU3 rfl];simp only [List.map_cons,List.map_nil];rw [cv6 19 _ (by rw [cB5];omega) 1 (d+1) cA0 om_ om_ om_]
theorem Dc.inn {s:Tm} (gs:TmG s) (ts:w7 TyG [] s r5) (zs:m7 s≤4096) {g':List Ty} {f:Fm} (h:Dc g' f):∀ l:List Ty,g'=[r5]++l→l.length+z6 f≤10000→Dc l (O1 s 0 f (l.length:Int)):=by
 have ls:s.least 536870912=true:=ts.least _ om_ (by simp;omega)
 induction h with
 | @eq g x y gx gy h1 h2 =>
  intro l e hb;rw [V6] at hb;subst e;rw [ar0];have lx:x.least 536870912=true:=h1.least _ om_ (by simp;omega);have ly:y.least 536870912=true:=h2.least _ om_ (by simp;omega);exact .eq (TmG.inn gs ls _ gx (Nat.le_refl _) lx _ om_ om_) (TmG.inn gs ls _ gy (Nat.le_refl _) ly _ om_ om_)
   (h1.inn [] l rfl ts om_ (by simp;omega)) (h2.inn [] l rfl ts om_ (by simp;omega))
 | @two g k a b hk _ _ ih1 ih2 =>
  intro l e hb;rw [O0] at hb;rw [aq9,ah0 hk,J7 om_ om_];exact .two hk (ih1 l e om_) (ih2 l e om_)
 | @bnd g all q a gq hq oq _ ih =>
  intro l e hb;rw [an2] at hb;subst e;rw [bU7 om_ om_];have lq:q.least 536870912=true:=hq.least _ om_ (by simp;omega);have e1:((l.length:Int)+1)=((l++[r5]).length:Int):=by simp
  refine .bnd ?_ ?_ ?_ ?_
  ·exact TmG.inn gs ls _ gq (Nat.le_refl _) lq _ om_ om_
  ·rw [e1];exact hq.inn [] (l++[r5]) sp_ ts (by simp;omega) (by simp;omega)
  ·rw [TmG.bq0 gs om_ (O8 om_ _ ls) _ gq (Nat.le_refl _) (O8 om_ _ lq) _ 0 om_ om_ om_];exact oq
  ·rw [e1];exact ih (l++[r5]) sp_ (by simp;omega)
def evN (m:Nat) (t:Tm):Nat × Nat × Bool:=match ev m (m+1) 0 t [] with|some (r,u,o)=>(r.num,u,o)|none=>(0,0,true)
theorem bj6 {m:Nat} {t:Tm} (ht:w7 TyG [] t r5):∃ r u o,ev m (m+1) 0 t []=some (r,u,o)∧evN m t=(r.num,u,o)∧u≤m:=by
 obtain ⟨r,u,o,h1,_,h3,_⟩:=cU3 (Q:=TyG) (most:=m) (m+1) 0 t [] [] r5 om_ om_ ht ⟨rfl,sp_⟩;exact ⟨r,u,o,h1,by simp [evN,h1],h3⟩
theorem bm4 {m:Nat} {t:Tm} (ht:w7 TyG [] t r5) (wt:TmW t) (hm:m≤65536):(evN m t).2.1≤m∧((evN m t).2.2=false→(evN m t).1≤m):=by
 obtain ⟨r,u,o,h1,h2,h3⟩:=bj6 (m:=m) ht;rw [h2];refine ⟨h3,fun ho=>?_⟩;simp only at ho;subst ho;obtain ⟨_,_,h4⟩:=cI8 om_ (m+1) 0 0 t [] r u false h1 om_ om_ wt sp_ sp_;have:=(h4 rfl).2.n1;omega
abbrev Ans:=Bool × Nat × Int
def H3 (f:Fm) (s:Tm):Fm × Int:=if z6 f+L9 f 0 * (m7 s - 1)≤4096 then (O1 s 0 f 0,0) else (O3,4)
def dN (lim w:Nat) (t:Tm):Nat × Nat × Int:=if (evN (lim - w) t).2.2 then (0,w,5) else ((evN (lim - w) t).1,w+(evN (lim - w) t).2.1,0)
def dW (D:Nat→Fm→Ans) (f:Fm) (k w:Nat):Ans :=
 if 4096≤k then (false,w,4) else if (H3 f (C5 k)).2 != 0 then (false,w,(H3 f (C5 k)).2) else D w (H3 f (C5 k)).1
def dB (D:Nat→Fm→Ans) (lim:Nat) (all:Bool) (f:Fm):Nat→Nat→Nat→Ans
 | 0,_,w=>(all,w,0)
 | n+1,k,w=>if lim≤w then (false,w,5) else
  if (dW D f k (w+1)).2.2 != 0||(dW D f k (w+1)).1 != all then dW D f k (w+1) else dB D lim all f n (k+1) (dW D f k (w+1)).2.1
def dE (lim w:Nat) (x y:Tm):Ans :=
 if (dN lim w x).2.2 != 0 then (false,(dN lim w x).2.1,(dN lim w x).2.2)
 else if (dN lim (dN lim w x).2.1 y).2.2 != 0 then (false,(dN lim (dN lim w x).2.1 y).2.1,(dN lim (dN lim w x).2.1 y).2.2)
 else ((dN lim w x).1==(dN lim (dN lim w x).2.1 y).1,(dN lim (dN lim w x).2.1 y).2.1,0)
def dT (lim:Nat):Nat→Nat→Fm→Ans
 | 0,w,_=>(false,w,0)
 | n+1,w,f =>
  if f.kind==1 then dE lim w (f.r8.getD 0 C6) (f.r8.getD 1 C6)
  else if f.kind==2 then (if (dT lim n w (fa f 0)).1 then dT lim n (dT lim n w (fa f 0)).2.1 (fa f 1) else dT lim n w (fa f 0))
  else if f.kind==3 then
   (if (dT lim n w (fa f 0)).2.2 != 0||!(dT lim n w (fa f 0)).1 then ((dT lim n w (fa f 0)).2.2==0,(dT lim n w (fa f 0)).2.1,(dT lim n w (fa f 0)).2.2) else dT lim n (dT lim n w (fa f 0)).2.1 (fa f 1))
  else if (dN lim w (Q5 (M9 f) 0 C6)).2.2 != 0 then (false,(dN lim w (Q5 (M9 f) 0 C6)).2.1,(dN lim w (Q5 (M9 f) 0 C6)).2.2)
  else dB (fun w f=>dT lim n w f) lim (f.kind==4) (aa9 f) (dN lim w (Q5 (M9 f) 0 C6)).1 0 (dN lim w (Q5 (M9 f) 0 C6)).2.1
theorem ck7 {lim n w:Nat} {x y:Tm}:dT lim (n+1) w (M3 x y)=dE lim w x y:=rfl
theorem bk0 {lim n w:Nat} {a b:Fm}:dT lim (n+1) w (E8 2 a b)=if (dT lim n w a).1 then dT lim n (dT lim n w a).2.1 b else dT lim n w a:=rfl
theorem bl7 {lim n w:Nat} {a b:Fm}:dT lim (n+1) w (E8 3 a b) =
  if (dT lim n w a).2.2 != 0||!(dT lim n w a).1 then ((dT lim n w a).2.2==0,(dT lim n w a).2.1,(dT lim n w a).2.2) else dT lim n (dT lim n w a).2.1 b:=rfl
theorem bC1 {lim n w:Nat} {all:Bool} {q:Tm} {a:Fm}:dT lim (n+1) w (J0 all q a) =
  if (dN lim w (Q5 q 0 C6)).2.2 != 0 then (false,(dN lim w (Q5 q 0 C6)).2.1,(dN lim w (Q5 q 0 C6)).2.2)
  else dB (fun w f=>dT lim n w f) lim all a (dN lim w (Q5 q 0 C6)).1 0 (dN lim w (Q5 q 0 C6)).2.1:=by
 cases all<;>rfl
theorem aU4 {all:Bool} {q:Tm} {a:Fm}:fdp (J0 all q a)=fdp a+2:=by
 have:=aC8 a;unfold J0;rw [dc5,aJ0,J3,cy6];omega
theorem cI1 {s:Tm}:∀ (f:Fm) (d:Int),fdp (O1 s 0 f d)=fdp f:=by
 intro f
 induction f using Fm.ind with|h f ih=>?_
 intro d;obtain ⟨k,t,l,a⟩:=f;rw [O1,aH1,fdp,fdp];congr 1;have:∀ (l:List Fm) (d:Int),(∀ x∈l,∀ d,fdp (O1 s 0 x d)=fdp x)→bm5 (l.map fun x=>O1 s 0 x d)=bm5 l:=by
  intro l
  induction l with
  | nil=>intro d _;rfl
  | cons x l ih2=>intro d h;rw [List.map_cons,bm5,bm5,h x sp_,ih2 d (fun y hy=>h y (by simp [hy]))]
 exact this a _ (fun x hx d=>ih x hx d)
theorem br8 {q:Tm} (gq:TmG q) (hq:w7 TyG [r5] q r5) (oq:E2 q 0=0) (zq:m7 q≤4096):TmG (Q5 q 0 C6)∧w7 TyG [] (Q5 q 0 C6) r5∧m7 (Q5 q 0 C6)=m7 q:=by
 have g0:TmG (tm0 4 []):=.t0 ar4 rfl;have lq:q.least 536870912=true:=hq.least _ om_ (by simp;omega);have key:∀ (n:Nat) {s s' t:Tm},TmG t→m7 t≤n→∀ d:Int,0≤d→d+n≤100000→E2 t d=0→t.least 1000000000=true→t.rb (aE6 0 s) d=t.rb (aE6 0 s') d:=by
  intro n
  induction n with
  | zero=>intro s s' t _ hn;have:=Q3 t;omega
  | succ n ih =>
   intro s s' t gt hn d h0 hd ho hl
   revert hn ho hl
   refine gt.aj9 (p:=fun t=>m7 t≤n+1→E2 t d=0→t.least 1000000000=true→t.rb (aE6 0 s) d=t.rb (aE6 0 s') d) ?_ ?_
   ·intro i hi _ ho hl
    have hi2:=bS4 hl;rw [u5,E2] at ho;simp only [beq_self_eq_true,if_true] at ho;have hne:i≠d:=by intro e;subst e;simp at ho
    rw [u5,Tm.rb,Tm.rb];simp only [beq_self_eq_true,if_true,aE6];rw [ai8 om_ om_ om_ om_];have:(i - d==0)=false:=by simp;omega
    rw [this];rfl
   ·intro k ty l hk _ hg _ hn ho hl
    rw [m7] at hn;rw [Tm.least,Bool.and_eq_true] at hl;rw [E2,hk] at ho;simp only [Bool.false_eq_true,if_false] at ho;have hr:=H9 k;rw [Tm.rb,Tm.au4,Tm.rb,Tm.au4,hk,aB6 h0 om_];simp only [Bool.false_eq_true,if_false];congr 1;refine List.map_congr_left fun y hy=>?_;have hoy:E2 y (d+r6 k)=0:=by
     have:∀ {l:List Tm},y∈l→J8 l (d+r6 k)=0→E2 y (d+r6 k)=0:=by
      intro l
      induction l with
      | nil=>intro h;simp at h
      | cons z l ihl =>
       intro h h2;rw [J8] at h2;rcases List.mem_cons.1 h with rfl|h
       ·omega
       ·exact ihl h om_
     exact this hy ho
    exact ih (hg y hy) (by have:=I3 hy;omega) _ om_ om_ hoy (Tm.F6.1 hl.2 y hy)
 have e:Q5 q 0 C6=F0 (tm0 4 []) 0 q 0:=by
  rw [← aY6 g0 (by simp [tm0,m7,F8]) (at2 om_) gq om_ lq om_ om_];exact key _ gq (Nat.le_refl _) 0 om_ om_ oq (O8 om_ _ lq)
 rw [e];refine ⟨TmG.inn g0 (at2 om_) _ gq (Nat.le_refl _) lq 0 om_ om_,?_,?_⟩
 ·have:=hq.inn [] [] rfl (w7.num 0) (by simp;omega) (by simp [C5,tm0,m7,F8])
  exact this
 ·rw [TmG.aF9 _ gq (Nat.le_refl _) 0 om_ om_,oq];omega
theorem Dc.put {a:Fm} (h:Dc [r5] a) (za:z6 a≤4096) {k:Nat} (hk:k<4096) (hp:(H3 a (C5 k)).2=0):Dc [] (H3 a (C5 k)).1∧z6 (H3 a (C5 k)).1≤4096∧fdp (H3 a (C5 k)).1=fdp a:=by
 have zk:m7 (C5 k)=k+1:=S4 k;unfold H3 at hp ⊢;split at hp
 ·rename_i hle
  rw [if_pos hle];refine ⟨h.inn (at6 k) (w7.num k) om_ [] rfl (by simp;omega),?_,cI1 _ _⟩;rw [(h.G (u:=true)).aF9 0 om_ om_];exact hle
 ·simp at hp
theorem ax0.dc {n:Nat} {g:List Ty} {f:Fm} (h:ax0 n g f) (hg:∀ y∈g,V9 1 y) (hb:g.length+n≤10000):Dc g f:=by
 induction h with
 | eq h1 h2=>exact .eq (h1.small hg om_).1 (h2.small hg om_).1 (h1.ty (cS4 hg) cl0) (h2.ty (cS4 hg) cl0)
 | two hk _ _ h1 h2=>exact .two hk (h1 hg om_) (h2 hg om_)
 | @bnd n g all x b hx _ h1 =>
  have hz:=(hx.small hg om_).2.1;obtain ⟨u1,u2,u3⟩:=hx.up1 hg om_;refine .bnd u1 ((hx.ty (cS4 hg) cl0).up0 om_ om_) ?_ (h1 (bH2 hg .nat) (by simp;omega));exact TmG.bH4 _ (hx.small hg om_).1 (Nat.le_refl _) (hx.small hg om_).2.2 0 om_ om_
theorem Dc.fld {g:List Ty} {f:Fm} (h:Dc g f):g.length+z6 f≤50000→f.fl.d=true:=by
 induction h with
 | eq _ _ _ _=>intro _;rw [Fm.bL3]
 | two hk _ _ h1 h2 =>
  intro hb;rw [O0] at hb;rw [Fm.bJ2 hk,h1 om_,h2 om_];rfl
 | @bnd g all q a gq tq oq _ h1 =>
  intro hb;rw [an2] at hb;rw [bO0 (by rw [gq.am2 om_ (tq.least _ om_ (by simp;omega)) om_ om_,oq];rfl)];exact h1 (by simp;omega)
def EvM (m:Nat) (E F:Evl):Prop:=∀ u t e r u',u≤m→E u t e=some (r,u',false)→u≤u'∧u'≤m∧F u t e=some (r,u',false)
section
variable {m:Nat} {E F:Evl} (hM:EvM m E F)
include hM
theorem bx4 {e:List Res}:∀ {l:List Tm} {u u':Nat} {l':List Res},u≤m→Q1 E e u l=some (l',u',false)→u≤u'∧u'≤m∧Q1 F e u l=some (l',u',false)
 | [],u,u',l',hu,h=>by
  simp only [Q1,Option.some.injEq,Prod.mk.injEq] at h;obtain ⟨rfl,rfl,_⟩:=h;exact ⟨Nat.le_refl _,hu,rfl⟩
 | t :: l,u,u',l',hu,h=>by
  rw [Q1] at h ⊢;cases h1:E u t e with
  | none=>rw [h1] at h;cases h
  | some p =>
   obtain ⟨r,u1,o⟩:=p;rw [h1] at h;cases o with
   | true=>simp at h
   | false =>
    obtain ⟨a1,a2,a3⟩:=hM u t e r u1 hu h1;simp only at h;cases h2:Q1 E e u1 l with
    | none=>rw [h2] at h;cases h
    | some q =>
     obtain ⟨l2,u2,o2⟩:=q;rw [h2] at h;simp only [Option.some.injEq,Prod.mk.injEq] at h;obtain ⟨rfl,rfl,rfl⟩:=h;obtain ⟨b1,b2,b3⟩:=bx4 a2 h2;rw [a3];simp only [b3];exact ⟨om_,b2,trivial⟩
theorem aq2 {u u':Nat} {f a r:Res} (hu:u≤m) (h:I7 E u f a=some (r,u',false)):u≤u'∧u'≤m∧I7 F u f a=some (r,u',false):=hM _ _ _ _ _ hu h
theorem bN0 {s:Res}:∀ {n k u u':Nat} {r r':Res},u≤m→ad7 E s n k u r=some (r',u',false)→u≤u'∧u'≤m∧ad7 F s n k u r=some (r',u',false)
 | 0,k,u,u',r,r',hu,h=>by
  simp only [ad7,Option.some.injEq,Prod.mk.injEq] at h;obtain ⟨rfl,rfl,_⟩:=h;exact ⟨Nat.le_refl _,hu,rfl⟩
 | n + 1,k,u,u',r,r',hu,h=>by
  rw [ad7] at h ⊢;cases h1:I7 E u s (am7 k) with
  | none=>rw [h1] at h;cases h
  | some p =>
   obtain ⟨f,u1,o⟩:=p;rw [h1] at h;cases o with
   | true=>simp at h
   | false =>
    obtain ⟨a1,a2,a3⟩:=aq2 hM hu h1;simp only at h;cases h2:I7 E u1 f r with
    | none=>rw [h2] at h;cases h
    | some q =>
     obtain ⟨r1,u2,o2⟩:=q;rw [h2] at h;cases o2 with
     | true=>simp at h
     | false =>
      obtain ⟨b1,b2,b3⟩:=aq2 hM a2 h2;simp only at h;obtain ⟨c1,c2,c3⟩:=bN0 b2 h;rw [a3];simp only [b3];exact ⟨om_,c2,c3⟩
theorem bu8 {s:Res} {l:List Nat}:∀ {n u u':Nat} {r r':Res},u≤m→V4 E s l n u r=some (r',u',false)→u≤u'∧u'≤m∧V4 F s l n u r=some (r',u',false)
 | 0,u,u',r,r',hu,h=>by
  simp only [V4,Option.some.injEq,Prod.mk.injEq] at h;obtain ⟨rfl,rfl,_⟩:=h;exact ⟨Nat.le_refl _,hu,rfl⟩
 | n + 1,u,u',r,r',hu,h=>by
  rw [V4] at h ⊢;cases h1:I7 E u s (am7 (l.getD n 0)) with
  | none=>rw [h1] at h;cases h
  | some p =>
   obtain ⟨f,u1,o⟩:=p;rw [h1] at h;cases o with
   | true=>simp at h
   | false =>
    obtain ⟨a1,a2,a3⟩:=aq2 hM hu h1;simp only at h;cases h2:I7 E u1 f (ag4 (l.drop (n+1))) with
    | none=>rw [h2] at h;cases h
    | some q =>
     obtain ⟨f2,u2,o2⟩:=q;rw [h2] at h;cases o2 with
     | true=>simp at h
     | false =>
      obtain ⟨b1,b2,b3⟩:=aq2 hM a2 h2;simp only at h;cases h3:I7 E u2 f2 r with
      | none=>rw [h3] at h;cases h
      | some q =>
       obtain ⟨r1,u3,o3⟩:=q;rw [h3] at h;cases o3 with
       | true=>simp at h
       | false =>
        obtain ⟨c1,c2,c3⟩:=aq2 hM b2 h3;simp only at h;obtain ⟨d1,d2,d3⟩:=bu8 c2 h;rw [a3];simp only [b3,c3];exact ⟨om_,d2,d3⟩
theorem cP5 {k:Int} {u u':Nat} {l:List Res} {r:Res} (hu:u≤m) (h:O7 E k u l=some (r,u',false)):u≤u'∧u'≤m∧O7 F k u l=some (r,u',false):=by
 have one:∀ {x:Option (Res × Nat × Bool)} {y:Res},x=some (y,u,false)→x=some (r,u',false)→u≤u'∧u'≤m:=by
  intro x y h1 h2;rw [h1] at h2;simp only [Option.some.injEq,Prod.mk.injEq] at h2;obtain ⟨_,rfl,_⟩:=h2;exact ⟨Nat.le_refl _,hu⟩
 unfold O7 at h ⊢;split at h
 ·rename_i hk
  rw [if_pos hk];split at h
  ·exact aq2 hM hu h
  ·cases h
 rename_i hk;rw [if_neg hk];clear hk;split at h
 ·rename_i hk
  rw [if_pos hk];split at h
  ·exact ⟨(one rfl h).1,(one rfl h).2,h⟩
  ·cases h
 rename_i hk;rw [if_neg hk];clear hk;split at h
 ·rename_i hk
  rw [if_pos hk];split at h
  ·exact bN0 hM hu h
  ·cases h
 rename_i hk;rw [if_neg hk];clear hk;split at h
 ·rename_i hk
  rw [if_pos hk];split at h
  ·exact ⟨(one rfl h).1,(one rfl h).2,h⟩
  ·cases h
 rename_i hk;rw [if_neg hk];clear hk;split at h
 ·rename_i hk
  rw [if_pos hk];split at h
  ·exact bu8 hM hu h
  ·cases h
 rename_i hk;rw [if_neg hk];clear hk;refine ⟨?_,?_,h⟩
 all_goals
  repeat' split at h
  all_goals first|exact (one rfl h).1|exact (one rfl h).2|cases h
theorem ci5 {m':Nat} (hm:m≤m'):EvM m (ab7 m E) (ab7 m' F):=by
 intro u t e r u' hu h;unfold ab7 at h ⊢;split at h
 ·simp at h
 rename_i hne;rw [if_neg (by omega:¬ u=m')];split at h
 ·rename_i hk
  rw [if_pos hk];split at h
  ·rename_i h0
   rw [if_pos h0];cases hx:e[((e.length:Int) - 1 - t.index).toNat]? with
   | none=>rw [hx] at h;cases h
   | some x =>
    rw [hx] at h;simp only [Option.map_some,Option.some.injEq,Prod.mk.injEq] at h;obtain ⟨rfl,rfl,_⟩:=h;exact ⟨om_,om_,rfl⟩
  ·cases h
 rename_i hk;rw [if_neg hk];clear hk;split at h
 ·rename_i hk
  rw [if_pos hk];split at h
  ·simp only [Option.some.injEq,Prod.mk.injEq] at h
   obtain ⟨rfl,rfl,_⟩:=h;exact ⟨om_,om_,rfl⟩
  ·cases h
 rename_i hk;rw [if_neg hk];clear hk;cases h1:Q1 E e (u+1) t.args with
 | none=>rw [h1] at h;cases h
 | some p =>
  obtain ⟨l,u1,o⟩:=p;rw [h1] at h;cases o with
  | true=>simp at h
  | false =>
   obtain ⟨a1,a2,a3⟩:=bx4 hM om_ h1;simp only at h;obtain ⟨b1,b2,b3⟩:=cP5 hM a2 h;rw [a3];exact ⟨om_,b2,b3⟩
end
theorem dd3 {m m':Nat} (hm:m≤m'):∀ {f f':Nat},f≤f'→EvM m (ev m f) (ev m' f')
 | 0,_,_=>fun u t e r u' _ h=>by simp [ev] at h
 | f+1,0,h=>by omega
 | f+1,f'+1,h=>by rw [aC4,aC4];exact ci5 (dd3 hm om_) hm
theorem cT6 {m m' n u:Nat} {t:Tm} (hm:m≤m') (h:evN m t=(n,u,false)):u≤m∧evN m' t=(n,u,false):=by
 unfold evN at h;split at h
 ·rename_i r u1 o h1
  simp only [Prod.mk.injEq] at h;obtain ⟨rfl,rfl,rfl⟩:=h;obtain ⟨a1,a2,a3⟩:=dd3 hm (show m+1≤m'+1 by omega) 0 t [] r u1 om_ h1;exact ⟨a2,by simp [evN,a3]⟩
 ·simp at h
theorem cj1 {lim w n w1 lim' w0:Nat} {t:Tm} (hw:w≤lim) (h:dN lim w t=(n,w1,0)) (h0:w0≤lim') (hl:lim - w≤lim' - w0) :
  w≤w1∧w1≤lim∧dN lim' w0 t=(n,w0+(w1 - w),0):=by
 unfold dN at h;generalize hx:evN (lim - w) t=x at h;obtain ⟨n',u,o⟩:=x;cases o with
 | true=>simp at h
 | false =>
  simp only [Bool.false_eq_true,if_false,Prod.mk.injEq,and_true] at h;obtain ⟨rfl,rfl⟩:=h;obtain ⟨a1,a2⟩:=cT6 hl hx;refine ⟨om_,om_,?_⟩;unfold dN;rw [a2];simp
def ci8 (a:Ans):Prop:=(a.1=true→a.2.2=0)∧(a.2.2=0∨a.2.2=4∨a.2.2=5)
theorem bf7 (f:Fm) (s:Tm):(H3 f s).2=0∨(H3 f s).2=4:=by unfold H3;split<;>simp
theorem bo2 (lim w:Nat) (t:Tm):(dN lim w t).2.2=0∨(dN lim w t).2.2=5:=by unfold dN;split<;>simp
theorem cE7 (lim w:Nat) (x y:Tm):ci8 (dE lim w x y):=by
 unfold dE ci8;split
 ·exact ⟨sp_,by rcases bo2 lim w x with h|h<;>simp [h]⟩
 ·split
  ·exact ⟨sp_,by rcases bo2 lim (dN lim w x).2.1 y with h|h<;>simp [h]⟩
  ·exact ⟨fun _=>rfl,.inl rfl⟩
theorem bN2 {lim:Nat} {D:Nat→Fm→Ans} {all:Bool} {a:Fm} (hD:∀ k w,k<4096→(H3 a (C5 k)).2=0→ci8 (D w (H3 a (C5 k)).1)):∀ n k w,ci8 (dB D lim all a n k w)
 | 0,k,w=>⟨fun _=>rfl,.inl rfl⟩
 | n+1,k,w=>by
  rw [dB];split
  ·exact ⟨sp_,sp_⟩
  ·split
   ·unfold dW
    by_cases hk:4096≤k
    ·rw [if_pos hk];exact ⟨sp_,sp_⟩
    rw [if_neg hk];rcases bf7 a (C5 k) with h|h
    ·rw [h];simp only [bne_self_eq_false,Bool.false_eq_true,if_false];exact hD k _ om_ h
    ·rw [h];exact ⟨sp_,sp_⟩
   ·exact bN2 hD n (k+1) _
theorem aJ7 {lim:Nat}:∀ (n:Nat) (f:Fm) (w:Nat),fdp f≤n→Dc [] f→z6 f≤4096→ci8 (dT lim n w f)
 | 0,f,w,hn,_,_=>by have:=aC8 f;omega
 | n+1,f,w,hn,hf,zf=>by
  generalize hg:([]:List Ty)=g at hf;cases hf with
  | eq _ _ _ _=>rw [ck7];exact cE7 _ _ _ _
  | @two _ k x y hk da db =>
   subst hg;rw [O0] at zf;rw [aJ0] at hn;have ihx:=fun w=>aJ7 (lim:=lim) n x w om_ da om_;have ihy:=fun w=>aJ7 (lim:=lim) n y w om_ db om_;rcases hk with rfl|rfl
   ·rw [bk0]
    split
    ·exact ihy _
    ·exact ihx w
   ·rw [bl7]
    split
    ·exact ⟨fun h=>by simpa using h,(ihx w).2⟩
    ·exact ihy _
  | @bnd _ all q a gq tq oq da =>
   subst hg;rw [an2] at zf;rw [aU4] at hn;rw [bC1];split
   ·exact ⟨sp_,by rcases bo2 lim w (Q5 q 0 C6) with h|h<;>simp [h]⟩
   ·refine bN2 (fun k w hk hp=>?_) _ _ _
    obtain ⟨p1,p2,p3⟩:=da.put om_ hk hp;exact aJ7 n _ w om_ p1 p2
def UpD (lim lim':Nat) (D D':Nat→Fm→Ans) (f:Fm):Prop:=∀ w b w1 w0,w≤lim→D w f=(b,w1,0)→w0≤lim'→lim - w≤lim' - w0→w≤w1∧w1≤lim∧D' w0 f=(b,w0+(w1 - w),0)
theorem cM1 {lim lim':Nat} {D D':Nat→Fm→Ans} {all:Bool} {a:Fm} (hD:∀ k,k<4096→(H3 a (C5 k)).2=0→UpD lim lim' D D' (H3 a (C5 k)).1) :
  ∀ n k w b w1 w0,w≤lim→dB D lim all a n k w=(b,w1,0)→w0≤lim'→lim - w≤lim' - w0→w≤w1∧w1≤lim∧dB D' lim' all a n k w0=(b,w0+(w1 - w),0)
 | 0,k,w,b,w1,w0,hw,h,h0,hl=>by
  simp only [dB,Prod.mk.injEq,and_true] at h;obtain ⟨rfl,rfl⟩:=h;exact ⟨Nat.le_refl _,hw,by simp [dB]⟩
 | n+1,k,w,b,w1,w0,hw,h,h0,hl=>by
  rw [dB] at h;by_cases hlt:lim≤w
  ·rw [if_pos hlt] at h;simp at h
  rw [if_neg hlt] at h;have hW:∀ b2 w2,dW D a k (w+1)=(b2,w2,0)→w+1≤w2∧w2≤lim∧dW D' a k (w0+1)=(b2,w0+1+(w2 - (w+1)),0):=by
   intro b2 w2 h2;unfold dW at h2;by_cases hk:4096≤k
   ·rw [if_pos hk] at h2;simp at h2
   rw [if_neg hk] at h2;cases hz:((H3 a (C5 k)).2 != 0) with
   | true =>
    rw [hz] at h2;simp only [if_true,Prod.mk.injEq] at h2;rw [h2.2.2] at hz;simp at hz
   | false =>
    rw [hz] at h2;simp only [Bool.false_eq_true,if_false] at h2;obtain ⟨c1,c2,c3⟩:=hD k om_ (by simpa using hz) (w+1) b2 w2 (w0+1) om_ h2 om_ om_;refine ⟨c1,c2,?_⟩;unfold dW;rw [if_neg hk,hz];simp only [Bool.false_eq_true,if_false];exact c3
  rw [dB,if_neg om_];generalize hp:dW D a k (w+1)=p at h hW;obtain ⟨b2,w2,e2⟩:=p;simp only at h;cases hs:(e2 != 0||b2 != all) with
  | true =>
   rw [hs] at h;simp only [if_true,Prod.mk.injEq] at h;obtain ⟨rfl,rfl,rfl⟩:=h;obtain ⟨c1,c2,c3⟩:=hW b2 w2 rfl;rw [c3];simp only [hs,if_true];exact ⟨om_,c2,by simp;omega⟩
  | false =>
   rw [hs] at h;simp only [Bool.false_eq_true,if_false] at h;have he:e2=0:=by
    have:=hs;simp at this;exact this.1
   subst he;obtain ⟨c1,c2,c3⟩:=hW b2 w2 rfl;obtain ⟨d1,d2,d3⟩:=cM1 hD n (k+1) w2 b w1 (w0+1+(w2 - (w+1))) c2 h om_ om_;rw [c3];simp only [hs,Bool.false_eq_true,if_false];refine ⟨om_,d2,?_⟩;rw [d3];simp;omega
theorem bM8 {lim lim':Nat}:∀ (n:Nat) (f:Fm),fdp f≤n→Dc [] f→z6 f≤4096→∀ n',fdp f≤n'→UpD lim lim' (dT lim n) (dT lim' n') f
 | 0,f,hn,_,_,_,_=>by have:=aC8 f;omega
 | n+1,f,hn,_,_,0,hn'=>by have:=aC8 f;omega
 | n + 1,f,hn,hf,zf,n'+1,hn'=>by
  intro w b w1 w0 hw h h0 hl;generalize hg:([]:List Ty)=g at hf;cases hf with
  | @eq _ x y gx gy tx ty =>
   rw [ck7] at h ⊢;unfold dE at h ⊢;generalize hx:dN lim w x=p at h;obtain ⟨m1,v1,e1⟩:=p;simp only at h;cases he:(e1 != 0) with
   | true =>
    rw [he] at h;simp only [if_true,Prod.mk.injEq] at h;rw [h.2.2] at he;simp at he
   | false =>
    rw [he] at h;simp only [Bool.false_eq_true,if_false] at h;obtain rfl:e1=0:=by simpa using he
    obtain ⟨a1,a2,a3⟩:=cj1 hw hx h0 hl;generalize hy:dN lim v1 y=q at h;obtain ⟨m2,v2,e2⟩:=q;simp only at h;cases he2:(e2 != 0) with
    | true =>
     rw [he2] at h;simp only [if_true,Prod.mk.injEq] at h;rw [h.2.2] at he2;simp at he2
    | false =>
     rw [he2] at h;simp only [Bool.false_eq_true,if_false,Prod.mk.injEq,and_true] at h;obtain rfl:e2=0:=by simpa using he2
     obtain ⟨rfl,rfl⟩:=h;obtain ⟨b1,b2,b3⟩:=cj1 a2 hy (show w0+(v1 - w)≤lim' by omega) om_;rw [a3];simp only [b3];refine ⟨om_,b2,?_⟩;simp;omega
  | @two _ k x y hk da db =>
   subst hg;rw [O0] at zf;rw [aJ0] at hn hn';have ihx:=bM8 (lim:=lim) (lim':=lim') n x om_ da om_ n' om_;have ihy:=bM8 (lim:=lim) (lim':=lim') n y om_ db om_ n' om_;generalize hx:dT lim n w x=p;obtain ⟨b1,v1,e1⟩:=p;rcases hk with rfl|rfl
   ·rw [bk0,hx] at h
    rw [bk0];cases b1 with
    | false =>
     simp only [Bool.false_eq_true,if_false,Prod.mk.injEq] at h;obtain ⟨rfl,rfl,rfl⟩:=h;obtain ⟨a1,a2,a3⟩:=ihx w false v1 w0 hw hx h0 hl;rw [a3];exact ⟨a1,a2,rfl⟩
    | true =>
     simp only [if_true] at h;have he:e1=0:=by
      have:=(aJ7 (lim:=lim) n x w om_ da om_).1;rw [hx] at this;exact this rfl
     subst he;obtain ⟨a1,a2,a3⟩:=ihx w true v1 w0 hw hx h0 hl;obtain ⟨c1,c2,c3⟩:=ihy v1 b w1 (w0+(v1 - w)) a2 h om_ om_;rw [a3];simp only [if_true,c3];refine ⟨om_,c2,?_⟩;simp;omega
   ·rw [bl7,hx] at h
    rw [bl7];simp only at h;cases hs:(e1 != 0||!b1) with
    | true =>
     rw [hs] at h;simp only [if_true,Prod.mk.injEq] at h;obtain ⟨rfl,rfl,rfl⟩:=h;obtain ⟨a1,a2,a3⟩:=ihx w b1 v1 w0 hw hx h0 hl;rw [a3];simp only [hs,if_true];exact ⟨a1,a2,trivial⟩
    | false =>
     rw [hs] at h;simp only [Bool.false_eq_true,if_false] at h;simp only [Bool.or_eq_false_iff,bne_eq_false_iff_eq] at hs;obtain ⟨rfl,hb⟩:=hs;obtain ⟨a1,a2,a3⟩:=ihx w b1 v1 w0 hw hx h0 hl;obtain ⟨c1,c2,c3⟩:=ihy v1 b w1 (w0+(v1 - w)) a2 h om_ om_;rw [a3];simp only [hb,bne_self_eq_false,Bool.or_self,Bool.false_eq_true,if_false,c3];refine ⟨om_,c2,?_⟩;simp;omega
  | @bnd _ all q a gq tq oq da =>
   subst hg;rw [an2] at zf;rw [aU4] at hn hn';rw [bC1] at h ⊢;generalize hx:dN lim w (Q5 q 0 C6)=p at h;obtain ⟨m1,v1,e1⟩:=p;simp only at h;cases he:(e1 != 0) with
   | true =>
    rw [he] at h;simp only [if_true,Prod.mk.injEq] at h;rw [h.2.2] at he;simp at he
   | false =>
    rw [he] at h;simp only [Bool.false_eq_true,if_false] at h;obtain rfl:e1=0:=by simpa using he
    obtain ⟨a1,a2,a3⟩:=cj1 hw hx h0 hl;rw [a3];simp only [he,Bool.false_eq_true,if_false];obtain ⟨c1,c2,c3⟩:=cM1 (D:=fun w f=>dT lim n w f) (D':=fun w f=>dT lim' n' w f) (all:=all) (a:=a) (fun k hk hp=>by
      obtain ⟨p1,p2,p3⟩:=da.put om_ hk hp;exact bM8 n _ om_ p1 p2 n' om_) m1 0 v1 b w1 (w0+(v1 - w)) a2 h om_ om_
    rw [c3];refine ⟨om_,c2,?_⟩;simp;omega
def dA (lim:Nat) (f:Fm):Ans:=dT lim (fdp f) 0 f
theorem cz3 {lim:Nat} {f:Fm} (hf:Dc [] f) (zf:z6 f≤4096):(dA lim f).2.2=0∨(dA lim f).2.2=4∨(dA lim f).2.2=5:=(aJ7 _ f 0 (Nat.le_refl _) hf zf).2
section
variable {f g:Fm} (hf:Dc [] f) (hg:Dc [] g) (zf:z6 f≤1000) (zg:z6 g≤1000)
include hf hg zf zg
end
def hR (lim:Nat) (f:Fm) (k:Nat):Ans:=if (H3 f (C5 k)).2 != 0 then (false,0,(H3 f (C5 k)).2) else dA lim (H3 f (C5 k)).1
section
variable {all:Bool} {f:Fm} {n:Nat} (hf:Dc [r5] f) (zf:z6 f≤1000) (hn:n≤5)
include hf zf hn
end
abbrev dh1:=Nat × Bool × Nat × Int
def J1 (D:Nat→Fm→Ans) (f:Fm):Nat→Nat→Nat→dh1
 | 0,_,w=>(0,false,w,0)
 | n+1,k,w=>if (dW D f k w).2.2 != 0 then (0,false,0,(dW D f k w).2.2) else if (dW D f k w).1 then (k,true,(dW D f k w).2.1,0) else J1 D f n (k+1) (dW D f k w).2.1
inductive PVl where
 | mk (kind num:Int) (list:List Int) (args:List PVl)
def PVl.kind:PVl→Int | .mk k _ _ _=>k
def PVl.num:PVl→Int | .mk _ n _ _=>n
def PVl.list:PVl→List Int | .mk _ _ l _=>l
def PVl.args:PVl→List PVl | .mk _ _ _ a=>a
theorem PVl.ind {p:PVl→Prop} (h:∀ t,(∀ x∈t.args,p x)→p t):∀ t,p t:=by
 intro t;refine PVl.rec (motive_1:=p) (motive_2:=fun l=>∀ x∈l,p x) (fun k n l a i1=>h _ i1) sp_ (fun a l ha hl x hx=>?_) t;rcases List.mem_cons.1 hx with rfl|hx
 ·exact ha
 ·exact hl x hx
mutual
def PVl.cells:PVl→List V
 | .mk k n l a=>[.int .i64 k,.int .i64 n,.sl .any (ints l),.sl .any (PVl.rows a)]
def PVl.rows:List PVl→List (List V)
 | []=>[]
 | r::l=>r.cells::PVl.rows l
end
theorem PVl.Y8:∀ l,PVl.rows l=l.map PVl.cells
 | []=>by simp [PVl.rows]
 | t::l=>by simp [PVl.rows,PVl.Y8 l]
theorem PVl.m8 (t:PVl):t.cells=[.int .i64 t.kind,.int .i64 t.num,.sl .any (ints t.list),.sl .any (t.args.map PVl.cells)]:=by
 cases t;simp [PVl.cells,PVl.Y8,PVl.kind,PVl.num,PVl.list,PVl.args]
section
variable (t:PVl)
theorem PVl.D3:t.cells.length=4:=by rw [PVl.m8];rfl
theorem PVl.al0:t.cells[0]? = some (.int .i64 t.kind):=by rw [PVl.m8];rfl
theorem PVl.al5:t.cells[1]? = some (.int .i64 t.num):=by rw [PVl.m8];rfl
theorem PVl.av5:t.cells[2]? = some (.sl .any (ints t.list)):=by rw [PVl.m8];rfl
theorem PVl.aK4:t.cells[3]? = some (.sl .any (t.args.map PVl.cells)):=by rw [PVl.m8];rfl
theorem PVl.W6:List.take 4 t.cells=t.cells:=List.take_of_length_le (by rw [PVl.D3];exact Nat.le_refl _)
theorem PVl.Q8:t.cells.all ab6=true:=by rw [PVl.m8];rfl
end
theorem bI3 {cs:List V} {t:PVl} (h:cs.length=4):I2 cs 0 t.cells=t.cells:=R7 (by rw [h,PVl.D3])
theorem bf2:∀ t:PVl,C7 t.cells=t.cells:=by
 intro t
 induction t using PVl.ind with
 | h t i1 =>
  rw [PVl.m8];have e1:B2 (t.args.map PVl.cells)=t.args.map PVl.cells:=by
   rw [H6,List.map_map];exact List.map_congr_left fun x hx=>i1 x hx
  simp only [C7,H2,N5,e1]
theorem N0 (l:List PVl):B2 (l.map PVl.cells)=l.map PVl.cells:=by
 rw [H6,List.map_map];exact List.map_congr_left fun x _=>bf2 x
section
variable {S:Id→Prop}
theorem bR7:∀ t:PVl,InL S t.cells:=by
 intro t
 induction t using PVl.ind with
 | h t i1 =>
  rw [PVl.m8];have e1:Z6 S (t.args.map PVl.cells):=by
   rw [S3];intro l hl;obtain ⟨x,hx,rfl⟩:=List.mem_map.1 hl;exact i1 x hx
  simp only [InL,InV,aq0,true_and,and_true,am4,e1]
theorem cp2 (l:List PVl):Z6 S (l.map PVl.cells):=by
 rw [S3];intro x hx;obtain ⟨y,_,rfl⟩:=List.mem_map.1 hx;exact bR7 y
end
theorem bu3 (l:List PVl):(l.map PVl.cells).all (fun e=>e.length==4)=true:=by simp [PVl.D3]
theorem bz9 (l:List PVl):(l.map PVl.cells).flatten.all ab6=true:=by
 rw [List.all_eq_true];intro v hv;obtain ⟨c,hc,hv⟩:=List.mem_flatten.1 hv;obtain ⟨x,_,rfl⟩:=List.mem_map.1 hc;exact List.all_eq_true.1 (PVl.Q8 x) v hv
theorem PVl.p9 (k n:Int) (l:List Int) (a:List PVl):(PVl.mk k n l a).cells=[.int .i64 k,.int .i64 n,.sl .any (ints l),.sl .any (a.map PVl.cells)]:=PVl.m8 _
attribute [go_sem] bR7 cp2
attribute [go_sem] PVl.D3 PVl.al0 PVl.al5 PVl.av5 PVl.aK4 PVl.W6 PVl.Q8 bI3 bf2 N0 bu3 bz9
theorem bO8 {f:Fm} {t:Tm} (gf:FmG true f) (gt:TmG t) (zf:z6 f≤4096) (zt:m7 t≤4096) (lf:f.least 536870912=true) (lt:t.least 536870912=true) :
  bT7 f 0 t=H3 f t:=by
 have e1:=gf.szW om_;have e2:=gt.szW om_;have e3:=gf.as0 0 om_ om_;have hp:=Q3 t;have ho:=ao4 f 0;have e4:ab8 t.szW 1=((m7 t - 1:Nat):Int):=by rw [e2,ai8 om_ om_ om_ om_];omega
 have hm:L9 f 0 * (m7 t - 1)≤4096 * 4096:=Nat.mul_le_mul om_ om_;have e5:bz2 (f.times 0) (ab8 t.szW 1)=((L9 f 0 * (m7 t - 1):Nat):Int):=by
  rw [e3,e4];unfold bz2;exact w8 sp_ om_ om_
 have e6:x4 f.szW (bz2 (f.times 0) (ab8 t.szW 1))=((z6 f+L9 f 0 * (m7 t - 1):Nat):Int):=by
  rw [e5,e1,C9 om_ om_ om_ om_];simp
 unfold bT7 H3;rw [gf.aj7 om_,gt.aj7 om_,lf,lt,e6];simp only [bne_self_eq_false,Bool.false_eq_true,if_false,Bool.not_true,Bool.or_self];by_cases hle:z6 f+L9 f 0 * (m7 t - 1)≤4096
 ·have d1:decide (((z6 f+L9 f 0 * (m7 t - 1):Nat):Int)>4096)=false:=by simp;omega
  rw [if_pos hle,d1];rfl
 ·have d1:decide (((z6 f+L9 f 0 * (m7 t - 1):Nat):Int)>4096)=true:=by simp;omega
  rw [if_neg hle,d1];rfl
def ae1:List Nat→Tm
 | []=>tm0 7 []
 | n::l=>tm0 8 [C5 n,ae1 l]
inductive V3:Ty→PVl→Tm→Prop
 | num (n:Nat):V3 r5 (.mk 1 n [] []) (C5 n)
 | list (l:List Nat):V3 C8 (.mk 2 0 (l.map fun (n:Nat)=>(n:Int)) []) (ae1 l)
 | unit:V3 S5 (.mk 4 0 [] []) (tm0 13 [])
 | pair {a b:Ty} {x y:PVl} {s t:Tm}:V3 a x s→V3 b y t→V3 (E9 a b) (.mk 3 0 [] [x,y]) (tm0 10 [s,t])
theorem bT5:∀ l,TmG (ae1 l)
 | []=>.t0 (k:=7) rfl rfl
 | n::l=>.t2 (k:=8) rfl rfl (at6 n) (bT5 l)
theorem V3.G {a:Ty} {v:PVl} {t:Tm} (h:V3 a v t):TmG t:=by
 induction h with
 | num n=>exact at6 n
 | list l=>exact bT5 l
 | unit=>exact .t0 (k:=13) rfl rfl
 | pair _ _ h1 h2=>exact .t2 (k:=10) rfl rfl h1 h2
theorem bq3 {g:List Ty}:∀ l,w7 TyG g (ae1 l) C8
 | []=>.n0 (ty:=.mk 0 []) .nil
 | n::l=>.n2 (ty:=.mk 0 []) .cons (w7.num n) (bq3 l)
theorem V3.ty {a:Ty} {v:PVl} {t:Tm} (h:V3 a v t):TyG a→∀ g,w7 TyG g t a:=by
 induction h with
 | num n=>exact fun _ g=>w7.num n
 | list l=>exact fun _ g=>bq3 l
 | unit=>exact fun _ g=>.n0 (ty:=.mk 0 []) .unit
 | pair _ _ h1 h2 =>
  intro ht g;obtain ⟨t1,t2⟩:=ht.bQ2;exact .n2 (ty:=.mk 0 []) (.pair ht) (h1 t1 g) (h2 t2 g)
theorem Dc.di8 {s:Tm} {a:Ty} {g:List Ty} (gs:TmG s) (ts:w7 TyG g s a) (zs:m7 s≤4096) (hg:g.length≤100) {g':List Ty} {f:Fm} (h:Dc g' f) :
  ∀ l:List Ty,g'=g++[a]++l→l.length+z6 f≤10000→Dc (g++l) (O1 s 0 f (l.length:Int)):=by
 have ls:s.least 536870912=true:=ts.least _ om_ om_
 induction h with
 | @eq g' x y gx gy h1 h2 =>
  intro l e hb;rw [V6] at hb;subst e;rw [ar0];have lx:x.least 536870912=true:=h1.least _ om_ (by simp;omega);have ly:y.least 536870912=true:=h2.least _ om_ (by simp;omega);exact .eq (TmG.inn gs ls _ gx (Nat.le_refl _) lx _ om_ om_) (TmG.inn gs ls _ gy (Nat.le_refl _) ly _ om_ om_)
   (h1.inn g l rfl ts om_ om_) (h2.inn g l rfl ts om_ om_)
 | @two g' k x y hk _ _ ih1 ih2 =>
  intro l e hb;rw [O0] at hb;rw [aq9,ah0 hk,J7 om_ om_];exact .two hk (ih1 l e om_) (ih2 l e om_)
 | @bnd g' all q x gq hq oq _ ih =>
  intro l e hb;rw [an2] at hb;subst e;rw [bU7 om_ om_];have lq:q.least 536870912=true:=hq.least _ om_ (by simp;omega);have e1:((l.length:Int)+1)=((l++[r5]).length:Int):=by simp
  refine .bnd ?_ ?_ ?_ ?_
  ·exact TmG.inn gs ls _ gq (Nat.le_refl _) lq _ om_ om_
  ·rw [e1,List.append_assoc];exact hq.inn g (l++[r5]) sp_ ts (by simp;omega) om_
  ·rw [TmG.bq0 gs om_ (O8 om_ _ ls) _ gq (Nat.le_refl _) (O8 om_ _ lq) _ 0 om_ om_ om_];exact oq
  ·rw [e1,List.append_assoc];exact ih (l++[r5]) sp_ (by simp;omega)
theorem Dc.dh4 {s:Tm} {a:Ty} {g:List Ty} {f:Fm} (h:Dc (g++[a]) f) (gs:TmG s) (ts:w7 TyG g s a) (zs:m7 s≤4096) (hg:g.length≤100) (zf:z6 f≤4096):Dc g (O1 s 0 f 0):=by
 have:=h.di8 gs ts zs hg [] sp_ (by simp;omega);simpa using this
def S6:Fm→List Tm→Fm × Int
 | f,[]=>(f,0)
 | f,t::l=>if (H3 f t).2 != 0 then (O3,(H3 f t).2) else S6 (H3 f t).1 l
theorem bo4 {f:Fm} {g:List Ty} {a:Ty} {v:PVl} {t:Tm} (hf:Dc (g++[a]) f) (hv:V3 a v t) (ha:TyG a) (zt:m7 t≤4096) (hg:g.length≤100) (zf:z6 f≤4096) (h:(H3 f t).2=0) :
  Dc g (H3 f t).1∧z6 (H3 f t).1≤4096:=by
 unfold H3 at h ⊢;split at h
 ·rename_i hle
  rw [if_pos hle];refine ⟨hf.dh4 hv.G (hv.ty ha g) zt hg zf,?_⟩;rw [(hf.G (u:=true)).aF9 0 om_ om_];exact hle
 ·simp at h
def lsz:List Nat→Nat
 | []=>1
 | n::l=>n+2+lsz l
theorem ac4:∀ l,m7 (ae1 l)=lsz l
 | []=>by rw [ae1,ap9];rfl
 | n::l=>by rw [ae1,Q4,S4,ac4 l,lsz];omega
theorem aJ9:∀ {l:List Nat} {i x:Nat},l[i]? = some x→lsz (l.take (i+1))=lsz (l.take i)+x+2
 | [],i,x,h=>by simp at h
 | y::l,0,x,h=>by simp at h;subst h;simp [lsz];omega
 | y::l,i+1,x,h=>by
  have:=aJ9 (l:=l) (i:=i) (x:=x) (by simpa using h);rw [List.take_succ_cons,List.take_succ_cons,lsz,lsz,this];omega
theorem aA9:∀ (l:List Nat) (i:Nat),lsz (l.take i)≤lsz l
 | [],i=>by simp
 | y::l,0=>by simp [lsz];omega
 | y::l,i+1=>by have:=aA9 l i;rw [List.take_succ_cons,lsz,lsz];omega
theorem aU7:∀ l:List Nat,l.length * 2+1≤lsz l
 | []=>by simp [lsz]
 | y::l=>by have:=aU7 l;rw [lsz,List.length_cons];omega
theorem bO6:∀ {l:List Nat} {x:Nat},x∈l→x+3≤lsz l
 | [],x,h=>by simp at h
 | y::l,x,h=>by
  rw [lsz];rcases List.mem_cons.1 h with rfl|h
  ·have:=aU7 l;omega
  ·have:=bO6 h;omega
inductive VlW:PVl→Prop
 | mk (k n:Int) (l:List Int) (a:List PVl):l.length≤5000→a.length≤1000→(∀ x∈a,VlW x)→VlW (.mk k n l a)
theorem VlW.len {v:PVl} (h:VlW v):v.args.length≤1000:=by cases h;assumption
theorem VlW.arg {v:PVl} (h:VlW v):∀ x∈v.args,VlW x:=by cases h;assumption
mutual
def PVl.nd:PVl→Int
 | .mk _ _ _ a=>PVl.ndL 1 a
def PVl.ndL:Int→List PVl→Int
 | n,[]=>n
 | n,x::l=>PVl.ndL (x4 n x.nd) l
end
theorem PVl.cK9 (v:PVl):v.nd=PVl.ndL 1 v.args:=by cases v;rw [PVl.nd];rfl
theorem PVl.bS8 (n:Int):PVl.ndL n []=n:=by rw [PVl.ndL]
theorem PVl.aY4 (n:Int) (x:PVl) (l:List PVl):PVl.ndL n (x::l)=PVl.ndL (x4 n x.nd) l:=by rw [PVl.ndL]
theorem V3.nd {a:Ty} {v:PVl} {t:Tm} (h:V3 a v t):D7 a≤1000→v.nd=(D7 a:Int):=by
 induction h with
 | num n=>intro _;rw [L7];rfl
 | list l=>intro _;rw [S2];rfl
 | unit=>intro _;rw [ag7];rfl
 | pair _ _ h1 h2 =>
  intro hb;rw [P0] at hb ⊢;have z1:=h1 om_;have z2:=h2 om_;rw [PVl.cK9,PVl.args,PVl.aY4,PVl.aY4,PVl.bS8,z1,z2];rw [C9 (a:=1) om_ om_ om_ om_,C9 om_ om_ om_ om_];omega
theorem V3.W {a:Ty} {v:PVl} {t:Tm} (h:V3 a v t):m7 t≤4096→VlW v:=by
 induction h with
 | num n=>intro _;exact .mk _ _ _ _ sp_ sp_ sp_
 | list l=>intro hb;rw [ac4] at hb;have:=aU7 l;exact .mk _ _ _ _ (by simp;omega) sp_ sp_
 | unit=>intro _;exact .mk _ _ _ _ sp_ sp_ sp_
 | pair _ _ h1 h2 =>
  intro hb;rw [Q4] at hb;exact .mk _ _ _ _ sp_ sp_ (by simp [h1 om_,h2 om_])
theorem V3.mem {l:List Nat} (hb:lsz l≤4096):(∀ x∈l,x≤4096)∧l.length≤4096:=⟨fun x hx=>by have:=bO6 hx;omega,by have:=aU7 l;omega⟩
def bc8 (n:Nat):PVl:=.mk 1 n [] []
def ak7 (l:List Nat):PVl:=.mk 2 0 (l.map fun (n:Nat)=>(n:Int)) []
def aQ5:PVl:=.mk 4 0 [] []
def bM5 (a b:PVl):PVl:=.mk 3 0 [] [a,b]
def ar1 (b:Nat):List PVl:=(List.range b).map bc8
def af9 (b:Nat):List PVl:=ak7 []::((List.range b).map fun a=>ak7 [a])++(List.range b).flatMap fun a=>(List.range b).map fun c=>ak7 [a,c]
def aF0 (l r:List PVl):List PVl:=l.flatMap fun a=>r.map fun c=>bM5 a c
inductive PlT:Ty→Prop
 | nat:PlT r5
 | list:PlT C8
 | unit:PlT S5
 | pair {a b:Ty}:PlT a→PlT b→PlT (E9 a b)
def O4 (b:Nat):Ty→List PVl
 | .mk 2 _=>af9 b
 | .mk 5 _=>[aQ5]
 | .mk 3 [x,y]=>aF0 (O4 b x) (O4 b y)
 | _=>ar1 b
def rows (l:List PVl):List (List V):=l.map fun v=>[V.agg v.cells]
theorem aa2 (l:List PVl):(rows l).length=l.length:=by simp [rows]
theorem aD7 {l:List PVl} {i:Nat} {v:PVl} (h:l[i]? = some v):(rows l)[i]? = some [V.agg v.cells]:=by simp [rows,h]
theorem bW3 (b:Nat):(ar1 b).length=b:=by simp [ar1]
theorem cq6 {b i:Nat} (h:i<b):(ar1 b)[i]? = some (bc8 i):=by simp [ar1,h]
theorem aI1 {α β:Type} (f:α→List β) (n:Nat):∀ (l:List α),(∀ a∈l,(f a).length=n)→∀ (i m:Nat) (a:α) (x:β),l[i]? = some a→(f a)[m]? = some x→(l.flatMap f)[i * n+m]? = some x
 | [],_,i,m,a,x,h,_=>by simp at h
 | b::l,hl,0,m,a,x,h,hx=>by
  simp at h;subst h;have hm:m<(f b).length:=(List.getElem?_eq_some_iff.1 hx).1;rw [List.flatMap_cons,Nat.zero_mul,Nat.zero_add,List.getElem?_append_left hm];exact hx
 | b::l,hl,i+1,m,a,x,h,hx=>by
  have hb:=hl b sp_;rw [List.flatMap_cons,List.getElem?_append_right (by rw [hb,Nat.succ_mul];omega),hb,show (i+1) * n+m - n=i * n+m by rw [Nat.succ_mul];omega];exact aI1 f n l (fun a ha=>hl a (by simp [ha])) i m a x (by simpa using h) hx
theorem aN9 {α β:Type} (f:α→List β) (n:Nat):∀ (l:List α),(∀ a∈l,(f a).length=n)→(l.flatMap f).length=l.length * n
 | [],_=>by simp
 | b::l,hl=>by
  rw [List.flatMap_cons,List.length_append,hl b sp_,aN9 f n l (fun a ha=>hl a (by simp [ha])),List.length_cons,Nat.succ_mul];omega
theorem ce8 (l r:List PVl):(aF0 l r).length=l.length * r.length:=aN9 _ _ _ (fun a _=>by simp)
theorem cn1 {l r:List PVl} {i m:Nat} {a c:PVl} (ha:l[i]? = some a) (hc:r[m]? = some c):(aF0 l r)[i * r.length+m]? = some (bM5 a c) :=
 aI1 _ r.length l (fun a _=>by simp) i m a _ ha (by simp [hc])
theorem bV3 (b:Nat):(af9 b).length=1+b+b * b:=by
 have h:((List.range b).flatMap fun a=>(List.range b).map fun c=>ak7 [a,c]).length=b * b:=by
  rw [aN9 _ b _ (fun a _=>by simp)];simp
 unfold af9;rw [List.length_append,List.length_cons,List.length_map,List.length_range,h];omega
theorem cx9 (b:Nat):(af9 b)[0]? = some (ak7 []):=rfl
theorem cx0 {b i:Nat} (h:i<b):(af9 b)[1+i]? = some (ak7 [i]):=by
 unfold af9;rw [List.getElem?_append_left (by simp;omega),show 1+i=i+1 by omega,List.getElem?_cons_succ];simp [h]
theorem cB4 {b i m:Nat} (hi:i<b) (hm:m<b):(af9 b)[1+b+(i * b+m)]? = some (ak7 [i,m]):=by
 unfold af9;rw [List.getElem?_append_right (by simp;omega)];have e:1+b+(i * b+m) - (ak7 []::(List.range b).map fun a=>ak7 [a]).length=i * b+m:=by simp;omega
 rw [e];exact aI1 _ b _ (fun a _=>by simp) i m i _ (by simp [hi]) (by simp [hm])
def bj3 (env:Nat→Option (List V)) (C:Cons) (i:Nat) (g0:G) (w0:World) (h0:H) (e:Ending) (W':World):Prop :=
 ∃ g' h',ap3 C g0 w0 h0 g' W' h'∧Rel env g' W' h'∧((e=.returned (.bool true)∧C.Y (i+1) g' W' h')∨(e=.returned (.bool false)∧C.Z g' W' h'))
theorem bp6 {P : Program} {env : Nat → Option (List V)} {kf : Nat} {fn : Func} {body : Code} {as vv : List V} {vs : List (List V)} {C : Cons} {pre : H → Prop} (hf : P.funcs[kf]? = some fn) (hb : fn.body = some body) (aj4 : (fn.name == "runtime.NumGoroutine") = false) (hC : ai4 P env C vs)
  (walk:∀ (i:Nat) (g0:G) (w0:World) (h:H) (gen:Nat),vs[i]? = some vv→pre h→(∀ id,h id≠none→id.gen<gen)→(∀ b,g0.wr b=true)→(∀ b,w0.heap.size≤b→g0.lim b=0)→C.bd≤w0.heap.size→(∀ b,C.L b→b<w0.heap.size) →
   ARX ⟨P,env,fn.ntmps,fn,g0,w0,h,.undef,h⟩ ((yI ⟨P,env,fn.ntmps,fn,g0,w0,h,.undef,h⟩ C (bj3 env C i g0 w0 h)).at (fun g w=>C.Y i g w h)) gen [.code body] .normal ⟨ag6 as,h⟩) :
  cS8 P env C vs kf as vv pre:=by
 refine ⟨⟨fn,hf,by rw [hb];rfl,aj4⟩,fun i g1 W1 h1 xs hv hY q1 hL cx3 hxs=>?_⟩;have hbd:=hC.Ybd _ _ _ _ hY;refine (callsIn_of_wp_marks (n:=0) (R:=bj3 env C i g1.free W1 h1) hf hb trivial ?_).mono (fun e W' ⟨g',h',⟨a1,a2,a3⟩,q,r⟩=>⟨g',h',⟨a1,a2,a3⟩,q,r⟩);have hcs:RVL (g1.dn W1) W1 xs as:=hxs.mono H4;have hst:K1 env fn.ntmps (g1.dn W1) W1 { tmps:=xs++Array.replicate (fn.ntmps - xs.size) undef,defers:=[] } ⟨ag6 as,h1⟩:=by
  refine ⟨q1.dn,fun t=>?_,by simp;omega,rfl⟩;simp only [ag6];cases ha:as[t]? with
  | none=>exact .undef _
  | some v =>
   obtain ⟨c0,h1,h2⟩:=hcs.at ha;have hlt:t<xs.size:=(Array.getElem?_eq_some_iff.1 h1).1;have:(xs++Array.replicate (fn.ntmps - xs.size) undef).getD t undef=c0:=by
    simp [Array.getElem?_append_left hlt,h1]
   rw [this];exact h2
 have:=walk i g1.free W1 h1 g1.top hv cx3 (fun id hid=>q1.top id hid) (fun _=>rfl) q1.C4 hbd hL (g1.dn W1) _ W1 (aj0 H4) ⟨hC.Yext _ _ _ _ _ _ H4 hY,KO.here,Nat.le_refl _⟩ (P4.of hst);refine wpIn_mono (show body.wpIn _ _ _ _ _ _ from this) ?_;intro e a' w' hp;cases e<;>exact hp
theorem bz3 {c:Ctx} {C:Cons} {i gen r:Nat} {b:Bool} {σ:St} {X:G→World→Prop} (m0:c.fn.results=#[.tmp r]) (hr:σ.tm r=.bool b) (hX:∀ g w,X g w→(b=true∧C.Y (i+1) g w σ.h)∨(b=false∧C.Z g w σ.h)) (hs:∀ id,¬ C.S id→c.h0 id≠none→σ.h id=c.h0 id) :
  ARX c ((yI c C (bj3 c.env C i c.g0 c.w0 c.h0)).at X) gen [] .ret σ:=by
 intro g a w hx ⟨h1,h2,h3⟩ r0;show LeavesInM Fence.wide 0 c.P c.fn a.tmps (bj3 c.env C i c.g0 c.w0 c.h0) a.defers .returning w;rw [r0.2];have hv:=r0.1.tm r;rw [hr] at hv;have hb:a.tmps.getD r undef=.bool b:=by
  have hv':RV g w (a.tmps.getD r undef) (.bool b):=hv;generalize a.tmps.getD r undef=v at hv';cases hv';rfl
 refine ⟨_,results_tmp m0 _ _ _,g,σ.h,⟨aj0 hx,hs,fun b o hb ho hc=>(h2 b o hb ho hc).1⟩,r0.1.rel,?_⟩;rw [hb];rcases hX g w h1 with ⟨rfl,h⟩|⟨rfl,h⟩
 ·exact .inl ⟨rfl,h⟩
 ·exact .inr ⟨rfl,h⟩
end GoAbs
