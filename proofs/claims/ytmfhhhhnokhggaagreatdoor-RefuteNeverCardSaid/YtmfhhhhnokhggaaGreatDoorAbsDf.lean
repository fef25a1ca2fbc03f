/-
 The abstract layer: plain laws, further ones.
-/
import Derived.Test.YtmfhhhhnokhggaaGreatDoorAbsDe
set_option linter.unusedSimpArgs false
set_option linter.unusedVariables false
set_option linter.unusedSectionVars false
namespace GoAbs
open Go
section
variable {F:Fence} (hF:∀ f,F.fn f) {m:Nat} {ds:List Deferred} {P:Program} {env:Nat->Option (List V)} {ops:Array Oper} {n:Nat}
include hF
end
section
variable (id:Id) (n:Nat) (X:V)
mutual
def fz:V->V
 | .undef=>.undef
 | .bool b=>.bool b
 | .int k m=>.int k m
 | .str s=>.str s
 | .agg cs=>.agg (fzL cs)
 | .tup vs=>.tup (fzL vs)
 | .sl c es=>.sl c (aC9 es)
 | .ptr i off=>.ptr i off
 | .slb i m=>if i=id/\m=n then X else .slb i m
 | .slr i m c=>.slr i m c
 | .mpr i=>.mpr i
 | .el cs off=>.el (fzL cs) off
 | .nd cs ok off=>.nd (fzL cs) ok off
 | .U3=>.U3
 | .fn f a b=>.fn f (fzL a) (fzL b)
 | .V7=>.V7
 | .iface t v=>.iface t (fz v)
 | .L3=>.L3
def fzL:List V->List V
 | []=>[]
 | v::vs=>fz v::fzL vs
def aC9:List (List V)->List (List V)
 | []=>[]
 | v::vs=>fzL v::aC9 vs
end
theorem bw5:∀ l:List V,fzL id n X l=l.map (fz id n X)
 | []=>by simp [fzL]
 | v::vs=>by simp [fzL,bw5 vs]
theorem am2:∀ l:List (List V),aC9 id n X l=l.map (fzL id n X)
 | []=>by simp [aC9]
 | v::vs=>by simp [aC9,am2 vs]
theorem Y8 (l:List V):(fzL id n X l).length=l.length:=by rw [bw5];simp
variable {v:V}
theorem aJ3 {l:List V} {i:Nat} (h:(fzL id n X l)[i]? = some v):∃ u,l[i]? = some u/\v=fz id n X u:=by
 grind [bw5]
theorem aY0 {l:List V} {i:Nat} (h:l[i]? = some v):(fzL id n X l)[i]? = some (fz id n X v):=by
 grind [bw5]
theorem bI0 (es:List (List V)):(aC9 id n X es).flatten=fzL id n X es.flatten:=by
 grind [am2,bw5,List.map_congr_left]
end
variable {w:World} {id:Id}
theorem RV.fz {g g':G} {S:Id->Prop} {n:Nat} {X:V} (hl:∀ b,g.lim b<=g'.lim b) (hk:∀ b,g'.nd b=g.nd b) (hS:∀ i,S i->g'.dom i=true/\g'.loc i=g.loc i/\g'.buf i=g.buf i)
  (cq1:∀ cap,n<=cap->RV g' w (.slice (some ⟨g.loc id,0,none⟩) n cap) X) {c:Value} {v:V} (h:RV g w c v) (hin:InV S (fz id n .undef v)):RV g' w c (fz id n X v):=by
 induction h with
 | undef c=>exact .undef c
 | bool b=>exact .bool b
 | int k m=>exact .int k m
 | str s=>exact .str s
 | agg vs cs h _ ih =>
  refine .agg vs _ (by grind [Y8]) fun i c v hc hv=>?_;obtain ⟨u,hu,rfl⟩:=aJ3 id n X hv;have hi:=M7 hin (aY0 id n .undef hu);exact ih i c u hc hu hi
 | tup vs cs h _ ih =>
  refine .tup vs _ (by grind [Y8]) fun i c v hc hv=>?_;obtain ⟨u,hu,rfl⟩:=aJ3 id n X hv;have hi:=M7 hin (aY0 id n .undef hu);exact ih i c u hc hu hi
 | sl a cap c es k cell hk aa3 F5 _ hc ih =>
  have hln:(aC9 id n X es).length=es.length:=by rw [am2];simp
  rw [<- hln];refine .sl a cap c _ k cell ?_ (by rw [hln];exact aa3) ?_ ?_ ?_
  ·grind [am2,Y8]
  ·intro hne
   obtain ⟨b,off,e,h1,h2⟩:=F5 (by intro e;subst e;exact hne rfl)
   grind
  ·intro i v hv
   rw [bI0] at hv;obtain ⟨u,hu,rfl⟩:=aJ3 id n X hv;have hi:=M7 (aD4.1 hin.2) (by rw [bI0];exact aY0 id n .undef hu);exact ih i u hu hi
  ·rw [hln]
   cases c with
   | any=>trivial
   | full=>exact hc
   | own id =>
    obtain ⟨a1,a2,a3⟩:=hS id hin.1;exact ⟨a1,by rw [a3];exact hc.2⟩
 | ptr i off h=>grind [GoAbs.fz,InV,ptr]
 | slb i m cap h h2 =>
  grind [GoAbs.fz,InV,slb]
 | slr i m cap h h2=>grind [GoAbs.fz,InV,slr]
 | mpr i h=>grind [GoAbs.fz,InV,mpr]
 | el b off cs o cell hlm F5 _ ih =>
  refine .el b off _ o cell (by grind [Y8]) (by grind [Y8]) fun i v hv=>?_;obtain ⟨u,hu,rfl⟩:=aJ3 id n X hv;have hi:=M7 hin (aY0 id n .undef hu);exact ih i u hu hi
 | nd b cs ok o cell hok hlm F5 _ hf ih =>
  refine .nd b _ ok o cell ((hk b).trans hok) (by grind [Y8]) (by grind [Y8]) (fun i v hv=>?_) (by grind [Y8]);obtain ⟨u,hu,rfl⟩:=aJ3 id n X hv;have hi:=M7 hin (aY0 id n .undef hu);exact ih i u hu hi
 | U3=>exact .U3
 | fn f fs cs fs' cs' h1 h2 _ _ ih1 ih2 =>
  refine .fn f fs cs _ _ (by grind [Y8]) (by grind [Y8]) (fun i c v hc hv=>?_) (fun i c v hc hv=>?_)
  ·obtain ⟨u,hu,rfl⟩:=aJ3 id n X hv
   have hi:=M7 hin.1 (aY0 id n .undef hu)
   grind
  ·obtain ⟨u,hu,rfl⟩:=aJ3 id n X hv
   have hi:=M7 hin.2 (aY0 id n .undef hu)
   grind
 | V7=>exact .V7
 | iface t c v _ ih=>grind [GoAbs.fz,InV,iface]
 | L3=>exact .L3
mutual
theorem co4 {S:Id->Prop} {id:Id} {n:Nat} {X:V}:∀ v:V,InV S (fz id n X v)->InV S (fz id n .undef v)
 | .undef,h=>h
 | .bool _,h=>h
 | .int _ _,h=>h
 | .str _,h=>h
 | .agg cs,h=>by exact aB3 cs h
 | .tup cs,h=>by exact aB3 cs h
 | .sl c es,h=>by exact ⟨h.1,cc0 es h.2⟩
 | .ptr _ _,h=>h
 | .slb i m,h=>by
  grind [fz,InV]
 | .slr _ _ _,h=>h
 | .mpr _,h=>h
 | .el cs _,h=>by exact aB3 cs h
 | .nd cs _ _,h=>by exact aB3 cs h
 | .U3,h=>h
 | .fn f a b,h=>by exact ⟨aB3 a h.1,aB3 b h.2⟩
 | .V7,h=>h
 | .iface t v,h=>by exact co4 v h
 | .L3,h=>h
theorem aB3 {S:Id->Prop} {id:Id} {n:Nat} {X:V}:∀ l:List V,InL S (fzL id n X l)->InL S (fzL id n .undef l)
 | [],h=>h
 | v::l,h=>by rw [fzL,InL] at h ⊢;exact ⟨co4 v h.1,aB3 l h.2⟩
theorem cc0 {S:Id->Prop} {id:Id} {n:Nat} {X:V}:∀ l:List (List V),S8 S (aC9 id n X l)->S8 S (aC9 id n .undef l)
 | [],h=>h
 | v::l,h=>by rw [aC9,S8] at h ⊢;exact ⟨aB3 v h.1,cc0 l h.2⟩
end
def FzD (id:Id) (n:Nat) (rows:List (List V)) (v v':V):Prop:=v'=.undef\/v'=v\/v'=fz id n (.sl .any rows) v
variable {cs:List V}
theorem dc8 {env:Nat->Option (List V)} {hs h':H} {n kk:Nat} {rows:List (List V)} (hb:hs id=some (.box cs)) (bJ2:cs.take (n * kk)=rows.flatten) (hlen:rows.length=n) (hk:∀ r∈rows,r.length=kk) (hle:n * kk<=cs.length)
  (cd2:S8 (fun j=>h' j≠none) rows) {g g':G} {cv:Value} {v v':V} (q:Rel env g w hs) (eg:g'={ g with dom:=fun j=>decide (h' j≠none),lim:=fun b=>if b=g.loc id then n * kk else g.lim b })
  (hl:∀ b,g.lim b<=g'.lim b) (hS:∀ j,h' j≠none->g'.dom j=true/\g'.loc j=g.loc j/\g'.buf j=g.buf j) (h1:RV g w cv v) (h2:v'=fz id n (.sl .any rows) v) (h3:InV (fun j=>h' j≠none) v'):RV g' w cv v':=by
 subst h2;exact h1.fz hl (fun _=>by rw [eg]) hS (bw4 q eg hl hS hb bJ2 hlen hk hle cd2) (co4 _ h3)
variable {P:Program} {fn:Func} {w0:World} {gen m:Nat} {σ:St} {k:List It} {i0:Id}
theorem bs1 {env:Nat->Option (List V)} {n:Nat} {g0:G} {h0 hT:H}
 {rv:V} (R6:Rel env g0 w0 h0) (hdm:∀ j,hT j≠none↔h0 j≠none) (hbx:∀ j cs',hT j=some (.box cs')->InL (fun j=>h0 j≠none) cs') (hid:h0 id=none) (n8:ax9 P σ fn.results.toList=some [rv])
  (hb:σ.h i0=some (.box cs)) (h00:h0 i0=none) (hin:InL (fun j=>h0 j≠none) cs) (hag:m8 hT σ.h) (hrv:InV (fun j=>h0 j≠none) (fz i0 m .undef rv)) :
  AR ⟨P,env,n,fn,g0,w0,h0,fz i0 m (.slb id m) rv,p8 hT id (.box cs)⟩ gen k .ret σ :=
 cx3 R6 hdm hbx hid n8 hb h00 hin hag fun e1 e2 hS hd hl h2=>by
  refine RV.fz (fun _=>by rw [e1];exact w7 _) (fun _=>by rw [e2]) hS (fun cap hc=>?_) h2 hrv;rw [hl];exact .slb id m cap hd hc
theorem cF8 {env:Nat->Option (List V)} {n:Nat} {g0:G} {h0:H}
 {rv:V} (R6:Rel env g0 w0 h0) (hid:h0 id=none) (n8:ax9 P σ fn.results.toList=some [rv])
  (hb:σ.h i0=some (.box cs)) (h00:h0 i0=none) (hin:InL (fun j=>h0 j≠none) cs) (hag:m8 h0 σ.h) (hrv:InV (fun j=>h0 j≠none) (fz i0 m .undef rv)) :
  AR ⟨P,env,n,fn,g0,w0,h0,fz i0 m (.slb id m) rv,p8 h0 id (.box cs)⟩ gen k .ret σ :=
 bs1 R6 (fun _=>Iff.rfl) (fun _ _ e=>R6.cV6 e) hid n8 hb h00 hin hag hrv
variable {d:Id}
theorem cj3 {env:Nat->Option (List V)} {n:Nat} {g0:G} {h0:H}
 {rv:V} {dk:List V} {od:Obj} (R6:Rel env g0 w0 h0) (hd:h0 d=some od) (hdk:σ.h d=some (.box dk)) (hdi:InL (fun j=>h0 j≠none) dk) (hid:h0 id=none) (n8:ax9 P σ fn.results.toList=some [rv])
  (hb:σ.h i0=some (.box cs)) (h00:h0 i0=none) (hin:InL (fun j=>h0 j≠none) cs) (hag:a6 d h0 σ.h) (hrv:InV (fun j=>h0 j≠none) (fz i0 m .undef rv)) :
  AR ⟨P,env,n,fn,g0,w0,h0,fz i0 m (.slb id m) rv,p8 (p8 h0 d (.box dk)) id (.box cs)⟩ gen k .ret σ:=by
 refine bs1 R6 (fun j=>?_) (fun j cs' e=>?_) hid n8 hb h00 hin (fun j hj=>?_) hrv
 ·grind [A1,m7]
 ·by_cases h:j=d
  ·grind [A1]
  ·rw [m7 h] at e;exact R6.cV6 e
 ·by_cases h:j=d
  ·grind [A1]
  ·rw [m7 h] at hj ⊢;exact hag j h hj
def cS6 (P:Program) (env:Nat->Option (List V)) (f:FuncId) (args:List V) (v:Id->V) (cs:List V):Prop :=
 ∀ (h:H) (id:Id),h id=none->Ret P env f args h (v id) (p8 h id (.box cs))
theorem bN5 {env:Nat->Option (List V)} {k:FuncId} {args:List V} {h:H} {R:Eff->Prop} (id:Id) {v:Id->V} (hp:cS6 P env k args v cs)
  (hd:h id=none) (hr:R ⟨v id,[id],[(id,.box cs)]⟩):ar1 P env k args h R :=
 ⟨⟨v id,[id],[(id,.box cs)]⟩,b_,fun h2 hh=>by
  have:=hp h2 id (by rw [hh id b_,hd])
  grind [L9],hr⟩
def cx9 (P:Program) (env:Nat->Option (List V)) (f:FuncId) (args:List V) (d:Id) (o:Obj) (v:Id->V) (cs:List V) (o':Obj):Prop :=
 ∀ (h:H) (id:Id),h d=some o->h id=none->Ret P env f args h (v id) (p8 (p8 h d o') id (.box cs))
theorem aU9 {env:Nat->Option (List V)} {k:FuncId} {args:List V} {h:H} {R:Eff->Prop} (id:Id) {o o':Obj} {v:Id->V} (hp:cx9 P env k args d o v cs o')
  (ho:h d=some o) (hd:h id=none) (hr:R ⟨v id,[d,id],[(d,o'),(id,.box cs)]⟩):ar1 P env k args h R :=
 ⟨⟨v id,[d,id],[(d,o'),(id,.box cs)]⟩,b_,fun h2 hh=>by
  have:=hp h2 id (by rw [hh d b_,ho]) (by rw [hh id b_,hd])
  grind [L9],hr⟩
structure dB5 (P:Program) (ρ:Operand->V) (t:TypeId) (len:Nat) (parts:Array (Nat × Operand)) (out:List (List V)):Prop where
 ty:∃ i,tyi P t=some i/\i.kind=4/\i.n7≠0/\i.T7.length=i.n7/\len * i.n7<=16777216/\aq8 i.n7 (List.replicate len i.T7) (parts.toList.map fun p=>(p.1,ρ p.2))=some out
theorem do3 {env:Nat->Option (List V)} {g:G} {h:H} {ρc:Operand->Value} {ρ:Operand->V} (r:Rel env g w h) (hρ:∀ x,RV g w (ρc x) (ρ x))
  {o:Oper} {t:TypeId} {len:Nat} {parts:Array (Nat × Operand)} {nid:Id} {out:List (List V)} (ho:o.op=.buildSlice t len parts) (hn:h nid=none) (hB:dB5 P ρ t len parts out) :
  ∃ (c:Value) (w':World) (g':G),(execOp ρc o).run P w=.ok (.value c) w'/\Ext g w g' w'/\Rel env g' w' (p8 h nid (.box out.flatten))/\RV g' w' c (.slb nid len):=by
 obtain ⟨i,hi,hk1,hk3,hk4,hk5,hf⟩:=hB;obtain ⟨inf,d,z,i1,i2,i0,is,ib,ia,iz,_,ik4,_,_,_,_,_,iez⟩:=R1 hi;obtain ⟨e,rfl,hes,heb,_⟩:=ik4 hk1;obtain ⟨ie,de,he1,he2,he3⟩:=U6 (P:=P) (t:=e) (by rw [<- hes];exact hk3);have hez:=(iez e (.inl rfl)).2 ie he1;have hsz:ie.size=i.n7:=by rw [he3,hes]
 obtain ⟨ze,hze,ee3,cd7⟩:∃ ze,ie.zero=some ze/\i.T7=ze.cells.toList.map bj1/\ze.cells.size=i.n7:=by
  grind
 have cq0:∀ e∈List.replicate len i.T7,e.length=i.n7:=by
  intro e he;rw [List.mem_replicate] at he;rw [he.2];exact hk4
 have bh3:∀ (j:Nat) (p:Nat × V) (q:Nat × Value),(parts.toList.map fun p=>(p.1,ρ p.2))[j]? = some p ->
   (parts.map fun p=>(p.1,ρc p.2)).toList[j]? = some q->p.1=q.1/\RV g w q.2 p.2:=by
  intro j p q hp hq;simp only [ah6,Array.toList_map] at hp hq;cases hh:parts.toList[j]? with
  | none=>simp [hh] at hp
  | some x =>
   simp [hh] at hp hq;subst hp;subst hq;exact ⟨rfl,hρ _⟩
 have hzero:∀ zz:Array Value,(len * i.n7=0\/zz=ze.cells)->RVL g w ((Array.range (len * i.n7)).map (zz[· % zz.size]!)) (List.replicate len i.T7).flatten:=by
  intro zz hzz;have hfl:=ac7 (List.replicate len i.T7) i.n7 cq0;simp only [List.length_replicate] at hfl;refine RVL.mk (by rw [hfl];simp) fun q v hv=>?_;have hq:q<len * i.n7:=by
   rw [<- hfl];exact (F2.1 hv).1
  rcases hzz with h0|rfl
  ·omega
  ·have bR9:q % i.n7<i.n7:=Nat.mod_lt _ (Nat.pos_of_ne_zero hk3)
   refine ⟨ze.cells[q % i.n7]'(by rw [cd7];exact bR9),?_,?_⟩
   ·simp [hq,cd7,bR9]
   ·have hdiv:q / i.n7<len:=Nat.div_lt_of_lt_mul (by rw [Nat.mul_comm];exact hq)
    have:=bR2 (List.replicate len i.T7) i.n7 (q / i.n7) (q % i.n7) i.T7 (i.T7[q % i.n7]'(by rw [hk4];exact bR9)) cq0 (by simp [hdiv]) (by simp [hk4,bR9])
    grind [Nat.div_add_mod,br3]
 have main:∀ zz:Array Value,(len * i.n7=0\/zz=ze.cells)->∃ ws,Instr.fill (fun j=>some (j * i.n7,i.n7)) ((Array.range (len * i.n7)).map (zz[· % zz.size]!)) (parts.map fun p=>(p.1,ρc p.2)).toList=some ws /\
   RVL g w ws out.flatten/\(∀ e∈out,e.length=i.n7)/\out.length=len:=by
  intro zz hzz;have:=bn3 (g:=g) (w:=w) (k:=i.n7) (parts.map fun p=>(p.1,ρc p.2)).toList (parts.toList.map fun p=>(p.1,ρ p.2)) _ _ out b_ bh3 cq0 (hzero zz hzz) hf;simpa using this
 obtain ⟨ws,hw1,hw2,hw3,hw4⟩:=main (if len * i.n7=0 then #[] else ze.cells) (by split<;>simp_all);obtain ⟨g',hx',hr',hv'⟩:=br0 r hn hw2 e;refine ⟨.slice (some ⟨w.heap.size,0,none⟩) len len,w.alloc (.cells ws e),g',?_,hx',hr',?_⟩
 ·have hb:¬ (16777216<len * i.n7):=by omega
  by_cases h0:len * i.n7=0
  ·rw [B8 h0] at hw1
   simp [execOp,ho,Instr.buildSlice,Q9 i2,G2 he1,hsz,h0];simp [h0] at hw1;rw [hw1];simp [newRow]
  ·rw [y9 h0] at hw1
   simp at hw1;simp [execOp,ho,Instr.buildSlice,Q9 i2,G2 he1,hsz,hb,zeroValue,typeInfo,he1,hze];rw [y9 h0,hw1];simp [newRow]
 ·generalize hp:Value.pointer (some ⟨w.heap.size,0,none⟩)=p at hv'
  cases hv' with
  | ptr _ _ hd =>
   simp only [Value.pointer.injEq,S6,Addr.mk.injEq] at hp;rw [show w.heap.size=g'.loc nid from hp.1];exact .slb nid len len hd (w7 _)
theorem bD0 {c:Ctx} {id:Nat} {ops:Array Oper} (j:Nat) {o:Oper} {t:TypeId} {len:Nat} {parts:Array (Nat × Operand)} {d:Nat} (aE3:ops[j]? = some o) (hg:o.guard=none) (bh1:o.dst=some d)
  (hop:o.op=.buildSlice t len parts)
  (h:O1 c.P c.env ops false gen id (ops.toList.take j) 0 [] (fun σ1=>∃ out,dB5 c.P (av c.env σ1.tm) t len parts out/\σ1.h ⟨gen,id,j⟩=none /\
   O1 c.P c.env ops false gen id (ops.toList.drop (j+1)) (j+1) [] (fun σ'=>AR c gen k .normal σ')
    ⟨upd σ1.tm (some d) (.slb ⟨gen,id,j⟩ len),p8 σ1.h ⟨gen,id,j⟩ (.box out.flatten)⟩) σ) :
  AR c gen (.code (.region id ops false)::k) .normal σ:=by
 refine aU8 j aE3 hg bh1 (fun σ1 ⟨out,hA,de0,hq⟩=>⟨fun v h'=>v=.slb ⟨gen,id,j⟩ len/\h'=p8 σ1.h ⟨gen,id,j⟩ (.box out.flatten),fun r hρ=>?_,fun v h' ⟨e1,e2⟩=>by subst e1;subst e2;exact hq⟩) h;obtain ⟨cv,w2,g2,F5,hx2,hr2,hv2⟩:=do3 r hρ hop de0 hA;exact ⟨_,_,cv,w2,g2,⟨rfl,rfl⟩,F5,hx2,hr2,hv2⟩
section
variable (id:Id) (n:Nat) (X:V)
theorem dL7:∀ t:Ty,fzL id n X t.cells=t.cells:=by
 intro t
 induction t using Ty.ind with
 | h t ih =>
  rw [Ty.l4];simp only [fzL,fz,aL7,V.sl.injEq,ag3,ag2]
  grind [am2,List.map_congr_left]
theorem bb0 (l:List Ty):aC9 id n X (l.map Ty.cells)=l.map Ty.cells:=by
 grind [am2,List.map_congr_left,dL7]
theorem aX9:∀ t:Tm,fzL id n X t.cells=t.cells:=by
 intro t
 induction t using Tm.ind with
 | h t ih =>
  rw [Tm.l4];simp only [fzL,fz,aL7,V.sl.injEq,ag3,ag2,bb0]
  grind [am2,List.map_congr_left]
theorem cA6 (l:List Tm):aC9 id n X (l.map Tm.cells)=l.map Tm.cells:=by
 grind [am2,List.map_congr_left,aX9]
theorem dL6:∀ t:Fm,fzL id n X t.cells=t.cells:=by
 intro t
 induction t using Fm.ind with
 | h t ih =>
  rw [Fm.l4];simp only [fzL,fz,aL7,V.sl.injEq,ag3,ag2,bb0,cA6]
  grind [am2,List.map_congr_left]
theorem bR6 (l:List Fm):aC9 id n X (l.map Fm.cells)=l.map Fm.cells:=by
 grind [am2,List.map_congr_left,dL6]
end
theorem bs0 {c:Ctx} {e:Exit} (id:Id) (n kk:Nat) (rows:List (List V)) (L:List (Nat × V)) (B:List (Id × List V × List V)) {h':H} {tm':Nat->V} {od:Obj} {dk:List V}
  (hh':h'=B.foldr (fun b h=>p8 h b.1 (.box b.2.2)) (p8 c.h0 d (.box dk))) (hd0:c.h0 d=some od) (hdk:σ.h d=some (.box dk)) (hdi:InL (fun j=>h' j≠none) dk) (bS1:tm'=L.foldr (fun p tm=>upd tm (some p.1) p.2) (fun _=>.undef))
  (R6:Rel c.env c.g0 c.w0 c.h0) (hb:σ.h id=some (.box cs)) (bJ2:cs.take (n * kk)=rows.flatten) (hlen:rows.length=n) (hk:∀ r∈rows,r.length=kk) (hle:n * kk<=cs.length)
  (h0:c.h0 id=none) (cM6:∀ b∈B,b.1≠id) (hag:a6 d c.h0 σ.h)
  (cd2:S8 (fun j=>h' j≠none) rows)
  (hB:∀ b∈B,c.h0 b.1=none/\σ.h b.1=some (.box b.2.1)/\b.2.1.length=b.2.2.length/\(∀ p∈b.2.1.zip b.2.2,FzD id n rows p.1 p.2)/\InL (fun j=>h' j≠none) b.2.2)
  (hL:∀ p∈L,FzD id n rows (σ.tm p.1) p.2/\InV (fun j=>h' j≠none) p.2)
  (h:AR c gen k e ⟨tm',h'⟩):AR c gen k e σ:=by
 have hi:id≠d:=fun e=>by rw [e,hd0] at h0;cases h0
 refine aW8 (R:=fun v v'=>v'=fz id n (.sl .any rows) v) id (n * kk) L B (dc8 hb bJ2 hlen hk hle cd2) hh' bS1 R6 hb hle (by rw [m7 hi];exact h0) cM6 (fun j hj=>by grind [A1,m7]) (fun j hj=>?_) (fun b hb=>(hB b hb).2) hL h;by_cases hjd:j=d
 ·subst hjd
  exact .inr ⟨dk,hdk,A1,hdi⟩
 ·rw [m7 hjd] at hj ⊢
  exact .inl ⟨(hag j hjd hj).symm,fun _ h=>h⟩
theorem dl7 {id:Id} {n:Nat} {rows:List (List V)}:∀ l:List V,∀ p∈l.zip (fzL id n (.sl .any rows) l),FzD id n rows p.1 p.2
 | [],p,h=>by cases h
 | v::l,p,h=>by
  rcases D9.1 h with rfl|h
  ·exact .inr (.inr rfl)
  ·exact dl7 l p h
section
variable (id:Id) (n:Nat) (X:V)
theorem bh0:∀ t:Pf,fzL id n X t.cells=t.cells:=by
 intro t
 induction t using Pf.ind with
 | h t ih =>
  rw [Pf.l4];simp only [fzL,fz,aL7,V.sl.injEq,ag3,ag2,bb0,cA6,bR6]
  grind [am2,List.map_congr_left]
end
@[go_sem] theorem dM0 {h:H} {p q:Id × Obj} {ws:List (Id × Obj)}:L9 h (p::q::ws)=L9 (p8 h p.1 p.2) (q::ws):=rfl
structure ec6 (p:Prop):Prop where
 out:p
end GoAbs
