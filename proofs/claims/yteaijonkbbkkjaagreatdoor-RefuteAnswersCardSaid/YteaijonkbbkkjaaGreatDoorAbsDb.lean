/-
 The abstract layer: plain laws, further ones.
-/
import Derived.Test.YteaijonkbbkkjaaGreatDoorAbsD
import Derived.Test.YteaijonkbbkkjaaGreatDoorAbsC
import Derived.Test.YteaijonkbbkkjaaGreatDoorAbsB
import Derived.RangeFuncNested
import Derived.RangeFuncLeaves
import Derived.RangeFuncCalls
import Derived.OrdersIn
import Derived.OwnWalkIn
import Derived.RangeFuncBox
import Derived.LoopNIn
set_option linter.unusedSimpArgs false
set_option linter.unusedVariables false
set_option linter.unusedSectionVars false
namespace GoAbs
open Go
theorem aF2 {k M:Int} {a b:Fm} (h:(E8 k a b).least M=true):a.least M=true∧b.least M=true:=by
 rw [E8,Fm.least] at h;simpa [Tm.F7,Fm.L6,Fm.F7] using h
theorem aP6 {k M:Int} {s:Ty} {a:Fm} (h:(fmQ k s a).least M=true):a.least M=true:=by
 rw [fmQ,Fm.least] at h;simpa [Tm.F7,Fm.L6,Fm.F7] using h
theorem aD9 {M:Int} {x y:Tm}:(M3 x y).least M=true↔x.least M=true∧y.least M=true:=by
 rw [M3,Fm.least];simp [Tm.F7,Tm.L6,Fm.F7]
inductive F5 (B:Nat):Res→Prop
 | mk (n:Nat) (l:List Nat) (p:List Res) (b:Tm) (e:List Res) (hn:n≤B) (hl:∀ x∈l,x≤B) (hll:l.length≤B)
   (hp:∀ x∈p,F5 B x) (hb:TmW b) (hel:e.length≤B) (he:∀ x∈e,F5 B x):F5 B (.mk n l p b e)
theorem F5.up {B B':Nat} (hB:B≤B') {r:Res} (h:F5 B r):F5 B' r:=by
 induction h with
 | mk n l p b e h2 h3 h4 _ h6 h7 _ i1 i2=>exact .mk n l p b e om_ (fun x hx=>by have:=h3 x hx;omega) om_ i1 h6 om_ i2
section
variable {B:Nat} {r:Res}
theorem F5.n1 (h:F5 B r):r.num≤B:=by cases h;assumption
theorem F5.ls (h:F5 B r):∀ x∈r.list,x≤B:=by cases h;assumption
theorem F5.ll (h:F5 B r):r.list.length≤B:=by cases h;assumption
theorem F5.ps (h:F5 B r):∀ x∈r.pair,F5 B x:=by cases h;assumption
theorem F5.bd (h:F5 B r):TmW r.body:=by cases h;assumption
theorem F5.el (h:F5 B r):r.env.length≤B:=by cases h;assumption
theorem F5.es (h:F5 B r):∀ x∈r.env,F5 B x:=by cases h;assumption
end
theorem F5.num {B:Nat} {n:Nat} (h:n≤B):F5 B (am7 n):=.mk _ _ _ _ _ h sp_ sp_ sp_ aH6 sp_ sp_
theorem F5.zero {B:Nat}:F5 B an1:=F5.num om_
theorem F5.list {B:Nat} {l:List Nat} (h:∀ x∈l,x≤B) (hl:l.length≤B):F5 B (ag4 l):=.mk _ _ _ _ _ om_ h hl sp_ aH6 sp_ sp_
theorem F5.pair {B:Nat} {l:List Res} (h:∀ x∈l,F5 B x):F5 B (ay7 l):=.mk _ _ _ _ _ om_ sp_ sp_ h aH6 sp_ sp_
theorem F5.clo {B:Nat} {b:Tm} {e:List Res} (hb:TmW b) (hl:e.length≤B) (h:∀ x∈e,F5 B x):F5 B (aT8 b e):=.mk _ _ _ _ _ om_ sp_ sp_ sp_ hb hl h
def EvW (most:Nat) (E:Evl):Prop:=∀ c u t e r u' o,E u t e=some (r,u',o)→c≤u→u≤most→TmW t→e.length≤u - c→(∀ x∈e,F5 (u - c) x) →
 u≤u'∧u'≤most∧(o=false→u<u'∧F5 (u' - c - 1) r)
section
variable {most:Nat} {E:Evl} (hE:EvW most E)
include hE
theorem X9 {c u u':Nat} {f a r:Res} {o:Bool} (h:I7 E u f a=some (r,u',o)) (hc:c+1≤u) (hu:u≤most) (hf:F5 (u - c - 1) f) (ha:F5 (u - c - 1) a) :
  u≤u'∧u'≤most∧(o=false→u<u'∧F5 (u' - c - 1) r):=by
 refine hE c u _ _ _ _ _ h om_ hu hf.bd (by have:=hf.el;simp;omega) fun x hx=>?_;rcases List.mem_append.1 hx with hx|hx
 ·exact (hf.es x hx).up om_
 ·simp at hx;subst hx;exact ha.up om_
theorem bx9 {c:Nat} {e:List Res}:∀ {l:List Tm} {u u':Nat} {l':List Res} {o:Bool},Q1 E e u l=some (l',u',o)→c≤u→u≤most→(∀ t∈l,TmW t)→e.length≤u - c→(∀ x∈e,F5 (u - c) x) →
  u≤u'∧u'≤most∧(o=false→(l≠[]→u<u')∧l'.length=l.length∧∀ x∈l',F5 (u' - c - 1) x):=by
 intro l
 induction l with
 | nil =>
  intro u u' l' o h hc hu ht hel he;simp only [Q1,Option.some.injEq,Prod.mk.injEq] at h;obtain ⟨rfl,rfl,rfl⟩:=h;exact ⟨Nat.le_refl _,hu,fun _=>⟨fun h=>(h rfl).elim,rfl,sp_⟩⟩
 | cons t l ih =>
  intro u u' l' o h hc hu ht hel he;rw [Q1] at h;cases h1:E u t e with
  | none=>rw [h1] at h;cases h
  | some p =>
   obtain ⟨r,u1,o1⟩:=p;obtain ⟨a1,a2,a3⟩:=hE c u t e r u1 o1 h1 hc hu (ht t sp_) hel he;rw [h1] at h;cases o1 with
   | true =>
    simp only [Option.some.injEq,Prod.mk.injEq] at h;obtain ⟨rfl,rfl,rfl⟩:=h;exact ⟨a1,a2,fun h=>by cases h⟩
   | false =>
    obtain ⟨a3,a4⟩:=a3 rfl;simp only at h;cases h2:Q1 E e u1 l with
    | none=>rw [h2] at h;cases h
    | some q =>
     obtain ⟨l1,u2,o2⟩:=q;rw [h2] at h;simp only [Option.some.injEq,Prod.mk.injEq] at h;obtain ⟨rfl,rfl,rfl⟩:=h;obtain ⟨b1,b2,b3⟩:=ih h2 om_ a2 (fun x hx=>ht x (by simp [hx])) om_ (fun x hx=>(he x hx).up om_);refine ⟨om_,b2,fun ho=>?_⟩;obtain ⟨_,b3,b4⟩:=b3 ho;refine ⟨fun _=>by omega,by simp [b3],fun x hx=>?_⟩;rcases List.mem_cons.1 hx with rfl|hx
     ·exact a4.up om_
     ·exact b4 x hx
theorem cz7 {c:Nat} {s:Res}:∀ {n k u u':Nat} {r r':Res} {o:Bool},ad7 E s n k u r=some (r',u',o)→c+1≤u→u≤most→k+n≤u - c - 1→F5 (u - c - 1) s→F5 (u - c - 1) r →
  u≤u'∧u'≤most∧(o=false→F5 (u' - c - 1) r'):=by
 intro n
 induction n with
 | zero =>
  intro k u u' r r' o h hc hu hk hs hr;simp only [ad7,Option.some.injEq,Prod.mk.injEq] at h;obtain ⟨rfl,rfl,rfl⟩:=h;exact ⟨Nat.le_refl _,hu,fun _=>hr⟩
 | succ n ih =>
  intro k u u' r r' o h hc hu hk hs hr;rw [ad7] at h;cases h1:I7 E u s (am7 k) with
  | none=>rw [h1] at h;cases h
  | some p =>
   obtain ⟨f,u1,o1⟩:=p;obtain ⟨a1,a2,a3⟩:=X9 hE h1 hc hu hs (F5.num om_);rw [h1] at h;cases o1 with
   | true =>
    simp only [Option.some.injEq,Prod.mk.injEq] at h;obtain ⟨rfl,rfl,rfl⟩:=h;exact ⟨a1,a2,fun h=>by cases h⟩
   | false =>
    obtain ⟨a3,a4⟩:=a3 rfl;simp only at h;cases h2:I7 E u1 f r with
    | none=>rw [h2] at h;cases h
    | some q =>
     obtain ⟨r1,u2,o2⟩:=q;obtain ⟨b1,b2,b3⟩:=X9 hE h2 om_ a2 a4 (hr.up om_);rw [h2] at h;cases o2 with
     | true =>
      simp only [Option.some.injEq,Prod.mk.injEq] at h;obtain ⟨rfl,rfl,rfl⟩:=h;exact ⟨om_,b2,fun h=>by cases h⟩
     | false =>
      obtain ⟨b3,b4⟩:=b3 rfl;simp only at h;obtain ⟨c1,c2,c3⟩:=ih h om_ b2 om_ (hs.up om_) b4;exact ⟨om_,c2,c3⟩
theorem cq9 {c:Nat} {s:Res} {l:List Nat}:∀ {n u u':Nat} {r r':Res} {o:Bool},V4 E s l n u r=some (r',u',o)→c+1≤u→u≤most→n≤l.length→l.length≤u - c - 1 →
  (∀ x∈l,x≤u - c - 1)→F5 (u - c - 1) s→F5 (u - c - 1) r→u≤u'∧u'≤most∧(o=false→F5 (u' - c - 1) r'):=by
 intro n
 induction n with
 | zero =>
  intro u u' r r' o h hc hu hk hll hl hs hr;simp only [V4,Option.some.injEq,Prod.mk.injEq] at h;obtain ⟨rfl,rfl,rfl⟩:=h;exact ⟨Nat.le_refl _,hu,fun _=>hr⟩
 | succ n ih =>
  intro u u' r r' o h hc hu hk hll hl hs hr;rw [V4] at h;have hx:l.getD n 0∈l:=by
   rw [List.getD_eq_getElem?_getD,List.getElem?_eq_getElem om_];exact List.getElem_mem _
  cases h1:I7 E u s (am7 (l.getD n 0)) with
  | none=>rw [h1] at h;cases h
  | some p =>
   obtain ⟨f,u1,o1⟩:=p;obtain ⟨a1,a2,a3⟩:=X9 hE h1 hc hu hs (F5.num (hl _ hx));rw [h1] at h;cases o1 with
   | true =>
    simp only [Option.some.injEq,Prod.mk.injEq] at h;obtain ⟨rfl,rfl,rfl⟩:=h;exact ⟨a1,a2,fun h=>by cases h⟩
   | false =>
    obtain ⟨a3,a4⟩:=a3 rfl;simp only at h;have hw:F5 (u1 - c - 1) (ag4 (l.drop (n+1))):=F5.list (fun x hx=>by have:=hl x (List.mem_of_mem_drop hx);omega) (by simp;omega);cases h2:I7 E u1 f (ag4 (l.drop (n+1))) with
    | none=>rw [h2] at h;cases h
    | some q =>
     obtain ⟨f2,u2,o2⟩:=q;obtain ⟨b1,b2,b3⟩:=X9 hE h2 om_ a2 a4 hw;rw [h2] at h;cases o2 with
     | true =>
      simp only [Option.some.injEq,Prod.mk.injEq] at h;obtain ⟨rfl,rfl,rfl⟩:=h;exact ⟨om_,b2,fun h=>by cases h⟩
     | false =>
      obtain ⟨b3,b4⟩:=b3 rfl;simp only at h;cases h3:I7 E u2 f2 r with
      | none=>rw [h3] at h;cases h
      | some q =>
       obtain ⟨r3,u3,o3⟩:=q;obtain ⟨d1,d2,d3⟩:=X9 hE h3 om_ b2 b4 (hr.up om_);rw [h3] at h;cases o3 with
       | true =>
        simp only [Option.some.injEq,Prod.mk.injEq] at h;obtain ⟨rfl,rfl,rfl⟩:=h;exact ⟨om_,d2,fun h=>by cases h⟩
       | false =>
        obtain ⟨d3,d4⟩:=d3 rfl;simp only at h;obtain ⟨c1,c2,c3⟩:=ih h om_ d2 om_ om_ (fun x hx=>by have:=hl x hx;omega) (hs.up om_) d4;exact ⟨om_,c2,c3⟩
theorem cN3 (hm:most≤1000000) {c:Nat} {k:Int} {u u':Nat} {l:List Res} {r:Res} {o:Bool} (h:O7 E k u l=some (r,u',o)) (hc:c+1≤u) (hu:u≤most)
  (hl:∀ x∈l,F5 (u - c - 2) x) (h2:l≠[]→c+2≤u):u≤u'∧u'≤most∧(o=false→F5 (u' - c - 1) r):=by
 unfold O7 at h;split at h
 ·split at h
  ·rename_i f a
   have:=h2 sp_;obtain ⟨a1,a2,a3⟩:=X9 hE h hc hu ((hl f sp_).up om_) ((hl a sp_).up om_);exact ⟨a1,a2,fun ho=>(a3 ho).2⟩
  ·cases h
 split at h
 ·split at h
  ·rename_i a
   have:=h2 sp_;have ha:=hl a sp_;simp only [Option.some.injEq,Prod.mk.injEq] at h;obtain ⟨rfl,rfl,rfl⟩:=h;have b2:=ha.n1;exact ⟨Nat.le_refl _,hu,fun _=>F5.num om_⟩
  ·cases h
 split at h
 ·split at h
  ·rename_i z s n
   have:=h2 sp_;have hn:=hl n sp_;have b2:=hn.n1;exact cz7 hE h hc hu om_ ((hl s sp_).up om_) ((hl z sp_).up om_)
  ·cases h
 split at h
 ·split at h
  ·rename_i a b
   have:=h2 sp_;have ha:=hl a sp_;have hb:=hl b sp_;simp only [Option.some.injEq,Prod.mk.injEq] at h;obtain ⟨rfl,rfl,rfl⟩:=h;refine ⟨Nat.le_refl _,hu,fun _=>F5.list (fun x hx=>?_) (by have:=hb.ll;simp;omega)⟩;rcases List.mem_cons.1 hx with rfl|hx
   ·have:=ha.n1;omega
   ·have:=hb.ls x hx;omega
  ·cases h
 split at h
 ·split at h
  ·rename_i z s n
   have:=h2 sp_;have hn:=hl n sp_;exact cq9 hE h hc hu (Nat.le_refl _) (by have:=hn.ll;omega) (fun x hx=>by have:=hn.ls x hx;omega) ((hl s sp_).up om_) ((hl z sp_).up om_)
  ·cases h
 split at h
 ·simp only [Option.some.injEq,Prod.mk.injEq] at h
  obtain ⟨rfl,rfl,rfl⟩:=h;exact ⟨Nat.le_refl _,hu,fun _=>F5.pair fun x hx=>(hl x hx).up om_⟩
 split at h
 ·split at h
  ·rename_i a
   split at h
   ·rename_i x y hp
    simp only [Option.some.injEq,Prod.mk.injEq] at h;obtain ⟨rfl,rfl,rfl⟩:=h;exact ⟨Nat.le_refl _,hu,fun _=>((hl a sp_).ps _ (by rw [hp];simp)).up om_⟩
   ·cases h
  ·cases h
 split at h
 ·split at h
  ·rename_i a
   split at h
   ·rename_i x y hp
    simp only [Option.some.injEq,Prod.mk.injEq] at h;obtain ⟨rfl,rfl,rfl⟩:=h;exact ⟨Nat.le_refl _,hu,fun _=>((hl a sp_).ps _ (by rw [hp];simp)).up om_⟩
   ·cases h
  ·cases h
 ·simp only [Option.some.injEq,Prod.mk.injEq] at h
  obtain ⟨rfl,rfl,rfl⟩:=h;exact ⟨Nat.le_refl _,hu,fun _=>F5.zero⟩
theorem cs3 (hm:most≤1000000):EvW most (ab7 most E):=by
 intro c u t e r u' o h hc hu ht hel he;unfold ab7 at h;split at h
 ·simp only [Option.some.injEq,Prod.mk.injEq] at h
  obtain ⟨rfl,rfl,rfl⟩:=h;exact ⟨Nat.le_refl _,hu,fun h=>by cases h⟩
 rename_i hne;split at h
 ·split at h
  ·rename_i h0
   cases hx:e[((e.length:Int) - 1 - t.index).toNat]? with
   | none=>rw [hx] at h;cases h
   | some x =>
    rw [hx] at h;simp only [Option.map_some,Option.some.injEq,Prod.mk.injEq] at h;obtain ⟨rfl,rfl,rfl⟩:=h;exact ⟨om_,om_,fun _=>⟨om_,(he _ (List.mem_of_getElem? hx)).up om_⟩⟩
  ·cases h
 split at h
 ·split at h
  ·rename_i b hb
   simp only [Option.some.injEq,Prod.mk.injEq] at h;obtain ⟨rfl,rfl,rfl⟩:=h;exact ⟨om_,om_,fun _=>⟨om_,F5.clo (ht.arg (by rw [hb];simp)) om_ fun x hx=>(he x hx).up om_⟩⟩
  ·cases h
 ·cases h1:Q1 E e (u+1) t.args with
  | none=>rw [h1] at h;cases h
  | some p =>
   obtain ⟨l,u1,o1⟩:=p;obtain ⟨a1,a2,a3⟩:=bx9 (c:=c+1) hE h1 om_ om_ (fun x hx=>ht.arg hx) om_ (fun x hx=>(he x hx).up om_);rw [h1] at h;cases o1 with
   | true =>
    simp only [Option.some.injEq,Prod.mk.injEq] at h;obtain ⟨rfl,rfl,rfl⟩:=h;exact ⟨om_,a2,fun h=>by cases h⟩
   | false =>
    obtain ⟨a3,a4,a5⟩:=a3 rfl;simp only at h;obtain ⟨b1,b2,b3⟩:=cN3 (c:=c) hE hm h om_ a2 (fun x hx=>(a5 x hx).up om_) (fun hn=>by
     have:t.args≠[]:=by intro e;rw [e] at a4;simp at a4;exact hn a4
     have:=a3 this;omega)
    exact ⟨om_,b2,fun ho=>⟨om_,b3 ho⟩⟩
end
theorem cI8 {most:Nat} (hm:most≤1000000):∀ f,EvW most (ev most f)
 | 0=>fun c u t e r u' o h=>by simp [ev] at h
 | f+1=>by rw [aC4];exact cs3 (cI8 hm f) hm
inductive RTy (Q:Ty→Prop):Res→Ty→Prop
 | num {n:Nat}:RTy Q (am7 n) r5
 | list {l:List Nat}:RTy Q (ag4 l) C8
 | pair {x y:Res} {a b:Ty}:RTy Q x a→RTy Q y b→RTy Q (ay7 [x,y]) (E9 a b)
 | unit:RTy Q an1 S5
 | clo {G:List Ty} {es:List Res} {b:Tm} {s t:Ty} (hl:es.length=G.length) (he:∀ (i:Nat) (r:Res) (a:Ty),es[i]? = some r→G[i]? = some a→RTy Q r a) (hb:w7 Q (G++[s]) b t):RTy Q (aT8 b es) (G1 s t)
def bf0 (Q:Ty→Prop) (es:List Res) (G:List Ty):Prop:=es.length=G.length∧∀ (i:Nat) (r:Res) (a:Ty),es[i]? = some r→G[i]? = some a→RTy Q r a
theorem bf0.snoc {Q:Ty→Prop} {es:List Res} {G:List Ty} {r:Res} {a:Ty} (h:bf0 Q es G) (hr:RTy Q r a):bf0 Q (es++[r]) (G++[a]):=by
 refine ⟨by simp [h.1],fun i x b hx hb=>?_⟩;by_cases hi:i<es.length
 ·rw [List.getElem?_append_left hi] at hx
  rw [List.getElem?_append_left (by rw [← h.1];exact hi)] at hb;exact h.2 i x b hx hb
 ·rw [List.getElem?_append_right om_] at hx
  rw [List.getElem?_append_right (by rw [← h.1];omega),← h.1] at hb;cases hj:i - es.length with
  | zero=>rw [hj] at hx hb;simp at hx hb;subst hx;subst hb;exact hr
  | succ j=>rw [hj] at hx;simp at hx
theorem cN1 {α:Type} {l:List α} (h:l.length=2):∃ x y,l=[x,y]:=by
 match l,h with
 | [x,y],_=>exact ⟨x,y,rfl⟩
theorem cR3 {α:Type} {l:List α} (h:l.length=3):∃ x y z,l=[x,y,z]:=by
 match l,h with
 | [x,y,z],_=>exact ⟨x,y,z,rfl⟩
def EvP (Q:Ty→Prop) (most:Nat) (N:Nat) (E:Evl):Prop:=∀ u t e G s,N≤u→u≤most→w7 Q G t s→bf0 Q e G →
 ∃ r u' o,E u t e=some (r,u',o)∧u≤u'∧u'≤most∧(o=false→RTy Q r s)
section
variable {Q:Ty→Prop} {most N:Nat} {E:Evl} (hE:EvP Q most N E)
include hE
theorem as4 {u:Nat} {f a:Res} {s t:Ty} (hN:N≤u) (hu:u≤most) (hf:RTy Q f (G1 s t)) (ha:RTy Q a s) :
  ∃ r u' o,I7 E u f a=some (r,u',o)∧u≤u'∧u'≤most∧(o=false→RTy Q r t):=by
 cases hf with
 | clo hl he hb=>exact hE u _ _ _ _ hN hu hb (bf0.snoc ⟨hl,he⟩ ha)
theorem bs6 {e:List Res} {G:List Ty} (he:bf0 Q e G):∀ (l:List Tm) (ts:List Ty) (u:Nat),N≤u→u≤most→l.length=ts.length→(∀ (i:Nat) x a,l[i]? = some x→ts[i]? = some a→w7 Q G x a) →
  ∃ l' u' o,Q1 E e u l=some (l',u',o)∧u≤u'∧u'≤most∧(o=false→l'.length=ts.length∧∀ (i:Nat) r a,l'[i]? = some r→ts[i]? = some a→RTy Q r a)
 | [],ts,u,hN,hu,hl,h=>by
  refine ⟨[],u,false,rfl,Nat.le_refl _,hu,fun _=>⟨by simpa using hl,sp_⟩⟩
 | t::l,[],u,hN,hu,hl,h=>by simp at hl
 | t::l,a::ts,u,hN,hu,hl,h=>by
  obtain ⟨r,u1,o1,h1,h2,h3,h4⟩:=hE u t e G a hN hu (h 0 t a rfl rfl) he;rw [Q1,h1];cases o1 with
  | true=>exact ⟨_,_,_,rfl,h2,h3,fun h=>by cases h⟩
  | false =>
   obtain ⟨l',u2,o2,g1,g2,g3,g4⟩:=bs6 he l ts u1 om_ h3 (by simpa using hl) (fun i x b hx hb=>h (i+1) x b (by simpa using hx) (by simpa using hb));simp only [g1];refine ⟨_,_,_,rfl,om_,g3,fun ho=>?_⟩;obtain ⟨g4,g5⟩:=g4 ho;refine ⟨by simp [g4],fun i x b hx hb=>?_⟩;cases i with
   | zero=>simp at hx hb;subst hx;subst hb;exact h4 rfl
   | succ i=>exact g5 i x b (by simpa using hx) (by simpa using hb)
theorem bP7 {s:Res} {t:Ty} (hs:RTy Q s (G1 r5 (G1 t t))):∀ (n k u:Nat) (r:Res),N≤u→u≤most→RTy Q r t →
  ∃ r' u' o,ad7 E s n k u r=some (r',u',o)∧u≤u'∧u'≤most∧(o=false→RTy Q r' t)
 | 0,k,u,r,hN,hu,hr=>⟨_,_,_,rfl,Nat.le_refl _,hu,fun _=>hr⟩
 | n+1,k,u,r,hN,hu,hr=>by
  obtain ⟨f,u1,o1,h1,h2,h3,h4⟩:=as4 hE hN hu hs (RTy.num (n:=k));rw [ad7,h1];cases o1 with
  | true=>exact ⟨_,_,_,rfl,h2,h3,fun h=>by cases h⟩
  | false =>
   obtain ⟨r1,u2,o2,g1,g2,g3,g4⟩:=as4 hE om_ h3 (h4 rfl) hr;simp only [g1];cases o2 with
   | true=>exact ⟨_,_,_,rfl,om_,g3,fun h=>by cases h⟩
   | false =>
    obtain ⟨r2,u3,o3,k1,k2,k3,k4⟩:=bP7 hs n (k+1) u2 r1 om_ g3 (g4 rfl);exact ⟨_,_,_,k1,om_,k3,k4⟩
theorem bt3 {s:Res} {t:Ty} {l:List Nat} (hs:RTy Q s (G1 r5 (G1 C8 (G1 t t)))):∀ (n u:Nat) (r:Res),N≤u→u≤most→RTy Q r t →
  ∃ r' u' o,V4 E s l n u r=some (r',u',o)∧u≤u'∧u'≤most∧(o=false→RTy Q r' t)
 | 0,u,r,hN,hu,hr=>⟨_,_,_,rfl,Nat.le_refl _,hu,fun _=>hr⟩
 | n + 1,u,r,hN,hu,hr=>by
  obtain ⟨f,u1,o1,h1,h2,h3,h4⟩:=as4 hE hN hu hs (RTy.num (n:=l.getD n 0));rw [V4,h1];cases o1 with
  | true=>exact ⟨_,_,_,rfl,h2,h3,fun h=>by cases h⟩
  | false =>
   obtain ⟨f1,u2,o2,g1,g2,g3,g4⟩:=as4 hE om_ h3 (h4 rfl) (RTy.list (l:=l.drop (n+1)));simp only [g1];cases o2 with
   | true=>exact ⟨_,_,_,rfl,om_,g3,fun h=>by cases h⟩
   | false =>
    obtain ⟨r1,u3,o3,g1,g5,g6,g7⟩:=as4 hE om_ g3 (g4 rfl) hr;simp only [g1];cases o3 with
    | true=>exact ⟨_,_,_,rfl,om_,g6,fun h=>by cases h⟩
    | false =>
     obtain ⟨r2,u4,o4,k1,k2,k3,k4⟩:=bt3 hs n u3 r1 om_ g6 (g7 rfl);exact ⟨_,_,_,k1,om_,k3,k4⟩
theorem cP4 {k:Int} {ty s:Ty} {ts:List Ty} (hN:S7 Q k ty ts s) {u:Nat} {l:List Res} (hu0:N≤u) (hu:u≤most) (hl:l.length=ts.length)
  (h:∀ (i:Nat) r a,l[i]? = some r→ts[i]? = some a→RTy Q r a):∃ r u' o,O7 E k u l=some (r,u',o)∧u≤u'∧u'≤most∧(o=false→RTy Q r s):=by
 have l0:ts.length=0→l=[]:=fun h=>by rw [h] at hl;exact List.length_eq_zero_iff.1 hl
 have l1:ts.length=1→∃ x,l=[x]:=fun h=>by rw [h] at hl;exact List.length_eq_one_iff.1 hl
 have l2:ts.length=2→∃ x y,l=[x,y]:=fun h=>by rw [h] at hl;exact cN1 hl
 have l3:ts.length=3→∃ x y z,l=[x,y,z]:=fun h=>by rw [h] at hl;exact cR3 hl
 cases hN with
 | app =>
  obtain ⟨x,y,rfl⟩:=l2 rfl;simp only [O7,BEq.rfl,if_true];exact as4 hE hu0 hu (h 0 x _ rfl rfl) (h 1 y _ rfl rfl)
 | zero=>obtain rfl:=l0 rfl;exact ⟨an1,u,false,by simp [O7],Nat.le_refl _,hu,fun _=>.num⟩
 | succ =>
  obtain ⟨x,rfl⟩:=l1 rfl;exact ⟨_,u,false,by simp [O7]<;>rfl,Nat.le_refl _,hu,fun _=>.num⟩
 | av8 =>
  obtain ⟨x,y,z,rfl⟩:=l3 rfl;have e:O7 E 6 u [x,y,z]=ad7 E y z.num 0 u x:=by simp [O7]
  rw [e];exact bP7 hE (h 1 y _ rfl rfl) _ _ _ _ hu0 hu (h 0 x _ rfl rfl)
 | nil=>obtain rfl:=l0 rfl;exact ⟨an1,u,false,by simp [O7],Nat.le_refl _,hu,fun _=>.list (l:=[])⟩
 | cons =>
  obtain ⟨x,y,rfl⟩:=l2 rfl;exact ⟨_,u,false,by simp [O7]<;>rfl,Nat.le_refl _,hu,fun _=>.list⟩
 | fold =>
  obtain ⟨x,y,z,rfl⟩:=l3 rfl;have e:O7 E 9 u [x,y,z]=V4 E y z.list z.list.length u x:=by simp [O7]
  rw [e];exact bt3 hE (h 1 y _ rfl rfl) _ _ _ hu0 hu (h 0 x _ rfl rfl)
 | pair =>
  obtain ⟨x,y,rfl⟩:=l2 rfl;exact ⟨_,u,false,by simp [O7]<;>rfl,Nat.le_refl _,hu,fun _=>.pair (h 0 x _ rfl rfl) (h 1 y _ rfl rfl)⟩
 | fst =>
  obtain ⟨x,rfl⟩:=l1 rfl;have hx:=h 0 x _ rfl rfl;cases hx with
  | pair ha hb=>exact ⟨_,u,false,by simp [O7,ay7,Res.pair]<;>rfl,Nat.le_refl _,hu,fun _=>ha⟩
 | snd =>
  obtain ⟨x,rfl⟩:=l1 rfl;have hx:=h 0 x _ rfl rfl;cases hx with
  | pair ha hb=>exact ⟨_,u,false,by simp [O7,ay7,Res.pair]<;>rfl,Nat.le_refl _,hu,fun _=>hb⟩
 | unit=>obtain rfl:=l0 rfl;exact ⟨an1,u,false,by simp [O7],Nat.le_refl _,hu,fun _=>.unit⟩
theorem bs5 (hNm:1≤N):EvP Q most (N - 1) (ab7 most E):=by
 intro u t e G s hN hu ht he;unfold ab7;split
 ·exact ⟨_,_,_,rfl,Nat.le_refl _,hu,fun h=>by cases h⟩
 rename_i hne;have node:∀ {k:Int} {ty:Ty} {l:List Tm} {ts:List Ty},S7 Q k ty ts s→l.length=ts.length→(∀ (i:Nat) x a,l[i]? = some x→ts[i]? = some a→w7 Q G x a)→(k==1)=false→(k==2)=false →
   ∃ r u' o,(if (tmT k ty l).kind==1 then
     (if 0≤(e.length:Int) - 1 - (tmT k ty l).index then (e[((e.length:Int) - 1 - (tmT k ty l).index).toNat]?).map fun r=>(r,u+1,false) else none)
    else if (tmT k ty l).kind==2 then (match (tmT k ty l).args with | [b]=>some (aT8 b e,u+1,false)|_=>none)
    else match Q1 E e (u+1) (tmT k ty l).args with
     | none=>none
     | some (_,u',true)=>some (an1,u',true)
     | some (l2,u',false)=>O7 E (tmT k ty l).kind u' l2)=some (r,u',o)∧u≤u'∧u'≤most∧(o=false→RTy Q r s):=by
  intro k ty l ts hT hl h k1 k2;obtain ⟨l',u1,o1,g1,g2,g3,g4⟩:=bs6 hE he l ts (u+1) om_ om_ hl h;simp only [tmT,Tm.kind,Tm.args,k1,k2,Bool.false_eq_true,if_false,g1];cases o1 with
  | true=>exact ⟨_,_,_,rfl,om_,g3,fun h=>by cases h⟩
  | false =>
   obtain ⟨g4,g5⟩:=g4 rfl;obtain ⟨r,u',o,k1,k2,k3,k4⟩:=cP4 hE hT om_ g3 g4 g5;exact ⟨r,u',o,k1,om_,k3,k4⟩
 have nk:∀ {k:Int} {ty:Ty} {ts:List Ty},S7 Q k ty ts s→(k==1)=false∧(k==2)=false:=by
  intro k ty ts h;cases h<;>exact ⟨rfl,rfl⟩
 cases ht with
 | @var _ i _ hi hg =>
  have hel:=he.1;have e1:((e.length:Int) - 1 - (i:Int)).toNat=G.length - 1 - i:=by omega
  have h0:0≤(e.length:Int) - 1 - (i:Int):=by omega
  obtain ⟨r,hr⟩:∃ r,e[G.length - 1 - i]? = some r:=⟨_,List.getElem?_eq_getElem om_⟩;refine ⟨r,u+1,false,?_,om_,om_,fun _=>he.2 _ r s hr hg⟩;simp only [u5,Tm.kind,Tm.index,BEq.rfl,if_true,if_pos h0,e1,hr,Option.map_some]
 | @lam _ a b t hq hb =>
  exact ⟨aT8 t e,u+1,false,by simp [tmT,Tm.kind,Tm.args],om_,om_,fun _=>.clo he.1 he.2 hb⟩
 | n0 hT=>exact node hT rfl sp_ (nk hT).1 (nk hT).2
 | n1 hT h1 =>
  refine node hT rfl (fun i x a hx ha=>?_) (nk hT).1 (nk hT).2
  match i with
  | 0=>simp at hx ha;subst hx;subst ha;exact h1
  | i+1=>simp at hx
 | n2 hT h1 h2 =>
  refine node hT rfl (fun i x a hx ha=>?_) (nk hT).1 (nk hT).2
  match i with
  | 0=>simp at hx ha;subst hx;subst ha;exact h1
  | 1=>simp at hx ha;subst hx;subst ha;exact h2
  | i+2=>simp at hx
 | n3 hT h1 h2 h3 =>
  refine node hT rfl (fun i x a hx ha=>?_) (nk hT).1 (nk hT).2
  match i with
  | 0=>simp at hx ha;subst hx;subst ha;exact h1
  | 1=>simp at hx ha;subst hx;subst ha;exact h2
  | 2=>simp at hx ha;subst hx;subst ha;exact h3
  | i+3=>simp at hx
end
theorem cU3 {Q:Ty→Prop} {most:Nat}:∀ f,EvP Q most (most+1 - f) (ev most f)
 | 0=>fun u t e G s hN hu=>by omega
 | f+1=>by
  rw [aC4,show most+1 - (f+1)=most+1 - f - 1 by omega];by_cases h:1≤most+1 - f
  ·exact bs5 (cU3 f) h
  ·intro u t e G s hN hu ht he
   have:=bs5 (N:=1) (fun u t e G s hN hu ht he=>cU3 f u t e G s om_ hu ht he) (Nat.le_refl _) u t e G s om_ hu ht he;exact this
abbrev Vl:=Tm→List Res→Option Res
section
variable {E:Evl} {F:Vl} (hEF:∀ u t e r u',E u t e=some (r,u',false)→F t e=some r)
include hEF
end
section
variable {E F:Vl} (hEF:∀ t e r,E t e=some r→F t e=some r)
include hEF
end
inductive aK5:Res→Res→Prop
 | mk {n:Nat} {l:List Nat} {p p':List Res} {b:Tm} {e e' pre:List Res} (hp:p.length=p'.length) (hps:∀ (i:Nat) x y,p[i]? = some x→p'[i]? = some y→aK5 x y)
   (he:e.length=e'.length) (hes:∀ (i:Nat) x y,e[i]? = some x→e'[i]? = some y→aK5 x y):aK5 (.mk n l p b e) (.mk n l p' b (pre++e'))
def dh3 (l l':List Res):Prop:=l.length=l'.length∧∀ (i:Nat) x y,l[i]? = some x→l'[i]? = some y→aK5 x y
def da8 (e e':List Res):Prop:=∃ pre e'',e'=pre++e''∧dh3 e e''
theorem aK5.num {n:Nat}:aK5 (am7 n) (am7 n):=aK5.mk (pre:=[]) rfl sp_ rfl sp_
theorem aK5.list {l:List Nat}:aK5 (ag4 l) (ag4 l):=aK5.mk (pre:=[]) rfl sp_ rfl sp_
theorem aK5.clo {b:Tm} {e e':List Res} (h:da8 e e'):aK5 (aT8 b e) (aT8 b e'):=by
 obtain ⟨pre,e'',rfl,h1,h2⟩:=h;exact aK5.mk rfl sp_ h1 h2
section
variable {E:Vl} (hE:∀ t e r,E t e=some r→∀ e',da8 e e'→∃ r',E t e'=some r'∧aK5 r r')
include hE
end
section
variable {P:Program} {env:Nat→Option (List V)} {ops:Array Oper} {draw:Bool} {gen reg:Nat} {rest:List Oper} {i:Nat} {log:List ad3} {K:St→Prop} {σ:St} {dst:Option Nat}
def cL4 (T:Option TyI) (t:TypeId) (x:V):Option V:=match T with|some i=>if i.kind=8 then none else some (.iface t x)|none=>none
@[go_sem] theorem bR4 {t:TypeId} {x:Operand}:aop P env ops draw gen reg rest dst i log K σ (.makeInterface t x) =
  ok1 P env ops draw gen reg rest dst i log K σ (cL4 (tyi P t) t (av env σ.tm x)):=by
 simp only [aop];exact aa1 (aa7 rfl)
attribute [go_sem] cL4
end
structure Tys where
 int:TypeId
 cell:TypeId
 both:TypeId
 unit:TypeId
 clo:TypeId
def U8:List Nat→V
 | []=>.T9
 | x::l=>.el [.int .i64 x,U8 l] 0
mutual
inductive ThV (K:Tys):Ty→Res→V→Prop
 | num {n:Nat}:ThV K r5 (am7 n) (.iface K.int (.int .i64 n))
 | list {l:List Nat}:ThV K C8 (ag4 l) (.iface K.cell (U8 l))
 | unit:ThV K S5 an1 (.iface K.unit (.agg []))
 | pair {a b:Ty} {x y:Res} {u v:V}:ThV K a x u→ThV K b y v→ThV K (E9 a b) (ay7 [x,y]) (.iface K.both (.el [u,v] 0))
 | clo {g:List Ty} {a b:Ty} {t:Tm} {e:List Res} {ve:V}:ax9 K g e ve→w7 TyG (g++[a]) t b→ThV K (G1 a b) (aT8 t e) (.iface K.clo (.el (t.cells++[ve]) 0))
inductive ax9 (K:Tys):List Ty→List Res→V→Prop
 | nil:ax9 K [] [] .T9
 | snoc {g:List Ty} {a:Ty} {e:List Res} {r:Res} {v ve:V}:ax9 K g e ve→ThV K a r v→ax9 K (g++[a]) (e++[r]) (.el [v,ve] 0)
end
theorem ad0:∀ l,H2 (U8 l)=U8 l
 | []=>rfl
 | x::l=>by rw [U8,H2];simp [C7,ad0 l,H2]
theorem aJ1 {S:Id→Prop}:∀ l,InV S (U8 l)
 | []=>by rw [U8,InV];trivial
 | x::l=>by rw [U8,InV];simp [InL,aJ1 l,InV]
theorem cE2 {S:Id→Prop} {a b:List V} (ha:InL S a) (hb:InL S b):InL S (a++b):=by
 rw [aC1] at *;intro v hv;rcases List.mem_append.1 hv with h|h
 ·exact ha v h
 ·exact hb v h
theorem am9 (a b:List V):C7 (a++b)=C7 a++C7 b:=by simp [ao3]
mutual
theorem ThV.wk {K:Tys} {s:Ty} {r:Res} {v:V}:ThV K s r v→H2 v=v
 | .num=>rfl
 | .list=>by simp [H2,ad0]
 | .unit=>rfl
 | .pair h1 h2=>by simp [H2,C7,h1.wk,h2.wk]
 | .clo h _=>by simp [H2,am9,az9,C7,h.wk]
theorem ax9.wk {K:Tys} {g:List Ty} {e:List Res} {v:V}:ax9 K g e v→H2 v=v
 | .nil=>rfl
 | .snoc h1 h2=>by simp [H2,C7,h1.wk,h2.wk]
end
mutual
theorem ThV.ins {K:Tys} {S:Id→Prop} {s:Ty} {r:Res} {v:V}:ThV K s r v→InV S v
 | .num=>by simp [InV]
 | .list=>by rw [InV];exact aJ1 _
 | .unit=>by simp [InV,InL]
 | .pair h1 h2=>by rw [InV,InV];exact ⟨h1.ins,h2.ins,trivial⟩
 | .clo h _=>by
  rw [InV,InV];refine cE2 (by simp [aw0]) ?_;exact ⟨h.ins,trivial⟩
theorem ax9.ins {K:Tys} {S:Id→Prop} {g:List Ty} {e:List Res} {v:V}:ax9 K g e v→InV S v
 | .nil=>by simp [InV]
 | .snoc h1 h2=>by rw [InV];exact ⟨h2.ins,h1.ins,trivial⟩
end
def IsI (v:V):Prop:=∃ t w,v=.iface t w∧H2 w=w∧∀ S,InV S w=True
def IsE (v:V):Prop:=v=.T9∨∃ c,v=.el c 0∧C7 c=c∧∀ S,InL S c=True
theorem aV6 {v:V} (h:H2 v=v) (hi:∀ S,InV S v) {t:TypeId} {w:V} (e:v=.iface t w):IsI v:=by
 subst e;simp only [H2,V.iface.injEq,true_and] at h;exact ⟨t,w,rfl,h,fun S=>eq_true (by have:=hi S;rwa [InV] at this)⟩
theorem ThV.isI {K:Tys} {s:Ty} {r:Res} {v:V} (h:ThV K s r v):IsI v:=by
 have hw:=h.wk;have hi:∀ S,InV S v:=fun S=>h.ins;cases h with
 | num=>exact aV6 hw hi rfl
 | list=>exact aV6 hw hi rfl
 | unit=>exact aV6 hw hi rfl
 | pair _ _=>exact aV6 hw hi rfl
 | clo _ _=>exact aV6 hw hi rfl
theorem ax9.isE {K:Tys} {g:List Ty} {e:List Res} {v:V} (h:ax9 K g e v):IsE v:=by
 have hw:=h.wk;have hi:∀ S,InV S v:=fun S=>h.ins;cases h with
 | nil=>exact .inl rfl
 | snoc _ _ =>
  refine .inr ⟨_,rfl,?_,fun S=>eq_true ?_⟩
  ·simpa [H2] using hw
  ·have:=hi S;rwa [InV] at this
def atV:Nat→V→Option V
 | 0,.el [v,_] 0=>some v
 | i+1,.el [_,n] 0=>atV i n
 | _,_=>none
theorem ax9.get {K:Tys} {g:List Ty} {e:List Res} {ve:V} (h:ax9 K g e ve):∀ i:Nat,i<e.length→∃ v a r,atV i ve=some v∧e[e.length - 1 - i]? = some r∧g[e.length - 1 - i]? = some a∧ThV K a r v∧e.length=g.length:=by
 suffices hs:∀ (n:Nat) {g:List Ty} {e:List Res} {ve:V},e.length=n→ax9 K g e ve→e.length=g.length∧∀ i:Nat,i<e.length→∃ v a r,atV i ve=some v∧e[e.length - 1 - i]? = some r∧g[e.length - 1 - i]? = some a∧ThV K a r v by
  intro i hi;obtain ⟨h1,h2⟩:=hs _ rfl h;obtain ⟨v,a,r,q1,q2,q3,q4⟩:=h2 i hi;exact ⟨v,a,r,q1,q2,q3,q4,h1⟩
 intro n
 induction n with
 | zero =>
  intro g e ve hn h;cases h with
  | nil=>exact ⟨rfl,fun i hi=>by simp at hi⟩
  | snoc _ _=>simp at hn
 | succ n ih =>
  intro g e ve hn h;cases h with
  | nil=>simp at hn
  | @snoc g a e r v ve h1 h2 =>
   have hl:e.length=n:=by simpa using hn
   obtain ⟨i1,i2⟩:=ih hl h1;refine ⟨by simp [i1],fun i hi=>?_⟩;cases i with
   | zero =>
    refine ⟨v,a,r,rfl,?_,?_,h2⟩
    ·simp
    ·simp [i1]
   | succ i =>
    obtain ⟨v',a',r',q1,q2,q3,q4⟩:=i2 i (by simp at hi;omega);have e1:(e++[r]).length - 1 - (i+1)=e.length - 1 - i:=by simp;omega
    have hlt:e.length - 1 - i<e.length:=(List.getElem?_eq_some_iff.1 q2).1;refine ⟨v',a',r',by rw [atV];exact q1,?_,?_,q4⟩
    ·rw [e1,List.getElem?_append_left hlt];exact q2
    ·rw [e1,List.getElem?_append_left om_];exact q3
theorem ax9.len {K:Tys} {g:List Ty} {e:List Res} {ve:V} (h:ax9 K g e ve):e.length=g.length:=by
 cases he:e with
 | nil =>
  subst he;generalize hq:([]:List Res)=q at h;cases h with
  | nil=>rfl
  | snoc _ _=>simp at hq
 | cons x l =>
  obtain ⟨_,_,_,_,_,_,_,h⟩:=h.get 0 (by rw [he];simp);rw [← he];exact h
theorem Ext.drew (g:G) (w:World):Ext g w g w.drew :=
 ⟨rfl,rfl,rfl,sp_,fun _=>Nat.le_refl _,fun _ _ _=>rfl,fun _ _ h=>⟨rfl,h⟩,fun id h=>⟨h,rfl,.inl rfl⟩,Nat.le_refl _⟩
theorem Rel.drew {env:Nat→Option (List V)} {g:G} {w:World} {h:H} (r:Rel env g w h):Rel env g w.drew h:=by
 have hx:=Ext.drew g w;refine ⟨r.dom,r.top,?_,r.inj,?_,r.apart,r.T8,?_,fun k cs' e=>(r.glob k cs' e).mono hx⟩
 ·intro id cs e
  obtain ⟨vs,h1,h2,h3,h4,h5⟩:=r.box id cs e;exact ⟨vs,h1,h2,fun i c v a b=>(h3 i c v a b).mono hx,h4,h5⟩
 ·intro id n k e
  obtain ⟨h1,h2,h3,hk⟩:=r.tok id n k e;exact ⟨h1,h2,fun hlt=>by
   obtain ⟨b,off,vs',s1,s2,s3,s4,s5⟩:=h3 hlt;exact ⟨b,off,vs',s1,s2,s3,s4,s5⟩,hk⟩
 ·intro b hb;simp only [World.size_drew] at hb;exact r.C4 b hb
theorem as7 {P:Program} {env:Nat→Option (List V)} {ops:Array Oper} {gen reg:Nat} {K:St→Prop} :
  ∀ (rest:List Oper) (i:Nat) (log:List ad3) (σ:St),(∀ j o,rest[j]? = some o→ops[i+j]? = some o)→N8 P env ops false gen reg rest i log K σ →
   ∃ l σe,l.map (·.1)=(List.range rest.length).map (i+·)∧af8 P env ops gen reg l σ σe∧K σe
 | [],i,log,σ,_,h=>⟨[],σ,rfl,.nil σ,h⟩
 | o::rest,i,log,σ,hr,h=>by
  have ho:ops[i]? = some o:=by have:=hr 0 o;simpa using this
  have hr':∀ j p,rest[j]? = some p→ops[i+1+j]? = some p:=fun j p hp=>by
   have:=hr (j+1) p (by simpa using hp);rw [show i+(j+1)=i+1+j by omega] at this;exact this
  have bu4:i::(List.range rest.length).map (i+1+·)=(List.range (o::rest).length).map (i+·):=by
   rw [List.length_cons,List.range_succ_eq_map,List.map_cons,List.map_map];simp only [Nat.add_zero];congr 1;apply List.map_congr_left;intro j _;simp;omega
  rcases aZ7 h with ⟨hg,h'⟩|⟨hg,e,hs,cz8,h'⟩
  ·obtain ⟨l,σe,h1,h2,h3⟩:=as7 rest (i+1) log _ hr' h'
   exact ⟨(i,none)::l,σe,by rw [List.map_cons,h1];exact bu4,.cons _ _ _ _ _ ⟨o,ho,hg,rfl⟩ h2,h3⟩
  ·obtain ⟨l,σe,h1,h2,h3⟩:=as7 rest (i+1) _ _ hr' h'
   exact ⟨(i,some e)::l,σe,by rw [List.map_cons,h1];exact bu4,.cons _ _ _ _ _ ⟨o,ho,hg,hs,rfl⟩ h2,h3⟩
theorem bg9 {P:Program} {env:Nat→Option (List V)} {ops:Array Oper} {gen reg n:Nat} (hn:aw9 n ops=true) (l2:List Nat) :
  ∀ (l:List (Nat × Option Eff)) {σ σe:St} (h:af8 P env ops gen reg l σ σe) {g:G} {w:World} {a:Act} (r:K1 env n g w a σ)
  {Q:Exit→Act→World→Prop} (hk:∀ g' a' w',Ext g w g' w'→K1 env n g' w' a' σe→wpOps P ops Q l2 a' w'),wpOps P ops Q (l.map (·.1)++l2) a w
 | [],_,_,.nil _,g,w,a,r,Q,hk=>hk g a w (Ext.refl g w) r
 | x::l,_,_,.cons _ _ _ σ1 _ hs t,g,w,a,r,Q,hk=>by
  rw [List.map_cons,List.cons_append,wpOps_cons];exact bc0 hn hs r fun g' a' w' hx r'=>bg9 hn l2 l t r' fun g2 a2 w2 hx2 r2=>hk g2 a2 w2 (hx.trans hx2) r2
theorem RV.freeze {g g':G} {w:World} {S:Id→Prop} (hl:∀ b,g.lim b≤g'.lim b) (hS:∀ id,S id→g'.dom id=true∧g'.loc id=g.loc id∧g'.buf id=g.buf id)
  {c:Value} {v:V} (h:RV g w c v) (hin:InV S v):RV g' w c v:=by
 induction h with
 | undef c=>exact .undef c
 | bool b=>exact .bool b
 | int k n=>exact .int k n
 | str s=>exact .str s
 | agg vs cs h _ ih=>rw [InV] at hin;exact .agg vs cs h fun i c v hc hv=>ih i c v hc hv (N9 hin hv)
 | tup vs cs h _ ih=>rw [InV] at hin;exact .tup vs cs h fun i c v hc hv=>ih i c v hc hv (N9 hin hv)
 | sl a cap c es k cell hk V0 E0 _ hc ih =>
  rw [InV] at hin;refine .sl a cap c es k cell hk V0 (fun hne=>?_) (fun i v hv=>ih i v hv (N9 (aD5.1 hin.2) hv)) ?_
  ·obtain ⟨b,off,e,h1,h2⟩:=E0 hne
   exact ⟨b,off,e,Nat.le_trans h1 (hl b),h2⟩
  cases c with
  | any=>trivial
  | full=>exact hc
  | own id =>
   obtain ⟨a1,a2,a3⟩:=hS id hin.1;exact ⟨a1,by rw [a3];exact hc.2⟩
 | ptr id off h=>rw [InV] at hin;rw [← (hS id hin).2.1];exact .ptr id off (hS id hin).1
 | slb id n cap h h2=>rw [InV] at hin;rw [← (hS id hin).2.1];exact .slb id n cap (hS id hin).1 h2
 | el b off cs o cell hlm E0 _ ih=>rw [InV] at hin;exact .el b off cs o cell (Nat.le_trans hlm (hl b)) E0 fun i v hv=>ih i v hv (N9 hin hv)
 | T9=>exact .T9
 | fn f fs cs fs' cs' h1 h2 _ _ ih1 ih2 =>
  rw [InV] at hin;exact .fn f fs cs fs' cs' h1 h2 (fun i c v hc hv=>ih1 i c v hc hv (N9 hin.1 hv)) (fun i c v hc hv=>ih2 i c v hc hv (N9 hin.2 hv))
 | U9=>exact .U9
 | iface t c v _ ih=>rw [InV] at hin;exact .iface t c v (ih hin)
 | E7=>exact .E7
def P4 (ds:List Deferred) (env:Nat→Option (List V)) (n:Nat) (g:G) (w:World) (a:Act) (σ:St):Prop:=K1 env n g w { a with defers:=[] } σ∧a.defers=ds
theorem P4.of {env:Nat→Option (List V)} {n:Nat} {g:G} {w:World} {a:Act} {σ:St} (r:K1 env n g w a σ):P4 [] env n g w a σ:=by
 have h:=r.defers;obtain ⟨t,d⟩:=a;simp only at h;subst h;exact ⟨r,rfl⟩
theorem P4.st {env:Nat→Option (List V)} {n:Nat} {g:G} {w:World} {a:Act} {σ:St} (r:P4 [] env n g w a σ):K1 env n g w a σ:=by
 obtain ⟨r,h⟩:=r;obtain ⟨t,d⟩:=a;simp only at h;subst h;exact r
theorem P4.av {ds:List Deferred} {env:Nat→Option (List V)} {n:Nat} {g:G} {w:World} {a:Act} {σ:St} (r:P4 ds env n g w a σ) (x:Operand):RV g w (a.eval x) (av env σ.tm x):=bt5 r.1 x
theorem put_defers {a:Act} {d:Option Tmp} {v:Value}:{ a.put d v with defers:=[] }=({ a with defers:=[] }:Act).put d v∧(a.put d v).defers=a.defers:=by
 cases d<;>exact ⟨rfl,rfl⟩
theorem P4.put {ds:List Deferred} {env:Nat→Option (List V)} {n:Nat} {g:G} {w:World} {a:Act} {σ:St} (r:P4 ds env n g w a σ) {g':G} {w':World} (x:Ext g w g' w')
  {d:Option Nat} (hd:∀ t,d=some t→t<n) {c:Value} {v:V} {h':H} (hr:Rel env g' w' h') (hv:RV g' w' c v):P4 ds env n g' w' (a.put d c) ⟨upd σ.tm d v,h'⟩ :=
 ⟨by rw [put_defers.1];exact r.1.put x hd hr hv,by rw [put_defers.2];exact r.2⟩
section
variable {F:Fence} (hF:∀ f,F.fn f) (hdp:F.depth=none) {m:Nat} {ds:List Deferred}
include hF hdp
theorem ct6 {P:Program} {env:Nat→Option (List V)} {n:Nat} {g:G} {w:World} {a:Act} {σ:St} {nid:Id} {o:Oper} {eff:Eff}
  (hc:∀ k args w R,Calls P k args w R→CallsIn F (m - 1) P k args w R)
  (hs:Stp P env (av env σ.tm) σ.h nid o.op eff) (r:P4 ds env n g w a σ) (hd:∀ t,o.dst=some t→t<n) {next:Act→World→Prop} {Q:Exit→Act→World→Prop}
  (hn:∀ g' a' w',Ext g w g' w'→P4 ds env n g' w' a' (σ.put o.dst eff)→next a' w'):o.wpIn F m P a w next Q:=by
 have hnd:∀ c,o.op≠.defer c:=by
  intro c hc;rcases hs with hs|⟨c',hc',_⟩
  ·rw [hc] at hs;simp [aB7,Q7,E5] at hs
  ·rw [hc] at hc';cases hc'
 refine ⟨fun f _=>hF f,?_⟩;rw [Oper.semAt_plain F _ _ hnd];rcases hs with hs|⟨c,hc0,hs⟩
 ·obtain ⟨cv,w',g',E0,hx,hr,hv⟩:=aX1 r.1.rel (fun x=>r.av x) hs
  have:=hn g' (a.put o.dst cv) w' hx (r.put hx hd hr hv);rcases E0 with E0|⟨E0,rfl⟩
  ·simpa only [E0,Oper.uponIn_value] using this
  ·simpa only [E0,Oper.uponIn_skip] using this
 ·obtain ⟨k,vs,E0,aI0⟩:=aR4 r.1.rel (fun x=>r.av x) hc0 hs
  simp only [E0,Oper.uponIn_enter];refine ⟨fun h=>by rw [hdp] at h;simp at h,(hc _ _ _ _ aI0).mono ?_⟩;rintro e w' ⟨cv,g',rfl,hx',hr',hv'⟩;exact hn g' _ w' hx' (r.put hx' hd hr' hv')
end
section
variable {F:Fence} (hF:∀ f,F.fn f) (hdp:F.depth=none) {m:Nat} {ds:List Deferred}
variable {P:Program} (hcl:∀ k args w R,Calls P k args w R→CallsIn F (m - 1) P k args w R)
variable {env:Nat→Option (List V)} {ops:Array Oper} {gen reg n:Nat} (hn:aw9 n ops=true)
include hF hdp hcl hn
theorem au9 {x:Nat × Option Eff} {σ σ':St} (h:ct3 P env ops gen reg x σ σ') {g:G} {w:World} {a:Act} (r:P4 ds env n g w a σ)
  {K:Act→World→Prop} {Q:Exit→Act→World→Prop} (hk:∀ g' a' w',Ext g w g' w'→P4 ds env n g' w' a' σ'→K a' w'):wpOpIn F m P ops Q x.1 K a w:=by
 obtain ⟨o,ho,h⟩:=h;unfold wpOpIn;rw [ho];simp only;cases hx:x.2 with
 | some e =>
  rw [hx] at h;obtain ⟨hg,hs,rfl⟩:=h;rw [ap0 r.1 hg];simp only [if_true];exact ct6 hF hdp hcl hs r (an4 hn ho) hk
 | none =>
  rw [hx] at h;obtain ⟨hg,rfl⟩:=h;rw [ap0 r.1 hg];simp only [Bool.false_eq_true,if_false];exact ⟨fun f _=>hF f,hk g _ w (Ext.refl g w) (r.put (Ext.refl g w) (an4 hn ho) r.1.rel (.tup _ _ rfl sp_))⟩
theorem aA7:∀ (l:List (Nat × Option Eff)) {σ σe:St} (h:af8 P env ops gen reg l σ σe) {g:G} {w:World} {a:Act} (r:P4 ds env n g w a σ)
  {Q:Exit→Act→World→Prop} (hk:∀ g' a' w',Ext g w g' w'→P4 ds env n g' w' a' σe→Q .normal a' w'),wpOpsIn F m P ops Q (l.map (·.1)) a w
 | [],_,_,.nil _,g,w,a,r,Q,hk=>hk g a w (Ext.refl g w) r
 | x::l,_,_,.cons _ _ _ σ1 _ hs t,g,w,a,r,Q,hk=>by
  rw [List.map_cons,wpOpsIn_cons];exact au9 hF hdp hcl hn hs r fun g' a' w' hx r'=>aA7 l t r' fun g2 a2 w2 hx2 r2=>hk g2 a2 w2 (hx.trans hx2) r2
end
section
variable {F:Fence} (hF:∀ f,F.fn f) (hdp:F.depth=none) {m:Nat} {ds:List Deferred}
variable {P:Program} (hcl:∀ k args w R,Calls P k args w R→CallsIn F (m - 1) P k args w R)
variable {env:Nat→Option (List V)} {ops:Array Oper} {gen reg n:Nat} (hn:aw9 n ops=true) (hok:au3 ops=true)
include hF hdp hcl hn hok
theorem bt7 {Q:Exit→Act→World→Prop} {σe:St} {g0:G} {w0:World} (hk:∀ g' a' w',Ext g0 w0 g' w'→P4 ds env n g' w' a' σe→Q .normal a' w') :
  ∀ (fuel:Nat) (l:List (Nat × Option Eff)) (listed:Array Bool) (σ:St) (g:G) (w:World) (a:Act),l.length≤fuel→listed.size=ops.size →
   (∀ i,(∃ x∈l,x.1=i)↔(i<ops.size∧listed.getD i true=false))→l.Pairwise (fun x y=>x.1<y.1)→l.Pairwise (af0 ops) →
   (∀ j o,ops[j]? = some o→listed.getD j false=true→∀ e∈o.after,Region.binds .any e=true→listed.getD e.on false=true) →
   af8 P env ops gen reg l σ σe→Ext g0 w0 g w→P4 ds env n g w a σ→wpAnyIn F m P .any ops Q fuel listed a w:=by
 obtain ⟨ht,hsp⟩:=aA2 hok;have bK0:∀ (l:List (Nat × Option Eff)) (listed:Array Bool),listed.size=ops.size→(∀ i,(∃ x∈l,x.1=i)↔(i<ops.size∧listed.getD i true=false)) →
   l.Pairwise (fun x y=>x.1<y.1)→l≠[]→Region.ready .any ops listed≠[]:=by
  intro l listed hsz hm hp hne;cases l with
  | nil=>exact absurd rfl hne
  | cons x l =>
   have hx:=(hm x.1).1 ⟨x,sp_,rfl⟩;have:x.1∈Region.ready .any ops listed:=by
    rw [mem_ready];refine ⟨hx.2,ops[x.1]'hx.1,Array.getElem?_eq_getElem hx.1,fun e he hb=>?_⟩;have hlt:=(hsp x.1 _ (Array.getElem?_eq_getElem hx.1)).1 e he hb;cases hq:listed.getD e.on false with
    | true=>rfl
    | false =>
     have aE5:e.on<listed.size:=by omega
     have:listed.getD e.on true=false:=by
      simp [aE5] at hq ⊢;exact hq
     obtain ⟨y,hy,e1⟩:=(hm e.on).2 ⟨om_,this⟩;rcases List.mem_cons.1 hy with rfl|hy
     ·omega
     ·have:=(List.pairwise_cons.1 hp).1 y hy;omega
   intro e;rw [e] at this;simp at this
 intro fuel
 induction fuel with
 | zero =>
  intro l listed σ g w a hl hsz hm hp hpo hc hch hx r;have:l=[]:=List.eq_nil_of_length_eq_zero om_;subst this;cases hch;refine ⟨?_,hk g a w hx r⟩;apply List.eq_nil_iff_forall_not_mem.2;intro i hi;rw [mem_ready] at hi;obtain ⟨h1,o,ho,_⟩:=hi;obtain ⟨x,hx',_⟩:=(hm i).2 ⟨(Array.getElem?_eq_some_iff.1 ho).1,h1⟩;simp at hx'
 | succ fuel ih =>
  intro l listed σ g w a hl hsz hm hp hpo hc hch hx r;refine ⟨fun hr=>?_,fun i hi=>?_⟩
  ·by_cases hne:l=[]
   ·subst hne;cases hch;exact hk g a w hx r
   ·exact absurd hr (bK0 l listed hsz hm hp hne)
  ·have hi':=mem_ready.1 hi
   obtain ⟨h1,o,ho,hd⟩:=hi';have bM1:i<ops.size:=(Array.getElem?_eq_some_iff.1 ho).1;obtain ⟨x,hxl,rfl⟩:=(hm i).2 ⟨bM1,h1⟩;obtain ⟨pre,post,rfl⟩:=List.append_of_mem hxl;have bz5:=pull (P:=P) (env:=env) (gen:=gen) (reg:=reg) ho pre post σ σe (fun y hy=>by
    have hy':=(hm y.1).1 ⟨y,by simp [hy],rfl⟩;have hlt:y.1<x.1:=(List.pairwise_append.1 hp).2.2 y hy x sp_;have hpk:af0 ops y x:=(List.pairwise_append.1 hpo).2.2 y hy x sp_;have aQ7:bl1 ops y.1 x.1≠true:=by
     intro hb;have:=aG0 ht hc x.1 o ho hd y.1 hy'.1 hb;have h2:=hy'.2;have aE5:y.1<listed.size:=by rw [hsz];exact hy'.1
     simp [aE5] at this h2;rw [this] at h2;exact Bool.noConfusion h2
    refine ⟨ops[y.1]'hy'.1,Array.getElem?_eq_getElem hy'.1,?_,?_⟩
    ·exact ((hsp x.1 o ho).2 y.1 _ hlt (Array.getElem?_eq_getElem hy'.1)).resolve_left aQ7
    ·exact hpk.resolve_left aQ7) hch
   cases bz5 with
   | cons _ _ _ σ1 _ hs t =>
    refine au9 hF hdp hcl hn hs r fun g' a' w' hx' r'=>?_;have aJ4:(pre++post).Sublist (pre++x::post):=List.Sublist.append_left (List.sublist_cons_self x post) pre;refine ih (pre++post) (listed.setIfInBounds x.1 true) σ1 g' w' a' (by simp at hl ⊢;omega) (by simpa using hsz) ?_ (hp.sublist aJ4) (hpo.sublist aJ4) ?_ t (hx.trans hx') r'
    ·intro i
     constructor
     ·rintro ⟨y,hy,rfl⟩
      have hy2:=(hm y.1).1 ⟨y,aJ4.subset hy,rfl⟩;have hne:x.1≠y.1:=by
       rcases List.mem_append.1 hy with hy|hy
       ·have:=(List.pairwise_append.1 hp).2.2 y hy x sp_;omega
       ·have:=(List.pairwise_cons.1 (List.pairwise_append.1 hp).2.1).1 y hy;omega
      exact ⟨hy2.1,by rw [getD_set_ne true hne];exact hy2.2⟩
     ·rintro ⟨hi1,hi2⟩
      have hne:x.1≠i:=by
       intro e;subst e;have:x.1<listed.size:=by rw [hsz];exact bM1
       simp [this] at hi2
      rw [getD_set_ne true hne] at hi2;obtain ⟨y,hy,rfl⟩:=(hm i).2 ⟨hi1,hi2⟩;rcases List.mem_append.1 hy with hy|hy
      ·exact ⟨y,by simp [hy],rfl⟩
      ·rcases List.mem_cons.1 hy with rfl|hy
       ·exact absurd rfl hne
       ·exact ⟨y,by simp [hy],rfl⟩
    ·intro j o' ho' hj e he hb
     by_cases hjx:x.1=j
     ·subst hjx
      rw [ho] at ho';cases ho';exact getD_set_true (hd e he hb)
     ·rw [getD_set_ne false hjx] at hj
      exact getD_set_true (hc j o' ho' hj e he hb)
theorem aE4 {l:List (Nat × Option Eff)} {σ σe:St} (hm:P.follows .mixedOrders=true) (hl:l.map (·.1)=List.range ops.size) (hpo:l.Pairwise (af0 ops))
  (hch:af8 P env ops gen reg l σ σe) {g:G} {w:World} {a:Act} (r:P4 ds env n g w a σ) {Q:Exit→Act→World→Prop}
  (hk:∀ g' a' w',Ext g w g' w'→P4 ds env n g' w' a' σe→Q .normal a' w') {id:Nat}:(Code.region id ops true).wpIn F m P Q a w:=by
 have hx:Ext g w g { w with drawn:=w.drawn+1 } :=
  ⟨rfl,rfl,rfl,Nat.le_refl _,fun _=>Nat.le_refl _,fun _ _ _=>rfl,fun _ _ h=>⟨rfl,h⟩,fun _ h=>⟨h,rfl,.inl rfl⟩,Nat.le_refl _⟩
 have b7:Rel env g { w with drawn:=w.drawn+1 } σ.h:=by
  have q:=r.1.rel;refine ⟨q.dom,q.top,fun id cs e=>?_,q.inj,fun id n k e=>?_,q.apart,q.T8,q.C4,fun k cs e=>(q.glob k cs e).mono hx⟩
  ·obtain ⟨vs,h1,h2,h3,h4,h5⟩:=q.box id cs e
   exact ⟨vs,h1,h2,fun i c v x y=>(h3 i c v x y).mono hx,h4,h5⟩
  ·obtain ⟨h1,h2,h3,h4⟩:=q.tok id n k e
   exact ⟨h1,h2,h3,h4⟩
 refine wpIn_region_any hm (bt7 hF hdp hcl hn hok (g0:=g) (w0:=w) hk ops.size l _ σ g _ a ?_ sp_ ?_ ?_ hpo ?_ hch hx ⟨⟨b7,fun t=>(r.1.tm t).mono hx,r.1.size,r.1.defers⟩,r.2⟩)
 ·have:=congrArg List.length hl;simp at this;omega
 ·intro i
  have:(∃ x∈l,x.1=i)↔i∈l.map (·.1):=by simp
  rw [this,hl,List.mem_range];constructor
  ·intro h;exact ⟨h,by simp [h]⟩
  ·exact fun h=>h.1
 ·have:(l.map (·.1)).Pairwise (·<·):=by rw [hl];exact List.pairwise_lt_range
  rw [List.pairwise_map] at this;exact this
 ·intro j o ho hj
  have hjl:j<ops.size:=(Array.getElem?_eq_some_iff.1 ho).1;simp [hjl] at hj
end
structure XC where
 F:Fence
 ds:List Deferred
 X:G→World→Prop
 E:Exit→Act→World→Prop
structure XOk (P:Program) (x:XC):Prop where
 fn:∀ f,x.F.fn f
 dp:x.F.depth=none
 cl:∀ k args w R,Calls P k args w R→CallsIn x.F (0 - 1) P k args w R
 X:∀ g w g' w',Ext g w g' w'→x.X g w→x.X g' w'
def U0 (P:Program) (F:Fence) (E:Exit→Act→World→Prop):List It→Exit→Act→World→Prop
 | [],e,a,w=>E e a w
 | .code y::k,.normal,a,w=>y.wpIn F 0 P (U0 P F E k) a w
 | .code _::k,e,a,w=>U0 P F E k e a w
 | .block _::k,.normal,a,w=>U0 P F E k .normal a w
 | .block id::k,.exit id',a,w=>if id'=id then U0 P F E k .normal a w else U0 P F E k (.exit id') a w
 | .block _::k,e,a,w=>U0 P F E k e a w
 | .inv _::k,e,a,w=>U0 P F E k e a w
def ARX (c:Ctx) (x:XC) (gen:Nat) (k:List It) (e:Exit) (σ:St):Prop :=
 ∀ g a w,Ext c.g0 c.w0 g w→x.X g w→P4 x.ds c.env c.n g w a σ→U0 c.P x.F x.E k e a w
section
variable {c:Ctx} {x:XC} {gen:Nat} {k:List It} {σ:St}
theorem z8 (h:ARX c x gen k .normal σ):ARX c x gen (.code .skip::k) .normal σ:=fun g a w hx hX r=>wpIn_skip (h g a w hx hX r)
theorem x9 {y z:Code} (h:ARX c x gen (.code y::.code z::k) .normal σ):ARX c x gen (.code (.seq y z)::k) .normal σ:=by
 intro g a w hx hX r;refine wpIn_seq (wpIn_mono (h g a w hx hX r) ?_);intro e a' w' hp;cases e<;>exact hp
theorem cu7 {y z:Code} {t:Operand} {b:Bool} (ht:av c.env σ.tm t=.bool b) (h1:b=true→ARX c x gen (.code y::k) .normal σ)
  (h2:b=false→ARX c x gen (.code z::k) .normal σ):ARX c x gen (.code (.cond t y z)::k) .normal σ:=by
 intro g a w hx hX r;have hr:=r.av t;rw [ht] at hr;have hc:a.eval t=.bool b:=by cases hh:a.eval t<;>rw [hh] at hr<;>cases hr;rfl
 refine wpIn_cond_split hc (fun hb=>?_) (fun hb=>?_)
 ·exact h1 hb g a w hx hX r
 ·exact h2 hb g a w hx hX r
theorem u0 {id:Nat} {y:Code} (h:ARX c x gen (.code y::.block id::k) .normal σ):ARX c x gen (.code (.block id y)::k) .normal σ:=by
 intro g a w hx hX r;refine wpIn_block (wpIn_mono (h g a w hx hX r) ?_);intro e a' w' hp;cases e<;>exact hp
theorem F3 {id:Nat} (h:ARX c x gen k (.exit id) σ):ARX c x gen (.code (.exit id)::k) .normal σ:=fun g a w hx hX r=>wpIn_exit (h g a w hx hX r)
theorem D5 (h:ARX c x gen k .ret σ):ARX c x gen (.code .ret::k) .normal σ:=fun g a w hx hX r=>wpIn_ret (h g a w hx hX r)
theorem r7 {id:Nat} (h:ARX c x gen k .normal σ):ARX c x gen (.block id::k) .normal σ:=fun g a w hx hX r=>h g a w hx hX r
theorem A6 {id:Nat} (h:ARX c x gen k .normal σ):ARX c x gen (.block id::k) (.exit id) σ:=fun g a w hx hX r=>by
 simp only [U0,if_true];exact h g a w hx hX r
theorem B8 {id id':Nat} (hne:id'≠id) (h:ARX c x gen k (.exit id') σ):ARX c x gen (.block id::k) (.exit id') σ:=fun g a w hx hX r=>by
 simp only [U0,if_neg hne];exact h g a w hx hX r
theorem A5 {id:Nat} {y:Code} (h:ARX c x gen k (.exit id) σ):ARX c x gen (.code y::k) (.exit id) σ:=fun g a w hx hX r=>h g a w hx hX r
theorem ac8 {gen':Nat} {e:Exit} (h:∀ gn,(∀ id,σ.h id≠none→id.gen<gn)→ARX c x gn k e σ):ARX c x gen' k e σ :=
 fun g a w hx hX r=>h g.top (fun id hid=>r.1.rel.top id hid) g a w hx hX r
theorem m9 {id:Nat} {ops:Array Oper} {draw:Bool} (ok:XOk c.P x) (hm:c.P.follows .mixedOrders=true) (hok:J9 c.n (.region id ops draw)=true)
  (h:N8 c.P c.env ops draw gen id ops.toList 0 [] (fun σ'=>ARX c x gen k .normal σ') σ):ARX c x gen (.code (.region id ops draw)::k) .normal σ:=by
 intro g a w hx hX r;simp only [J9,Bool.and_eq_true,Bool.or_eq_true,Bool.not_eq_true'] at hok;obtain ⟨hd,hdr⟩:=hok;obtain ⟨l,σe,h1,h2,h3,h4⟩:=av7 ops.toList 0 [] σ [] (fun j=>by simp) sp_ sp_ h;have hl:l.map (·.1)=List.range ops.size:=by rw [h1];simp
 have hk:∀ g' a' w',Ext g w g' w'→P4 x.ds c.env c.n g' w' a' σe→U0 c.P x.F x.E k .normal a' w':=fun g' a' w' hx' r'=>h3 g' a' w' (hx.trans hx') (ok.X _ _ _ _ hx' hX) r';cases draw with
 | false =>
  refine wpIn_region ?_;rw [← hl];exact aA7 ok.fn ok.dp ok.cl hd l h2 r hk
 | true =>
  have hdk:au3 ops=true:=by simpa using hdr
  exact aE4 ok.fn ok.dp ok.cl hd hdk hm hl (h4 rfl).1 h2 r hk
end
def xF (c:Ctx):XC:=⟨Fence.wide,[],fun _ _=>True,bodyPostM Fence.wide 0 c.P c.fn c.R⟩
theorem bQ3 (c:Ctx):XOk c.P (xF c):=⟨fun _=>trivial,rfl,fun k args w R h=>callsIn_wide.2 h,fun _ _ _ _ _ _=>trivial⟩
theorem at7 {c:Ctx} {e:Exit} {a:Act} {w:World} (h:bodyPost c.P c.fn c.R e a w):bodyPostM Fence.wide 0 c.P c.fn c.R e a w:=by
 cases e with
 | normal=>obtain ⟨hd,v,h1,h2⟩:=h;simp only [bodyPostM,hd,LeavesInM,LeavesIn];exact ⟨v,h1,h2⟩
 | ret=>obtain ⟨hd,v,h1,h2⟩:=h;simp only [bodyPostM,hd,LeavesInM,LeavesIn];exact ⟨v,h1,h2⟩
 | panic ch=>obtain ⟨hd,h2⟩:=h;simp only [bodyPostM,hd,LeavesInM,LeavesIn];exact h2
 | outgrown=>exact h
 | exit id=>exact h.elim
 | goto l=>exact h.elim
theorem S1 {P:Program} {F:Fence} {E:Exit→Act→World→Prop} {e:Exit} (he:e=.ret∨(∃ ch,e=.panic ch)∨e=.outgrown) {a:Act} {w:World} (h:E e a w):∀ k:List It,U0 P F E k e a w
 | []=>h
 | .code y::k=>by
  rcases he with rfl|⟨ch,rfl⟩|rfl
  ·exact S1 (.inl rfl) h k
  ·exact S1 (.inr (.inl ⟨ch,rfl⟩)) h k
  ·exact S1 (.inr (.inr rfl)) h k
 | .block id::k=>by
  rcases he with rfl|⟨ch,rfl⟩|rfl
  ·exact S1 (.inl rfl) h k
  ·exact S1 (.inr (.inl ⟨ch,rfl⟩)) h k
  ·exact S1 (.inr (.inr rfl)) h k
 | .inv J::k=>by
  rcases he with rfl|⟨ch,rfl⟩|rfl
  ·exact S1 (.inl rfl) h k
  ·exact S1 (.inr (.inl ⟨ch,rfl⟩)) h k
  ·exact S1 (.inr (.inr rfl)) h k
theorem bn6 {c:Ctx} {gen:Nat} {J:St→Prop} {k:List It} (hk:∀ σ',J σ'→ARX c (xF c) gen k .normal σ') :
  ∀ (ps:List Code) (e:Exit) (a:Act) (w:World),ai9 c (ps.map .code++[.inv J]) e a w→U0 c.P (xF c).F (xF c).E (ps.map .code++k) e a w
 | [],e,a,w,h=>by
  cases e with
  | normal=>obtain ⟨g,σ,h1,h2,h3⟩:=h;exact hk σ h3 g a w h1 trivial (P4.of h2)
  | ret=>exact S1 (.inl rfl) (at7 (show bodyPost c.P c.fn c.R .ret a w from h)) k
  | panic ch=>exact S1 (.inr (.inl ⟨ch,rfl⟩)) (at7 (show bodyPost c.P c.fn c.R (.panic ch) a w from h)) k
  | outgrown=>exact S1 (.inr (.inr rfl)) (at7 (show bodyPost c.P c.fn c.R .outgrown a w from h)) k
  | exit id=>exact (show bodyPost c.P c.fn c.R (.exit id) a w from h).elim
  | goto l=>exact (show bodyPost c.P c.fn c.R (.goto l) a w from h).elim
 | p::ps,e,a,w,h=>by
  cases e with
  | normal=>exact wpIn_mono (wpIn_wide.2 (show p.wp c.P _ a w from h)) (fun e a w=>bn6 hk ps e a w)
  | _=>exact bn6 hk ps _ a w h
theorem ah1 {c:Ctx} {gen:Nat} {J:St→Prop} {k:List It} {σ:St} (ps:List Code) (hok:R6 c.n (ps.map .code++[.inv J])=true) (hm:c.P.follows .mixedOrders=true)
  (h:AR c gen (ps.map .code++[.inv J]) .normal σ) (hk:∀ σ',J σ'→ARX c (xF c) gen k .normal σ'):ARX c (xF c) gen (ps.map .code++k) .normal σ :=
 fun g a w hx _ r=>bn6 hk ps .normal a w (h hok hm g a w hx r.st)
theorem M4 {P:Program} {env:Nat→Option (List V)} {f:FuncId} {fn:Func} {body:Code} {args:List V} {h:H} {v:V} {h':H}
  (hf : P.funcs[f]? = some fn) (hb : fn.body = some body) (aj4 : (fn.name == "runtime.NumGoroutine") = false)
  (walk:∀ (g:G) (w:World) (gen:Nat),Rel env g w h→(∀ id,h id≠none→id.gen<gen) →
   ARX ⟨P,env,fn.ntmps,fn,g,w,h,v,h'⟩ (xF ⟨P,env,fn.ntmps,fn,g,w,h,v,h'⟩) gen [.code body] .normal ⟨ag6 args,h⟩):Ret P env f args h v h':=by
 refine ⟨⟨fn,hf,by rw [hb];rfl,aj4⟩,fun g w vs hr hv=>?_⟩;have hw:=walk g w g.top hr (fun id hid=>hr.top id hid);refine callsIn_wide.1 (callsIn_of_wp_marks (n:=0) hf hb trivial ?_);have hst:K1 env fn.ntmps g w { tmps:=vs++Array.replicate (fn.ntmps - vs.size) undef,defers:=[] } ⟨ag6 args,h⟩:=by
  refine ⟨hr,fun t=>?_,by simp;omega,rfl⟩;simp only [ag6];cases ha:args[t]? with
  | none=>exact .undef _
  | some v =>
   obtain ⟨c0,h1,h2⟩:=hv.at ha;have hlt:t<vs.size:=(Array.getElem?_eq_some_iff.1 h1).1;have:(vs++Array.replicate (fn.ntmps - vs.size) undef).getD t undef=c0:=by
    simp [Array.getElem?_append_left hlt,h1]
   rw [this];exact h2
 have:=hw g _ w (Ext.refl g w) trivial (P4.of hst);refine wpIn_mono (show body.wpIn _ _ _ _ _ _ from this) ?_;intro e a' w' hp;cases e<;>exact hp
structure I9 (B:Nat) (W W':World):Prop where
 size:W.heap.size≤W'.heap.size
 os:W'.os=W.os
 tape:W'.tape=W.tape
 output:W'.output=W.output
 same:∀ b,b<B→W'.heap[b]? = W.heap[b]?
 cell:∀ b o,b<W.heap.size→W'.cell? ⟨b,o,none⟩=W.cell? ⟨b,o,none⟩
 ak5:∀ (b:Nat) (vs:Array Value) (ty:TypeId),W.heap[b]? = some (Go.Obj.cells vs ty (0,0))→W'.heap[b]? = some (Go.Obj.cells vs ty (0,0))
theorem W8 {B:Nat} {W:World} {o:Go.Obj} (hB:B≤W.heap.size):I9 B W (W.alloc o):=by
 have hold:∀ b,b<W.heap.size→(W.alloc o).heap[b]? = W.heap[b]? := fun b hb=>Go.RowKit.Below.heap_alloc W o b hb;refine ⟨sp_,rfl,rfl,rfl,fun b hb=>hold b om_,fun b off hb=>?_,fun b vs ty h=>?_⟩
 ·simp only [World.cell?,hold b hb]
 ·rw [hold b (Array.getElem?_eq_some_iff.1 h).1];exact h
theorem W9 {B l:Nat} {W:World} {o o':Go.Obj} (hB:B≤l) (h:W.heap[l]? = some o) (ho:o.isCells=false) (ho':o'.isCells=false):I9 B W (W.putObj l o'):=by
 have hl:l<W.heap.size:=(Array.getElem?_eq_some_iff.1 h).1;refine ⟨sp_,rfl,rfl,rfl,fun b hb=>World.putObj_heap_other om_,fun b off hb=>?_,fun b vs ty hb=>?_⟩
 ·by_cases e:b=l
  ·subst e
   simp only [World.cell?,World.putObj_heap_same hl,h];cases o<;>simp [Go.Obj.isCells] at ho<;>cases o'<;>simp [Go.Obj.isCells] at ho'<;>rfl
  ·simp only [World.cell?,World.putObj_heap_other e]
 ·have e:b≠l:=by
   intro e;subst e;rw [h] at hb;cases hb;simp [Go.Obj.isCells] at ho
  rw [World.putObj_heap_other e];exact hb
def G.wrs (g:G) (f:Nat→Bool):G:={ g with wr:=f }
theorem RV.wrs {g:G} {w:World} {c:Value} {v:V} (h:RV g w c v) (f:Nat→Bool):RV (g.wrs f) w c v :=
 RV.freeze (g:=g) (g':=g.wrs f) (S:=fun id=>g.dom id=true) (fun b=>Nat.le_refl _) (fun id hid=>⟨hid,rfl,rfl⟩) h h.inV
def G.up (g:G) (B:Nat):G:=g.wrs fun b=>g.wr b||decide (B≤b)
theorem I9.ext {g gi:G} {w W W':World} {B:Nat} (t:I9 B W W') (hB:w.heap.size≤B) (hl:∀ b,w.heap.size≤b→g.lim b=0) (x:Ext g w gi W):Ext g w (gi.up B) W':=by
 refine ⟨t.os.trans x.os,t.tape.trans x.tape,t.output.trans x.output,Nat.le_trans x.size t.size,x.lim,fun b o h=>?_,fun b hb hw=>?_,x.dom,x.top⟩
 ·by_cases hs:b<W.heap.size
  ·rw [t.cell b o hs];exact x.cells b o h
  ·have hw:w.heap.size≤b:=by have:=x.size;omega
   rw [hl b hw] at h;omega
 ·obtain ⟨h1,h2⟩:=x.wr b hb hw
  refine ⟨(t.same b om_).trans h1,?_⟩;show (gi.wr b||decide (B≤b))=false;rw [h2];simp;omega
theorem I9.here {gi:G} {W W':World} {B:Nat} (t:I9 B W W') (hl:∀ b,W.heap.size≤b→gi.lim b=0):Ext (gi.up B) W (gi.up B) W':=by
 refine ⟨t.os,t.tape,t.output,t.size,fun _=>Nat.le_refl _,fun b o h=>?_,fun b hb hw=>?_,fun id h=>⟨h,rfl,.inl rfl⟩,Nat.le_refl _⟩
 ·by_cases hs:b<W.heap.size
  ·exact t.cell b o hs
  ·have:(gi.up B).lim b=gi.lim b:=rfl
   rw [this,hl b om_] at h;omega
 ·refine ⟨t.same b ?_,hw⟩
  have hw':(gi.wr b||decide (B≤b))=false:=hw;simp at hw';omega
theorem Rel.wrs {env:Nat→Option (List V)} {g:G} {w:World} {h:H} (r:Rel env g w h) (f:Nat→Bool) (hf:∀ b vs ty,w.heap[b]? = some (Go.Obj.cells vs ty (0,0))→g.wr b=true→f b=true):Rel env (g.wrs f) w h:=by
 refine ⟨r.dom,r.top,fun id cs e=>?_,r.inj,fun id n k e=>?_,r.apart,r.T8,r.C4,fun k cs e=>(r.glob k cs e).wrs f⟩
 ·obtain ⟨vs,⟨ty,h1⟩,h2,h3,h4,h5⟩:=r.box id cs e
  exact ⟨vs,⟨ty,h1⟩,h2,fun i c v x y=>(h3 i c v x y).wrs f,h4,hf _ vs ty h1 h5⟩
 ·obtain ⟨h1,h2,h3,h4⟩:=r.tok id n k e
  refine ⟨h1,h2,fun hlt=>?_,h4⟩;obtain ⟨b,off,vs,s1,⟨ty,s2⟩,s3,s4,s5⟩:=h3 hlt;exact ⟨b,off,vs,s1,⟨ty,s2⟩,s3,s4,hf _ vs ty s2 s5⟩
theorem I9.rel {env:Nat→Option (List V)} {gi:G} {W W':World} {B:Nat} {h:H} (t:I9 B W W') (r0:Rel env gi W h):Rel env (gi.up B) W' h:=by
 have r:Rel env (gi.up B) W h:=r0.wrs _ (fun b vs ty _ hw=>by rw [hw];rfl);have hx:Ext (gi.up B) W (gi.up B) W':=t.here r0.C4;refine ⟨r.dom,r.top,fun id cs e=>?_,r.inj,fun id n k e=>?_,r.apart,r.T8,fun b hb=>r.C4 b (Nat.le_trans t.size hb),fun k cs e=>(r.glob k cs e).mono hx⟩
 ·obtain ⟨vs,⟨ty,h1⟩,h2,h3,h4,h5⟩:=r.box id cs e
  exact ⟨vs,⟨ty,t.ak5 _ _ _ h1⟩,h2,fun i c v x y=>(h3 i c v x y).mono hx,h4,h5⟩
 ·obtain ⟨h1,h2,h3,h4⟩:=r.tok id n k e
  refine ⟨h1,h2,fun hlt=>?_,h4⟩;obtain ⟨b,off,vs,s1,⟨ty,s2⟩,s3,s4,s5⟩:=h3 hlt;exact ⟨b,off,vs,s1,⟨ty,t.ak5 _ _ _ s2⟩,s3,s4,s5⟩
def G.dn (g:G) (w:World):G:=g.wrs fun b=>g.wr b&&(match w.heap[b]? with|some o=>o.isCells|none=>true)
theorem Rel.dn {env:Nat→Option (List V)} {g:G} {w:World} {h:H} (r:Rel env g w h):Rel env (g.dn w) w h :=
 r.wrs _ (fun b vs ty hb hw=>by rw [hw,hb];rfl)
theorem Ext.dn {g gi:G} {w W:World} (x:Ext g w gi W):Ext g w (gi.dn W) W:=by
 refine ⟨x.os,x.tape,x.output,x.size,x.lim,x.cells,fun b hb hw=>?_,x.dom,x.top⟩;obtain ⟨h1,h2⟩:=x.wr b hb hw;exact ⟨h1,by show (gi.wr b&&_)=false;rw [h2];rfl⟩
theorem ac6 {g g':G} {w w':World} (x:Ext (g.dn w) w g' w') {b:Nat} {o:Go.Obj} (h:w.heap[b]? = some o) (ho:o.isCells=false):w'.heap[b]? = some o∧g'.wr b=false:=by
 have hw:(g.dn w).wr b=false:=by
  show (g.wr b&&(match w.heap[b]? with|some o=>o.isCells|none=>true))=false;rw [h];simp [ho]
 obtain ⟨h1,h2⟩:=x.wr b (Array.getElem?_eq_some_iff.1 h).1 hw;exact ⟨h1.trans h,h2⟩
def aL4 (D:Nat):Deferred:={ target:=.collected D,args:=#[] }
def XD (c:Ctx) (D:Nat) (g:G) (w:World):Prop:=c.w0.heap.size≤D∧g.wr D=false∧w.heap[D]? = some (.deferred (some []))
def xD (c:Ctx) (D:Nat):XC:=⟨Fence.wide,[aL4 D],XD c D,bodyPostM Fence.wide 0 c.P c.fn c.R⟩
theorem bi6 (c:Ctx) (D:Nat):XOk c.P (xD c D):=⟨fun _=>trivial,rfl,fun k args w R h=>callsIn_wide.2 h,fun g w g' w' x ⟨h1,h2,h3⟩=>by
 obtain ⟨a1,a2⟩:=x.wr D (Array.getElem?_eq_some_iff.1 h3).1 h2;exact ⟨h1,a2,a1.trans h3⟩⟩
theorem ab3 {c:Ctx} {D gen:Nat} {σ:St} (hm:c.P.follows .mixedOrders=true) (hl0:∀ b,c.w0.heap.size≤b→c.g0.lim b=0) (h:AR c gen [] .ret σ):ARX c (xD c D) gen [] .ret σ:=by
 intro g a w hx ⟨h1,h2,h3⟩ r;have t:I9 D w (w.putObj D (.deferred none)):=W9 (Nat.le_refl _) h3 rfl rfl;have hx':Ext c.g0 c.w0 (g.up D) (w.putObj D (.deferred none)):=t.ext h1 hl0 hx;have hr:Rel c.env (g.up D) (w.putObj D (.deferred none)) σ.h:=t.rel r.1.rel;have hst:K1 c.env c.n (g.up D) (w.putObj D (.deferred none)) { a with defers:=[] } σ :=
  ⟨hr,fun t'=>((r.1.tm t').wrs _).mono (t.here r.1.rel.C4),r.1.size,rfl⟩
 obtain ⟨_,v,q1,q2⟩:=h rfl hm _ _ _ hx' hst;show LeavesInM Fence.wide 0 c.P c.fn a.tmps c.R a.defers .returning w;rw [r.2];refine ⟨sp_,.inl ⟨D,_,rfl,run_takeDeferred h3,?_⟩⟩;exact ⟨v,q1,q2⟩
structure bD6 (P:Program) (gf:Nat):Prop where
 call:aa3 P gf
 go:∀ (l pb po:Nat) (a:Option Addr) (len cap:Nat) (elm:Nat→Value) (K:Nat→World→Prop) (Kx:World→Prop),len * 8≤140737488351232 →
  (len≠0→∃ b off,a=some ⟨b,off,none⟩) →
  (∀ i W,i≤len→K i W→W.cell? ⟨pb,po,none⟩=some (.slice a len cap)∧∀ b off,a=some ⟨b,off,none⟩→∀ j,j<len→W.cell? ⟨b,off+j,none⟩=some (elm j)) →
  (∀ (i:Nat) W,i<len→K (i+1) W→YieldAt Fence.wide (0 - 1) P l #[.int .i64 (i:Int),elm i] W fun e W'=>(e=.returned (.bool true)∧K i W')∨(e=.returned (.bool false)∧Kx W')) →
  ∀ W,K len W→CallsIn Fence.wide 0 P gf #[.func (.yield l) #[] #[],.pointer (some ⟨pb,po,none⟩)] W fun e W'=>(∃ v,e=.returned v)∧(K 0 W'∨Kx W')
theorem bX0 {g:G} {w:World} {c:Value} {cc:Cap} {es:List (List V)} (h:RV g w c (.sl cc es)):RV g w c (.sl .any es):=by
 cases h with
 | sl a cap _ _ k cell hk V0 E0 hr hc=>exact .sl a cap .any es k cell hk V0 E0 hr trivial
theorem aG8 {P:Program} {env:Nat→Option (List V)} {f gf:Nat} {ty:TypeId} {cc:Cap} {es:List (List V)} (hf:aa3 P f)
  (h:∀ a len cap w,Calls P f #[.slice a len cap] w fun e w'=>e=.returned (.func (.func gf) #[] #[.pointer (some ⟨w.heap.size,0,none⟩)])∧w'=w.alloc (.cells #[.slice a len cap] ty)) :
  Pure P env f [.sl cc es] (.fn (.func gf) [] [.el [.sl .any es] 0]):=by
 intro hh;refine ⟨hf,fun g w vs r hv=>?_⟩;obtain ⟨c0,h1,h2⟩:=hv.at (show ([V.sl cc es]:List V)[0]? = some _ from rfl);have hvs:vs=#[c0]:=by
  have:=hv.1;apply Array.ext
  ·simpa using this
  ·intro i hi hi2
   simp at hi2;subst hi2;have:=(Array.getElem?_eq_some_iff.1 h1).2;simpa using this
 subst hvs;have h2':=bX0 h2;cases h2 with
 | sl a cap _ _ k cell hk V0 E0 hr hc =>
  refine (h a es.length cap w).mono ?_;rintro e w' ⟨rfl,rfl⟩;obtain ⟨g',hx,hr',hl⟩:=aJ3 r #[Value.slice a es.length cap] ty;refine ⟨_,g',rfl,hx,hr',.fn _ _ _ _ _ sp_ sp_ (fun i c v h _=>by simp at h) (fun i c v hc hv=>?_)⟩
  match i with
  | 0 =>
   simp at hc hv;subst hc;subst hv;refine .el w.heap.size 0 _ 0 (fun _=>.slice a es.length cap) (by rw [hl];simp) (fun i hi=>?_) (fun i v hv=>?_)
   ·simp at hi
    subst hi;rw [World.cell?_alloc_new];rfl
   ·match i with
    | 0=>simp at hv;subst hv;exact h2'.mono hx
    | i+1=>simp at hv
  | i+1=>simp at hc
theorem bq4 {P:Program} {env:Nat→Option (List V)} {f gf:Nat} {ty:TypeId} {cs:List V} (hf:aa3 P f)
  (h:∀ (vs:Array Value),vs.size=cs.length→∀ w,Calls P f #[.agg vs] w fun e w'=>e=.returned (.func (.func gf) #[] #[.pointer (some ⟨w.heap.size,0,none⟩)])∧w'=w.alloc (.cells vs ty)) :
  Pure P env f [.agg cs] (.fn (.func gf) [] [.el cs 0]):=by
 intro hh;refine ⟨hf,fun g w vs r hv=>?_⟩;obtain ⟨c0,h1,h2⟩:=hv.at (show ([V.agg cs]:List V)[0]? = some _ from rfl);have hvs:vs=#[c0]:=by
  have:=hv.1;apply Array.ext
  ·simpa using this
  ·intro i hi hi2
   simp at hi2;subst hi2;have:=(Array.getElem?_eq_some_iff.1 h1).2;simpa using this
 subst hvs;cases h2 with
 | agg us _ hs hr =>
  refine (h us hs w).mono ?_;rintro e w' ⟨rfl,rfl⟩;obtain ⟨g',hx,hr',hl⟩:=aJ3 r us ty;refine ⟨_,g',rfl,hx,hr',.fn _ _ _ _ _ sp_ sp_ (fun i c v h _=>by simp at h) (fun i c v hc hv=>?_)⟩
  match i with
  | 0 =>
   simp at hc hv;subst hc;subst hv;refine .el w.heap.size 0 _ 0 (fun i=>us[i]?.getD undef) (by rw [hl,hs];omega) (fun i hi=>?_) (fun i v hv=>?_)
   ·rw [Nat.zero_add,World.cell?_alloc_new,Array.getElem?_eq_getElem (by rw [hs];exact hi)];simp
   ·have hlt:=(List.getElem?_eq_some_iff.1 hv).1
    have hu:us[i]? = some us[i]:=Array.getElem?_eq_getElem (by rw [hs];exact hlt);rw [hu];exact (hr i _ v hu hv).mono hx
  | i+1=>simp at hc
theorem be3:∀ l:List V,(l.map fun v=>[v]).flatten=l
 | []=>rfl
 | v::l=>by rw [List.map_cons,List.flatten_cons,be3 l];rfl
def XR (g:G) (w:World) (D:Nat) (r:Loop) (g':G) (w':World):Prop :=
 Ext g w g' w'∧g'.wr D=false∧g'.wr (D+1)=false∧w'.heap[D]? = some (.deferred (some []))∧w'.heap[D+1]? = some (.loop r)
theorem XR.ext {g:G} {w:World} {D:Nat} {r:Loop} {g1:G} {w1:World} {g2:G} {w2:World} (x:Ext g1 w1 g2 w2) (h:XR g w D r g1 w1):XR g w D r g2 w2:=by
 obtain ⟨h0,h1,h2,h3,h4⟩:=h;obtain ⟨a1,a2⟩:=x.wr D (Array.getElem?_eq_some_iff.1 h3).1 h1;obtain ⟨b1,b2⟩:=x.wr (D+1) (Array.getElem?_eq_some_iff.1 h4).1 h2;exact ⟨h0.trans x,a2,b2,a1.trans h3,b1.trans h4⟩
theorem XR.of {g:G} {w:World} {D:Nat} {r:Loop} {g1:G} {w1:World} (x:Ext g w g1 w1) (h3:w1.heap[D]? = some (.deferred (some []))) (h4:w1.heap[D+1]? = some (.loop r)):XR g w D r (g1.dn w1) w1:=by
 refine ⟨x.dn,?_,?_,h3,h4⟩
 ·exact (ac6 (Ext.refl _ _) h3 rfl).2
 ·exact (ac6 (Ext.refl _ _) h4 rfl).2
def bF1 (c:Ctx) (g:G) (w:World) (D:Nat) (r:Loop) (E:Exit→Act→World→Prop):XC:=⟨Fence.wide.inRound (D+1),[],XR g w D r,E⟩
theorem bi8 (c:Ctx) (g:G) (w:World) (D:Nat) (r:Loop) (E:Exit→Act→World→Prop):XOk c.P (bF1 c g w D r E) :=
 ⟨fun _=>trivial,rfl,fun k args w R h=>(show CallsIn Fence.wide (0 - 1) c.P k args w R from callsIn_wide.2 h),fun _ _ _ _ x h=>h.ext x⟩
def cX9 (c:Ctx) (xb:XC) (g:G) (w:World) (D:Nat) (r:Loop) (gn:Nat) (body:Code):Exit→Act→World→Prop :=
 fun e a w'=>e=.normal∧∃ g' σ',Ext c.g0 c.w0 g' w'∧XR g w D r g' w'∧P4 [] c.env c.n g' w' a σ'∧ARX c xb gn [.code body] .normal σ'
def de9 (c:Ctx) (g:G) (w:World) (D:Nat) (r:Loop) (J:H→Prop) (Jx:Option Nat→H→Prop):Exit→Act→World→Prop :=
 fun e a w'=>∃ g' h',XR g w D r g' w'∧Rel c.env g' w' h'∧(match e with | .normal=>J h' | .exit id=>Jx (some id) h' | .ret=>Jx none h'|_=>False)
def aQ6:Option Nat→Code
 | some id=>.exit id
 | none=>.ret
def ae4:Option Nat→Exit
 | some id=>.exit id
 | none=>.ret
theorem E6 {c:Ctx} {x:XC} {gen:Nat} {k:List It} {σ:St} (h:ARX c x gen [] .ret σ):ARX c x gen k .ret σ :=
 fun g a w hx hX r=>S1 (.inl rfl) (show x.E .ret a w from h g a w hx hX r) k
def dm0 (P:Program) (gf:Nat) (lb:Array Value) (g:G) (w:World) (n:Nat) (O4:Nat→List Value):Prop :=
 ∀ (l:Nat) (K:Nat→World→Prop) (Kx:World→Prop),(∀ i W,K i W→∃ gi,Ext g w gi W)→(∀ i W o,K i W→K i (W.alloc o))→(∀ i W,K i W→K i W.drew) →
  (∀ (i:Nat) W,i<n→K (i+1) W→YieldAt Fence.wide (0 - 1) P l (O4 i).toArray W fun e W'=>(e=.returned (.bool true)∧K i W')∨(e=.returned (.bool false)∧Kx W')) →
  ∀ W,K n W→CallsIn Fence.wide 0 P gf (#[.func (.yield l) #[] #[]]++lb) W fun e W'=>(∃ v,e=.returned v)∧(K 0 W'∨Kx W')
def ax5 (tm:Nat→V):List Nat→List V→(Nat→V)
 | p::ps,v::vs=>ax5 (upd tm (some p) v) ps vs
 | _,_=>tm
theorem K1.cS7 {env:Nat→Option (List V)} {n:Nat} {g:G} {w:World}:∀ (ps:List Nat) (xs:List Value) (vs:List V) {a:Act} {tm:Nat→V} {h:H},K1 env n g w a ⟨tm,h⟩→(∀ p∈ps,p<n)→xs.length=ps.length →
  (∀ (j:Nat) x v,xs[j]? = some x→vs[j]? = some v→RV g w x v)→vs.length=ps.length→K1 env n g w { a with tmps:=(ps.zip xs).foldl (fun tmps (t,a)=>tmps.setIfInBounds t a) a.tmps } ⟨ax5 tm ps vs,h⟩
 | [],_,_,a,tm,h,r,_,_,_,_=>r
 | p::ps,[],_,a,tm,h,r,_,hl,_,_=>by simp at hl
 | p::ps,x::xs,[],a,tm,h,r,_,_,_,hl=>by simp at hl
 | p::ps,x::xs,v::vs,a,tm,h,r,hp,hl,hv,hl2=>by
  have r1:=r.put (d:=some p) (Ext.refl _ _) (by intro t e;cases e;exact hp p sp_) r.rel (hv 0 x v rfl rfl);have:=K1.cS7 ps xs vs r1 (fun q hq=>hp q (by simp [hq])) (by simpa using hl) (fun j y u hy hu=>hv (j+1) y u (by simpa using hy) (by simpa using hu)) (by simpa using hl2);exact this
theorem cu0 {g:G} {w:World}:Ext g w g w.drew :=
 ⟨rfl,rfl,rfl,Nat.le_refl _,fun _=>Nat.le_refl _,fun _ _ _=>rfl,fun _ _ h=>⟨rfl,h⟩,fun _ h=>⟨h,rfl,.inl rfl⟩,Nat.le_refl _⟩
theorem bK8 {c:Ctx} {gen:Nat} {k:List It} {σ:St} {f gf n:Nat} {ps:List Nat} {vv:Nat→List V} {assign body:Code} (aI0:aa3 c.P gf)
  (hps:∀ p∈ps,p<c.n) (hvv:∀ i,i<n→(vv i).length=ps.length)
  (hit:∀ g w x,RV g w x (σ.tm f)→∃ lb O4,x=.func (.func gf) #[] lb∧(∀ i,i<n→(O4 i).length=ps.length∧∀ (j:Nat) x v,(O4 i)[j]? = some x→(vv i)[j]? = some v→RV g w x v)∧dm0 c.P gf lb g w n O4)
  (J:Nat→H→Prop) (Jx:Option Nat→H→Prop) (h0:J n σ.h)
  (af3:∀ (xa xb:XC) (gn i:Nat) (hi:H),XOk c.P xa→XOk c.P xb→gen≤gn→i<n→J (i+1) hi →
   (∀ σ' gn',ARX c xb gn' [.code body] .normal σ'→ARX c xa gn' [] .normal σ')→(∀ gn' σ',J i σ'.h→ARX c xb gn' [] .normal σ')→(∀ gn' id σ',Jx id σ'.h→ARX c xb gn' [] (ae4 id) σ') →
   ARX c xa gn [.code assign] .normal ⟨ax5 σ.tm ps (vv i),hi⟩)
  (az0:∀ D h',J 0 h'→ARX c (xD c D) gen k .normal ⟨σ.tm,h'⟩)
  (ay1:∀ D id h',Jx id h'→ARX c (xD c D) gen k (ae4 id) ⟨σ.tm,h'⟩) :
  ARX c (xF c) gen (.code (.rangeFunc (.tmp f) ps.toArray assign body)::k) .normal σ:=by
 intro g a w hx _ r0;have r:=r0.st;obtain ⟨fn0,hc1,hc2,hc3⟩:=aI0
 have cr8 : ¬ (fn0.name = "runtime.NumGoroutine") := by simpa using hc3
 have cr9:fn0.body≠none:=by intro e;simp [e] at hc2
 obtain ⟨lb,O4,hev,cu6,hgo⟩:=hit g w _ (r.tm f);have bd6:a.defers=[]:=r.defers;have bh2:∀ b,w.heap.size≤b→g.lim b=0:=r.rel.C4;refine wpIn_rangeFunc ?_;intro fn hfn;obtain ⟨D,hD⟩:∃ D,w.heap.size=D:=⟨_,rfl⟩;obtain ⟨rec,X8⟩:∃ rec:LoopState→Option Code→Loop,rec=fun st pe=>{ state:=st,pending:=pe,fn,tmps:=a.tmps,params:=ps.toArray,assign,body,defers:=D }:=⟨_,rfl⟩;obtain ⟨W1,hW1⟩:∃ W1,(w.alloc (.deferred (some []))).alloc (.loop (rec .ready none))=W1:=⟨_,rfl⟩;obtain ⟨K,hK⟩:∃ K:Nat→World→Prop,K=fun i W=>∃ gi hi,Ext g w gi W∧Rel c.env gi W hi∧J i hi∧W.heap[D]? = some (.deferred (some []))∧W.heap[D+1]? = some (.loop (rec .ready none)):=⟨_,rfl⟩;obtain ⟨Kx,hKx⟩:∃ Kx:World→Prop,Kx=fun W=>∃ id gi hi,Ext g w gi W∧Rel c.env gi W hi∧Jx id hi∧W.heap[D]? = some (.deferred (some []))∧W.heap[D+1]? = some (.loop (rec .done (some (aQ6 id)))):=⟨_,rfl⟩;have hK1:K n W1:=by
  have t1:I9 D w (w.alloc (.deferred (some []))):=W8 om_;have x1:=t1.ext om_ bh2 (Ext.refl g w);have q1:=t1.rel r.rel;have t2:I9 D (w.alloc (.deferred (some []))) W1:=by rw [← hW1];exact W8 (by simp;omega)
  have x2:=t2.ext om_ bh2 x1;have q2:=t2.rel q1;rw [hK];refine ⟨_,_,x2,q2,h0,?_,?_⟩
  ·rw [← hW1]
   refine (Go.RowKit.Below.heap_alloc _ _ _ (by simp;omega)).trans ?_;rw [← hD];exact World.alloc_heap_new w _
  ·rw [← hW1]
   have:=World.alloc_heap_new (w.alloc (.deferred (some []))) (.loop (rec .ready none));rwa [World.size_alloc,hD] at this
 refine ⟨D+1,[aL4 D],W1,{ target:=.fn (.func gf) lb,args:=#[.func (.yield (D+1)) #[] #[]] },W1,gf,
  #[.func (.yield (D+1)) #[] #[]]++lb,W1,?_,?_,fun _ _=>trivial,?_,fun h=>by simp [xF,Fence.wide] at h,?_⟩
 ·rw [← hW1,X8,← hD];exact run_enterLoop_outer _ _ _ _ _
 ·have he:a.eval (.tmp f)=.func (.func gf) #[] lb:=hev
  simp only [resolve,he];simp [go_sem,Deferred.ofValue,Act.eval]
 ·simp [invoke,callFunc,hc1,cr9,cr8]
 ·refine (hgo (D+1) K Kx ?_ ?_ ?_ ?_ W1 hK1).mono ?_
  ·intro i W hKi
   rw [hK] at hKi;obtain ⟨gi,hh,x,_⟩:=hKi;exact ⟨gi,x⟩
  ·intro i W o hKi
   rw [hK] at hKi ⊢;obtain ⟨gi,hh,x,q,hJ,hdf,hlp⟩:=hKi;have hsz:=(Array.getElem?_eq_some_iff.1 hlp).1;have t:I9 D W (W.alloc o):=W8 om_;exact ⟨_,hh,t.ext om_ bh2 x,t.rel q,hJ,(Go.RowKit.Below.heap_alloc W o _ (Array.getElem?_eq_some_iff.1 hdf).1).trans hdf,(Go.RowKit.Below.heap_alloc W o _ hsz).trans hlp⟩
  ·intro i W hKi
   rw [hK] at hKi ⊢;obtain ⟨gi,hh,x,q,hJ,hdf,hlp⟩:=hKi;exact ⟨gi,hh,x.trans cu0,q.drew,hJ,hdf,hlp⟩
  ·
   intro i W hi hKi;rw [hK] at hKi;obtain ⟨gi,hh,x,q,hJ,hdf,hlp⟩:=hKi;obtain ⟨hv1,hv2⟩:=cu6 i hi;have hy:=run_yield (P:=c.P) (args:=(O4 i).toArray) hlp (by rw [X8];simpa using hv1);refine ⟨(rec .ready none).fn,_,(rec .ready none).assign,(rec .ready none).body,hy,roundIn_of_wpIn trivial ?_⟩;clear hy;obtain ⟨xb,hxb⟩:∃ xb,xb=bF1 c g w D { rec .ready none with state:=.busy } (de9 c g w D { rec .ready none with state:=.busy } (J i) Jx):=⟨_,rfl⟩;have dj9:XOk c.P xb:=by rw [hxb];exact bi8 _ _ _ _ _ _
   have h1:=af3 (bF1 c g w D (rec .ready none) (cX9 c xb g w D (rec .ready none) gen body)) xb gen i hh (bi8 _ _ _ _ _ _) dj9 (Nat.le_refl _) hi hJ
    (fun σ' gn' h g' a' w' hx' hX' r'=>⟨rfl,g',σ',hx',hX',r',h⟩)
    (fun gn' σ' h g' a' w' hx' hX' r'=>by
     rw [hxb] at hX' ⊢;exact ⟨g',σ'.h,hX',r'.1.rel,h⟩)
    (fun gn' id σ' h g' a' w' hx' hX' r'=>by
     rw [hxb] at hX' ⊢;cases id<;>exact ⟨g',σ'.h,hX',r'.1.rel,h⟩)
   have hX0:XR g w D (rec .ready none) (gi.dn W) W:=XR.of x hdf hlp;have hst:P4 [] c.env c.n (gi.dn W) W { tmps:=(ps.zip (O4 i)).foldl (fun tmps (t,a)=>tmps.setIfInBounds t a) a.tmps,defers:=[] } ⟨ax5 σ.tm ps (vv i),hh⟩:=by
    have s0:K1 c.env c.n (gi.dn W) W a ⟨σ.tm,hh⟩:=⟨q.dn,fun t=>(r.tm t).mono hX0.1,r.size,bd6⟩;have s1:=K1.cS7 ps (O4 i) (vv i) s0 hps hv1 (fun j x v hx hv=>(hv2 j x v hx hv).mono hX0.1) (hvv i hi);rw [bd6] at s1;exact P4.of s1
   have h2:=h1 _ _ W (hx.trans hX0.1) hX0 hst;have etm:(((rec .ready none).params.zip (O4 i).toArray).foldl (fun tmps (t,a)=>tmps.setIfInBounds t a) (rec .ready none).tmps)=(ps.zip (O4 i)).foldl (fun tmps (t,a)=>tmps.setIfInBounds t a) a.tmps:=by
    rw [X8];simp
   have eas:(rec .ready none).assign=assign:=by rw [X8]
   have ebo:(rec .ready none).body=body:=by rw [X8]
   rw [etm,eas,ebo];refine wpIn_mono (show assign.wpIn (Fence.wide.inRound (D+1)) 0 c.P _ _ _ from h2) ?_;intro e a1 w1 hp;have hp':cX9 c xb g w D (rec .ready none) gen body e a1 w1:=by cases e<;>exact hp
   obtain ⟨rfl,g1,σ1,hx1,hX1,r1,cq3⟩:=hp';obtain ⟨y0,y1,y2,y3,y4⟩:=hX1;refine ⟨_,run_beginRound y4 (by rw [X8]),?_⟩;have hD1:D+1<w1.heap.size:=(Array.getElem?_eq_some_iff.1 y4).1;have t:I9 D w1 (w1.putObj (D+1) (.loop { rec .ready none with state:=.busy })):=W9 om_ y4 rfl rfl;have x3:=t.ext om_ bh2 y0;have q3:=t.rel r1.1.rel;have l3:(w1.putObj (D+1) (.loop { rec .ready none with state:=.busy })).heap[D+1]? = some (.loop { rec .ready none with state:=.busy }):=World.putObj_heap_same hD1;have d3:(w1.putObj (D+1) (.loop { rec .ready none with state:=.busy })).heap[D]? = some (.deferred (some [])):=(World.putObj_heap_other om_).trans y3;have X3:=XR.of x3 d3 l3;have cW5:P4 [] c.env c.n ((g1.up D).dn (w1.putObj (D+1) (.loop { rec .ready none with state:=.busy }))) (w1.putObj (D+1) (.loop { rec .ready none with state:=.busy })) a1 σ1:=by
    have r1':=r1.st;refine P4.of ⟨q3.dn,fun t'=>?_,r1'.size,r1'.defers⟩;exact (((r1'.tm t').wrs _).mono (t.here r1'.rel.C4)).mono (Ext.refl _ _).dn
   have h4:=cq3 _ a1 _ (hx.trans X3.1) (by rw [hxb];exact X3) (by rw [hxb];exact cW5);rw [hxb] at h4;refine wpIn_mono (show body.wpIn (Fence.wide.inRound (D+1)) 0 c.P _ _ _ from h4) ?_;intro e a4 w4 hp4;have cF2:de9 c g w D { rec .ready none with state:=.busy } (J i) Jx e a4 w4:=by cases e<;>exact hp4
   obtain ⟨g4,h4',⟨z0,z1,z2,z3,z4⟩,q4,hJ4⟩:=cF2;have hD4:D+1<w4.heap.size:=(Array.getElem?_eq_some_iff.1 z4).1;have fin:∀ (jump:Option Code) (rr:Loop),rr={ ({ rec .ready none with state:=.busy }:Loop) with state:=if jump.isNone then .ready else .done,pending:=jump } →
     (Instr.endRound (D+1) jump).run c.P w4=.ok (.bool jump.isNone) (w4.putObj (D+1) (.loop rr))∧Ext g w (g4.up D) (w4.putObj (D+1) (.loop rr))∧Rel c.env (g4.up D) (w4.putObj (D+1) (.loop rr)) h4' ∧
     (w4.putObj (D+1) (.loop rr)).heap[D]? = some (.deferred (some []))∧(w4.putObj (D+1) (.loop rr)).heap[D+1]? = some (.loop rr):=by
    intro jump rr hrr;have t4:I9 D w4 (w4.putObj (D+1) (.loop rr)):=W9 om_ z4 rfl rfl;refine ⟨?_,t4.ext om_ bh2 z0,t4.rel q4,(World.putObj_heap_other om_).trans z3,World.putObj_heap_same hD4⟩;rw [hrr];exact run_endRound jump z4
   cases e with
   | normal =>
    obtain ⟨f1,f2,f3,f4,f5⟩:=fin none (rec .ready none) (by rw [X8];rfl);refine ⟨_,_,f1,.inl ⟨rfl,?_⟩⟩;rw [hK];exact ⟨_,_,f2,f3,hJ4,f4,f5⟩
   | exit id =>
    obtain ⟨f1,f2,f3,f4,f5⟩:=fin (some (.exit id)) (rec .done (some (.exit id))) (by rw [X8];rfl);refine ⟨_,_,f1,.inr ⟨rfl,?_⟩⟩;rw [hKx];exact ⟨some id,_,_,f2,f3,hJ4,f4,f5⟩
   | ret =>
    obtain ⟨f1,f2,f3,f4,f5⟩:=fin (some .ret) (rec .done (some .ret)) (by rw [X8];rfl);refine ⟨_,_,f1,.inr ⟨rfl,?_⟩⟩;rw [hKx];exact ⟨none,_,_,f2,f3,hJ4,f4,f5⟩
   | goto t=>exact hJ4.elim
   | panic ch=>exact hJ4.elim
   | outgrown=>exact hJ4.elim
  ·
   rintro e W2 ⟨⟨v,rfl⟩,ak2⟩;have hw0:c.w0.heap.size≤D:=by rw [← hD];exact hx.size
   have tail:∀ (gi:G) (hi:H) (rr:Loop) ,Ext g w gi W2→Rel c.env gi W2 hi→W2.heap[D]? = some (.deferred (some []))→W2.heap[D+1]? = some (.loop rr)→rr.state≠.busy →
     ∃ g5 w5,(Instr.endLoop (D+1)).run c.P W2=.ok rr.pending w5∧Ext c.g0 c.w0 g5 w5∧XD c D g5 w5∧P4 [aL4 D] c.env c.n g5 w5 { a with defers:=[aL4 D]++a.defers } ⟨σ.tm,hi⟩:=by
    intro gi hi rr x q hdf hlp hst;have hD2:D+1<W2.heap.size:=(Array.getElem?_eq_some_iff.1 hlp).1;have t5:I9 D W2 (W2.putObj (D+1) (.loop { rr with state:=.exhausted })):=W9 om_ hlp rfl rfl;have x5:=(t5.ext om_ bh2 x).dn;have q5:=(t5.rel q).dn;have d5:(W2.putObj (D+1) (.loop { rr with state:=.exhausted })).heap[D]? = some (.deferred (some [])):=(World.putObj_heap_other om_).trans hdf;refine ⟨_,_,run_endLoop hlp hst,hx.trans x5,⟨hw0,(ac6 (Ext.refl _ _) d5 rfl).2,d5⟩,⟨⟨q5,fun t'=>(r.tm t').mono x5,r.size,rfl⟩,by simp [bd6]⟩⟩
   rcases ak2 with ak2|ak2
   ·rw [hK] at ak2
    obtain ⟨gi,hi,x,q,hJ,hdf,hlp⟩:=ak2;obtain ⟨g5,w5,e1,e2,e3,e4⟩:=tail gi hi _ x q hdf hlp (by rw [X8];simp);have e1':(Instr.endLoop (D+1)).run c.P W2=.ok none w5:=by rw [e1,X8]
    exact ⟨none,w5,e1',az0 D hi hJ g5 _ w5 e2 e3 e4⟩
   ·rw [hKx] at ak2
    obtain ⟨id,gi,hi,x,q,hJ,hdf,hlp⟩:=ak2;obtain ⟨g5,w5,e1,e2,e3,e4⟩:=tail gi hi _ x q hdf hlp (by rw [X8];simp);have e1':(Instr.endLoop (D+1)).run c.P W2=.ok (some (aQ6 id)) w5:=by rw [e1,X8]
    refine ⟨some (aQ6 id),w5,e1',?_⟩;have:=ay1 D id hi hJ g5 _ w5 e2 e3 e4;cases id with
    | some id=>exact wpIn_exit this
    | none=>exact wpIn_ret this
theorem bx8 {c:Ctx} {gen:Nat} {k:List It} {σ:St} {f p1 p2 gf:Nat} {vs:List V} {assign body:Code} (hb:bD6 c.P gf)
  (hf:σ.tm f=.fn (.func gf) [] [.el [.sl .any (vs.map fun v=>[v])] 0]) (hlen:vs.length≤1000000) (hp1:p1<c.n) (hp2:p2<c.n)
  (J:Nat→H→Prop) (Jx:Option Nat→H→Prop) (h0:J vs.length σ.h)
  (af3:∀ (xa xb:XC) (gn i:Nat) (v:V) (hi:H),XOk c.P xa→XOk c.P xb→gen≤gn→i<vs.length→vs[i]? = some v→J (i+1) hi →
   (∀ σ' gn',ARX c xb gn' [.code body] .normal σ'→ARX c xa gn' [] .normal σ')→(∀ gn' σ',J i σ'.h→ARX c xb gn' [] .normal σ')→(∀ gn' id σ',Jx id σ'.h→ARX c xb gn' [] (ae4 id) σ') →
   ARX c xa gn [.code assign] .normal ⟨upd (upd σ.tm (some p1) (.int .i64 i)) (some p2) v,hi⟩)
  (az0:∀ D h',J 0 h'→ARX c (xD c D) gen k .normal ⟨σ.tm,h'⟩)
  (ay1:∀ D id h',Jx id h'→ARX c (xD c D) gen k (ae4 id) ⟨σ.tm,h'⟩) :
  ARX c (xF c) gen (.code (.rangeFunc (.tmp f) #[p1,p2] assign body)::k) .normal σ:=by
 refine bK8 (ps:=[p1,p2]) (n:=vs.length) (vv:=fun i=>[.int .i64 i,vs.getD i .undef]) hb.call (by simp [hp1,hp2]) (fun i hi=>rfl) ?_ J Jx h0
  (fun xa xb gn i hi oa ob hg hlt hJ h1 h2 h3=>?_) az0 ay1
 ·intro g w cv hfv
  rw [hf] at hfv;obtain ⟨pb,po,ao,cap,hev,N3,hpc,hne,elm,hel,cU7⟩:∃ pb po ao cap,cv=.func (.func gf) #[] #[.pointer (some ⟨pb,po,none⟩)]∧po<g.lim pb∧w.cell? ⟨pb,po,none⟩=some (.slice ao vs.length cap) ∧
    (vs.length≠0→∃ b off,ao=some ⟨b,off,none⟩) ∧
    ∃ elm:Nat→Value,(∀ b off,ao=some ⟨b,off,none⟩→∀ j,j<vs.length→off+j<g.lim b∧w.cell? ⟨b,off+j,none⟩=some (elm j))∧∀ j v,vs[j]? = some v→RV g w (elm j) v:=by
   cases hfv with
   | fn _ fs cs _ _ h1 h2 _ r2 =>
    have e1:fs=#[]:=by simpa using h1
    subst e1;obtain ⟨c1,rfl⟩:∃ c1,cs=#[c1]:=by
     have h2':cs.size=1:=h2;refine ⟨cs[0],?_⟩;apply Array.ext
     ·simpa using h2'
     ·intro i hi hi2;simp at hi2;subst hi2;rfl
    have hq:=r2 0 c1 _ rfl rfl;cases hq with
    | el b off cs o cell hl E0 hr =>
     have hz:=E0 0 sp_;have hrz:=hr 0 _ rfl;generalize hcz:cell 0=cz at hz hrz;cases hrz with
     | sl ao cap _ _ kk aF3 hk V0 aF4 hr2 hc =>
      have cY4:(vs.map fun v=>[v]).length=vs.length:=by simp
      have hfl:(vs.map fun v=>[v]).flatten=vs:=be3 vs;rw [hfl] at hr2;rw [cY4] at V0 aF4 hz;have hk1:vs≠[]→kk=1:=by
       intro hne;cases vs with
       | nil=>exact absurd rfl hne
       | cons v l=>exact (hk [v] sp_).symm
      refine ⟨b,off+0,ao,cap,sp_,by simp at hl;omega,by simpa using hz,?_,aF3,?_,fun j v h=>hr2 j v h⟩
      ·intro hne
       have aJ2:vs≠[]:=by intro e;subst e;simp at hne
       obtain ⟨b2,off2,e,_,_⟩:=aF4 (by simpa using aJ2);exact ⟨b2,off2,e⟩
      ·intro b2 off2 e j hj
       have aJ2:vs≠[]:=by intro e;subst e;simp at hj
       obtain ⟨b3,off3,e3,h4,h5⟩:=aF4 (by simpa using aJ2);rw [hk1 aJ2,Nat.mul_one] at h4 h5;rw [e] at e3;cases e3;exact ⟨om_,h5 j hj⟩
  refine ⟨_,fun i=>[.int .i64 (i:Int),elm i],hev,fun i hi=>⟨rfl,fun j x v hx hv=>?_⟩,?_⟩
  ·match j with
   | 0=>simp at hx hv;subst hx;subst hv;exact .int _ _
   | 1 =>
    simp [List.getElem?_eq_getElem hi] at hx hv;subst hx;subst hv;exact cU7 i _ (List.getElem?_eq_getElem hi)
   | j+2=>simp at hx
  ·intro l K Kx ci1 _ _ hY W hK
   refine hb.go l pb po ao vs.length cap elm K Kx om_ hne (fun i W hi hKi=>?_) hY W hK;obtain ⟨gi,x⟩:=ci1 i W hKi;refine ⟨(x.cells _ _ N3).trans hpc,fun b off e j hj=>?_⟩;obtain ⟨h1,h2⟩:=hel b off e j hj;exact (x.cells _ _ h1).trans h2
 ·have hv:vs[i]? = some vs[i]:=List.getElem?_eq_getElem hlt
  have:=af3 xa xb gn i vs[i] hi oa ob hg hlt hv hJ h1 h2 h3;have e:vs.getD i .undef=vs[i]:=by simp [hlt]
  simp only [ax5,e];exact this
structure cm0 (P:Program) (gf:Nat):Prop where
 call:aa3 P gf
 go:∀ (l pb po:Nat) (a:Option Addr) (cap:Nat) (K:Nat→World→Prop) (Kx:World→Prop),(∀ i W o,K i W→K i (W.alloc o))→(∀ i W,K i W→K i W.drew) →
  (∀ i W,K i W→W.cell? ⟨pb,po,none⟩=some (.int .i64 1)∧W.cell? ⟨pb,po+1,none⟩=some (.slice a 0 cap)) →
  (∀ W,K 1 W→YieldAt Fence.wide (0 - 1) P l #[.agg #[.int .i64 1,.slice a 0 cap]] W fun e W'=>(e=.returned (.bool true)∧K 0 W')∨(e=.returned (.bool false)∧Kx W')) →
  ∀ W,K 1 W→CallsIn Fence.wide 0 P gf #[.func (.yield l) #[] #[],.pointer (some ⟨pb,po,none⟩)] W fun e W'=>(∃ v,e=.returned v)∧(K 0 W'∨Kx W')
theorem cg7 {c:Ctx} {gen:Nat} {k:List It} {σ:St} {f p gf:Nat} {assign body:Code} (hb:cm0 c.P gf)
  (hf:σ.tm f=.fn (.func gf) [] [.el [.int .i64 1,.sl .any []] 0]) (hp:p<c.n)
  (J:Nat→H→Prop) (Jx:Option Nat→H→Prop) (h0:J 1 σ.h)
  (af3:∀ (xa xb:XC) (gn:Nat) (hi:H),XOk c.P xa→XOk c.P xb→gen≤gn→J 1 hi →
   (∀ σ' gn',ARX c xb gn' [.code body] .normal σ'→ARX c xa gn' [] .normal σ')→(∀ gn' σ',J 0 σ'.h→ARX c xb gn' [] .normal σ')→(∀ gn' id σ',Jx id σ'.h→ARX c xb gn' [] (ae4 id) σ') →
   ARX c xa gn [.code assign] .normal ⟨upd σ.tm (some p) (.agg [.int .i64 1,.sl .any []]),hi⟩)
  (az0:∀ D h',J 0 h'→ARX c (xD c D) gen k .normal ⟨σ.tm,h'⟩)
  (ay1:∀ D id h',Jx id h'→ARX c (xD c D) gen k (ae4 id) ⟨σ.tm,h'⟩) :
  ARX c (xF c) gen (.code (.rangeFunc (.tmp f) #[p] assign body)::k) .normal σ:=by
 refine bK8 (ps:=[p]) (n:=1) (vv:=fun i=>[.agg [.int .i64 1,.sl .any []]]) hb.call (by simp [hp]) (fun i hi=>rfl) ?_ J Jx h0
  (fun xa xb gn i hi oa ob hg hlt hJ h1 h2 h3=>by
   obtain rfl:i=0:=by omega
   exact af3 xa xb gn hi oa ob hg hJ h1 h2 h3) az0 ay1
 intro g w cv hfv;rw [hf] at hfv;cases hfv with
 | fn _ fs cs _ _ h1 h2 _ r2 =>
  have e1:fs=#[]:=by simpa using h1
  subst e1;obtain ⟨c1,rfl⟩:∃ c1,cs=#[c1]:=by
   have h2':cs.size=1:=h2;refine ⟨cs[0],?_⟩;apply Array.ext
   ·simpa using h2'
   ·intro i hi hi2;simp at hi2;subst hi2;rfl
  have hq:=r2 0 c1 _ rfl rfl;cases hq with
  | el b off cs o cell hl E0 hr =>
   have hz:=E0 0 sp_;have hz1:=E0 1 sp_;have hrz:=hr 0 _ rfl;have bn9:=hr 1 _ rfl;generalize cell 0=c0 at hz hrz;generalize cell 1=c1 at hz1 bn9;cases hrz;cases bn9 with
   | sl ao cap _ _ kk aF3 hk V0 aF4 hr2 hc =>
    simp only [List.length_nil] at hz1;refine ⟨_,fun _=>[.agg #[.int .i64 1,.slice ao 0 cap]],rfl,fun i hi=>⟨rfl,fun j x v hx hv=>?_⟩,?_⟩
    ·match j with
     | 0 =>
      simp at hx hv;subst hx;subst hv;refine .agg _ _ rfl fun j x v hx hv=>?_
      match j with
      | 0=>simp at hx hv;subst hx;subst hv;exact .int _ _
      | 1=>simp at hx hv;subst hx;subst hv;exact .sl ao cap .any [] 0 (fun _=>undef) sp_ sp_ sp_ sp_ trivial
      | j+2=>simp at hx
     | j+1=>simp at hx
    ·intro l K Kx ci1 hal hdr hY W hK
     simp only [List.length_cons,List.length_nil] at hl;refine hb.go l b (off+0) ao cap K Kx hal hdr (fun i W hKi=>?_) (fun W hK=>hY 0 W om_ hK) W hK;obtain ⟨gi,x⟩:=ci1 i W hKi;exact ⟨(x.cells _ _ om_).trans hz,(x.cells _ _ om_).trans hz1⟩
def X7:Code→List Code
 | .seq a b=>X7 a++X7 b
 | c=>[c]
@[go_sem] theorem ad8 {a b:Code}:X7 (.seq a b)=X7 a++X7 b:=by rw [X7]
@[go_sem] theorem X2 {id:Nat} {ops:Array Oper} {draw:Bool}:X7 (.region id ops draw)=[.region id ops draw]:=by rw [X7]<;>simp
@[go_sem] theorem aa4 {id:Nat} {b:Code}:X7 (.block id b)=[.block id b]:=by rw [X7]<;>simp
@[go_sem] theorem ai1:X7 .ret=[.ret]:=by rw [X7]<;>simp
@[go_sem] theorem ah9 {t:Operand} {a b:Code}:X7 (.cond t a b)=[.cond t a b]:=by rw [X7]<;>simp
@[go_sem] theorem cQ9:X7 .skip=[.skip]:=by rw [X7]<;>simp
@[go_sem] theorem cP0 {id:Nat}:X7 (.exit id)=[.exit id]:=by rw [X7]<;>simp
@[go_sem] theorem cT8 {b:Code}:X7 (.loop b)=[.loop b]:=by rw [X7]<;>simp
@[go_sem] theorem cf5 {g:Operand} {ps:Array Tmp} {a b:Code}:X7 (.rangeFunc g ps a b)=[.rangeFunc g ps a b]:=by rw [X7]<;>simp
theorem ba0 {P:Program} {F:Fence} {E:Exit→Act→World→Prop} {k:List It}:∀ (l:List Code) (e:Exit) (a:Act) (w:World),e≠.normal→U0 P F E (l.map .code++k) e a w→U0 P F E k e a w
 | [],_,_,_,_,h=>h
 | c::l,e,a,w,he,h=>by
  refine ba0 l e a w he ?_;cases e<;>first|exact h|exact absurd rfl he
theorem bC8 {P:Program} {F:Fence} {E:Exit→Act→World→Prop}:∀ (c:Code) (k:List It) (a:Act) (w:World),U0 P F E ((X7 c).map .code++k) .normal a w→c.wpIn F 0 P (U0 P F E k) a w:=by
 intro c
 induction c with
 | seq x y ihx ihy =>
  intro k a w h;rw [ad8,List.map_append,List.append_assoc] at h;refine wpIn_seq (wpIn_mono (ihx _ a w h) ?_);intro e a' w' hp;cases e with
  | normal=>exact ihy k a' w' hp
  | _=>exact ba0 _ _ a' w' sp_ hp
 | _=>intro k a w h;rw [X7] at h<;>first|exact h|(intro _ _ e;cases e)
theorem ad1 {c:Ctx} {x:XC} {gen:Nat} {k:List It} {σ:St} {y:Code} (h:ARX c x gen ((X7 y).map .code++k) .normal σ):ARX c x gen (.code y::k) .normal σ :=
 fun g a w hx hX r=>bC8 y k a w (h g a w hx hX r)
@[congr] theorem cX0 {c:Ctx} {x:XC} {gen:Nat} {k:List It} {e:Exit} {σ σ':St} (h:σ=σ'):ARX c x gen k e σ=ARX c x gen k e σ':=by rw [h]
theorem s9 {c:Ctx} {x:XC} {gen:Nat} {k:List It} {σ:St} {y z:Code} {t:Operand} (h:aw8 (av c.env σ.tm t) (ARX c x gen (.code y::k) .normal σ) (ARX c x gen (.code z::k) .normal σ)) :
  ARX c x gen (.code (.cond t y z)::k) .normal σ:=by
 generalize hv:av c.env σ.tm t=v at h;cases v with
 | bool b=>exact cu7 hv h.1 h.2
 | _=>exact h.elim
structure bQ8 (P:Program) (gf:Nat):Prop where
 call:aa3 P gf
 go:∀ (l pb po:Nat) (a:Option Addr) (len cap:Nat) (elm:Nat→Value) (K:Nat→World→Prop) (Kx:World→Prop),len * 8≤140737488351232 →
  (len≠0→∃ b off,a=some ⟨b,off,none⟩) →
  (∀ i W,i≤len→K i W→W.cell? ⟨pb,po,none⟩=some (.slice a len cap)∧∀ b off,a=some ⟨b,off,none⟩→∀ j,j<len * 5→W.cell? ⟨b,off+j,none⟩=some (elm j)) →
  (∀ (i:Nat) W,i<len→K (i+1) W→YieldAt Fence.wide (0 - 1) P l #[.int .i64 (i:Int),.agg #[elm (i * 5),elm (i * 5+1),elm (i * 5+2),elm (i * 5+3),elm (i * 5+4)]] W fun e W'=>(e=.returned (.bool true)∧K i W')∨(e=.returned (.bool false)∧Kx W')) →
  ∀ W,K len W→CallsIn Fence.wide 0 P gf #[.func (.yield l) #[] #[],.pointer (some ⟨pb,po,none⟩)] W fun e W'=>(∃ v,e=.returned v)∧(K 0 W'∨Kx W')
theorem br7:∀ (l:List (List V)),(∀ e∈l,e.length=5)→∀ (i:Nat) (e:List V),l[i]? = some e→∀ m,m<5→l.flatten[i * 5+m]? = e[m]?
 | [],_,i,e,h,m,hm=>by simp at h
 | x::l,hl,0,e,h,m,hm=>by
  simp at h;subst h;have:=hl x sp_;rw [List.flatten_cons,List.getElem?_append_left om_];simp
 | x::l,hl,i+1,e,h,m,hm=>by
  have h5:=hl x sp_;have:=br7 l (fun y hy=>hl y (by simp [hy])) i e (by simpa using h) m hm;rw [List.flatten_cons,List.getElem?_append_right om_,h5,show (i+1) * 5+m - 5=i * 5+m by omega];exact this
theorem cb3 {c:Ctx} {gen:Nat} {k:List It} {σ:St} {f p1 p2 gf:Nat} {vs:List (List V)} {assign body:Code} (hb:bQ8 c.P gf)
  (hf:σ.tm f=.fn (.func gf) [] [.el [.sl .any vs] 0]) (h5:∀ e∈vs,e.length=5) (hlen:vs.length≤1000000) (hp1:p1<c.n) (hp2:p2<c.n)
  (J:Nat→H→Prop) (Jx:Option Nat→H→Prop) (h0:J vs.length σ.h)
  (af3:∀ (xa xb:XC) (gn i:Nat) (v:List V) (hi:H),XOk c.P xa→XOk c.P xb→gen≤gn→i<vs.length→vs[i]? = some v→J (i+1) hi →
   (∀ σ' gn',ARX c xb gn' [.code body] .normal σ'→ARX c xa gn' [] .normal σ')→(∀ gn' σ',J i σ'.h→ARX c xb gn' [] .normal σ')→(∀ gn' id σ',Jx id σ'.h→ARX c xb gn' [] (ae4 id) σ') →
   ARX c xa gn [.code assign] .normal ⟨upd (upd σ.tm (some p1) (.int .i64 i)) (some p2) (.agg v),hi⟩)
  (az0:∀ D h',J 0 h'→ARX c (xD c D) gen k .normal ⟨σ.tm,h'⟩)
  (ay1:∀ D id h',Jx id h'→ARX c (xD c D) gen k (ae4 id) ⟨σ.tm,h'⟩) :
  ARX c (xF c) gen (.code (.rangeFunc (.tmp f) #[p1,p2] assign body)::k) .normal σ:=by
 refine bK8 (ps:=[p1,p2]) (n:=vs.length) (vv:=fun i=>[.int .i64 i,.agg (vs.getD i [])]) hb.call (by simp [hp1,hp2]) (fun i hi=>rfl) ?_ J Jx h0
  (fun xa xb gn i hi oa ob hg hlt hJ h1 h2 h3=>?_) az0 ay1
 ·intro g w cv hfv
  rw [hf] at hfv;obtain ⟨pb,po,ao,cap,hev,N3,hpc,hne,elm,hel,cU7⟩:∃ pb po ao cap,cv=.func (.func gf) #[] #[.pointer (some ⟨pb,po,none⟩)]∧po<g.lim pb∧w.cell? ⟨pb,po,none⟩=some (.slice ao vs.length cap) ∧
    (vs.length≠0→∃ b off,ao=some ⟨b,off,none⟩) ∧
    ∃ elm:Nat→Value,(∀ b off,ao=some ⟨b,off,none⟩→∀ j,j<vs.length * 5→off+j<g.lim b∧w.cell? ⟨b,off+j,none⟩=some (elm j))∧∀ j v,vs.flatten[j]? = some v→RV g w (elm j) v:=by
   cases hfv with
   | fn _ fs cs _ _ h1 h2 _ r2 =>
    have e1:fs=#[]:=by simpa using h1
    subst e1;obtain ⟨c1,rfl⟩:∃ c1,cs=#[c1]:=by
     have h2':cs.size=1:=h2;refine ⟨cs[0],?_⟩;apply Array.ext
     ·simpa using h2'
     ·intro i hi hi2;simp at hi2;subst hi2;rfl
    have hq:=r2 0 c1 _ rfl rfl;cases hq with
    | el b off cs o cell hl E0 hr =>
     have hz:=E0 0 sp_;have hrz:=hr 0 _ rfl;generalize hcz:cell 0=cz at hz hrz;cases hrz with
     | sl ao cap _ _ kk aF3 hk V0 aF4 hr2 hc =>
      have hk1:vs≠[]→kk=5:=by
       intro hne;cases vs with
       | nil=>exact absurd rfl hne
       | cons v l=>rw [← hk v sp_,h5 v sp_]
      refine ⟨b,off+0,ao,cap,sp_,by simp at hl;omega,by simpa using hz,?_,aF3,?_,fun j v h=>hr2 j v h⟩
      ·intro hne
       have aJ2:vs≠[]:=by intro e;subst e;simp at hne
       obtain ⟨b2,off2,e,_,_⟩:=aF4 aJ2;exact ⟨b2,off2,e⟩
      ·intro b2 off2 e j hj
       have aJ2:vs≠[]:=by intro e;subst e;simp at hj
       obtain ⟨b3,off3,e3,h4,h5'⟩:=aF4 aJ2;rw [hk1 aJ2] at h4 h5';rw [e] at e3;cases e3;exact ⟨om_,h5' j hj⟩
  refine ⟨_,fun i=>[.int .i64 (i:Int),.agg #[elm (i * 5),elm (i * 5+1),elm (i * 5+2),elm (i * 5+3),elm (i * 5+4)]],hev,fun i hi=>⟨rfl,fun j x v hx hv=>?_⟩,?_⟩
  ·match j with
   | 0=>simp at hx hv;subst hx;subst hv;exact .int _ _
   | 1 =>
    have he:vs[i]? = some vs[i]:=List.getElem?_eq_getElem hi;have h5i:=h5 _ (List.getElem_mem hi);simp [he] at hx hv;subst hx;subst hv;refine .agg _ _ (by rw [h5i];rfl) fun m x v hx hv=>?_;have hm:m<5:=by
     have:=(Array.getElem?_eq_some_iff.1 hx).1;simpa using this
    rw [← br7 vs h5 i _ he m hm] at hv;have hr:=cU7 _ v hv
    match m,hm with
    | 0,_=>simp at hx;subst hx;exact hr
    | 1,_=>simp at hx;subst hx;exact hr
    | 2,_=>simp at hx;subst hx;exact hr
    | 3,_=>simp at hx;subst hx;exact hr
    | 4,_=>simp at hx;subst hx;exact hr
   | j+2=>simp at hx
  ·intro l K Kx ci1 _ _ hY W hK
   refine hb.go l pb po ao vs.length cap elm K Kx om_ hne (fun i W hi hKi=>?_) hY W hK;obtain ⟨gi,x⟩:=ci1 i W hKi;refine ⟨(x.cells _ _ N3).trans hpc,fun b off e j hj=>?_⟩;obtain ⟨h1,h2⟩:=hel b off e j hj;exact (x.cells _ _ h1).trans h2
 ·have hv:vs[i]? = some vs[i]:=List.getElem?_eq_getElem hlt
  have:=af3 xa xb gn i vs[i] hi oa ob hg hlt hv hJ h1 h2 h3;have e:vs.getD i []=vs[i]:=by simp [hlt]
  simp only [ax5,e];exact this
theorem aN6 {c:Ctx} {gen:Nat} {σ:St} (hm:c.P.follows .mixedOrders=true) (h:AR c gen [] .ret σ):ARX c (xF c) gen [] .ret σ :=
 fun g a w hx _ r=>at7 (show bodyPost c.P c.fn c.R .ret a w from h rfl hm g a w hx r.st)
def G.free (g:G):G:=g.wrs fun _=>true
theorem aj0 {g g':G} {w w':World} (x:Ext g w g' w'):Ext g.free w g' w' :=
 ⟨x.os,x.tape,x.output,x.size,x.lim,x.cells,fun b _ h=>by simp [G.free,G.wrs] at h,x.dom,x.top⟩
theorem aK3 {g0 g g':G} {w0 w w':World} (x:Ext g0 w0 g w) (hf:∀ b,g0.wr b=true) (y:Ext g.free w g' w'):Ext g0 w0 g' w' :=
 let z:Ext g0 w0 g.free w:=⟨x.os,x.tape,x.output,x.size,x.lim,x.cells,fun b _ h=>(by rw [hf] at h;cases h),x.dom,x.top⟩
 z.trans y
theorem aU3 {g:G}:∀ b,g.free.wr b=true:=fun _=>rfl
theorem H4 {g:G} {w:World}:Ext g w (g.dn w) w:=(Ext.refl g w).dn
theorem I9.bc7 {g gi:G} {w W W':World} {B:Nat} (t:I9 B W W') (hl:∀ b,w.heap.size≤b→g.lim b=0) (x:Ext g.free w gi W):Ext g.free w (gi.up B) W':=by
 refine ⟨t.os.trans x.os,t.tape.trans x.tape,t.output.trans x.output,Nat.le_trans x.size t.size,x.lim,fun b o h=>?_,fun b hb hw=>?_,x.dom,x.top⟩
 ·by_cases hs:b<W.heap.size
  ·rw [t.cell b o hs];exact x.cells b o h
  ·have hw:w.heap.size≤b:=by have:=x.size;omega
   have:g.free.lim b=g.lim b:=rfl;rw [this,hl b hw] at h;omega
 ·simp [G.free,G.wrs] at hw
def KO (L:Nat→Prop) (W0:World) (g:G) (w:World):Prop:=∀ b o,¬ L b→W0.heap[b]? = some o→o.isCells=false→w.heap[b]? = some o∧g.wr b=false
theorem KO.ext {L:Nat→Prop} {W0 w w':World} {g g':G} (x:Ext g w g' w') (k:KO L W0 g w):KO L W0 g' w':=fun b o h1 h2 h3=>by
 obtain ⟨k1,k2⟩:=k b o h1 h2 h3;obtain ⟨x1,x2⟩:=x.wr b (Array.getElem?_eq_some_iff.1 k1).1 k2;exact ⟨x1.trans k1,x2⟩
theorem KO.turn {L:Nat→Prop} {W0 w w':World} {g:G} {B:Nat} (hB:W0.heap.size≤B) (t:I9 B w w') (k:KO L W0 g w):KO L W0 (g.up B) w':=fun b o h1 h2 h3=>by
 obtain ⟨k1,k2⟩:=k b o h1 h2 h3;have hb:=(Array.getElem?_eq_some_iff.1 h2).1;refine ⟨(t.same b om_).trans k1,?_⟩;show (g.wr b||decide (B≤b))=false;rw [k2];simp;omega
theorem KO.back {L L':Nat→Prop} {W0 w w':World} {g g':G} (hL:∀ b,L' b→L b) (k:KO L W0 g w) (h:∀ b o,¬ L' b→w.heap[b]? = some o→o.isCells=false→w'.heap[b]? = some o):KO L W0 (g'.dn w') w':=fun b o h1 h2 h3=>by
 obtain ⟨k1,k2⟩:=k b o h1 h2 h3;have:=h b o (fun e=>h1 (hL b e)) k1 h3;exact ⟨this,(ac6 (Ext.refl _ _) this h3).2⟩
theorem KO.here {L:Nat→Prop} {w:World} {g:G}:KO L w (g.dn w) w:=fun b o _ h2 h3=>⟨h2,(ac6 (Ext.refl _ _) h2 h3).2⟩
structure YC where
 F:Fence
 ds:List Deferred
 L:G→World→Prop
 E:Exit→Act→World→Prop
 Lo:Nat→Prop
 bd:Nat
def YC.at (y:YC) (X:G→World→Prop):XC:=⟨y.F,y.ds,fun g w=>X g w∧y.L g w,y.E⟩
structure YOk (c:Ctx) (y:YC):Prop where
 fn:∀ f,y.F.fn f
 dp:y.F.depth=none
 cl:∀ k args w R,Calls c.P k args w R→CallsIn y.F (0 - 1) c.P k args w R
 ci:∀ {n k args w R},CallsIn Fence.wide n c.P k args w R→CallsIn y.F n c.P k args w R
 ri:∀ {n l f tmps a b w R},RoundIn Fence.wide n c.P l f tmps a b w R→RoundIn y.F n c.P l f tmps a b w R
 ext:∀ g w g' w',Ext g w g' w'→y.L g w→y.L g' w'
 turn:∀ g W W' B,y.bd≤B→I9 B W W'→(∀ b,W.heap.size≤b→g.lim b=0)→y.L g W→y.L (g.up B) W'
 back:∀ g w g' w',(∀ b,c.g0.wr b=true)→y.L g w→Ext g.free w g' w'→(∀ b o,¬ y.Lo b→w.heap[b]? = some o→o.isCells=false→w'.heap[b]? = some o)→y.L (g'.dn w') w'
 size:∀ g w,y.L g w→y.bd≤w.heap.size
 lo:∀ b,y.Lo b→b<y.bd
structure XSt (bd:Nat) (X:G→World→Prop):Prop where
 ext:∀ g w g' w',Ext g w g' w'→X g w→X g' w'
 turn:∀ g W W' B,bd≤B→I9 B W W'→(∀ b,W.heap.size≤b→g.lim b=0)→X g W→X (g.up B) W'
theorem YOk.x {c:Ctx} {y:YC} (h:YOk c y) {X:G→World→Prop} {bd:Nat} (hX:XSt bd X):XOk c.P (y.at X) :=
 ⟨h.fn,h.dp,h.cl,fun g w g' w' x hh=>⟨hX.ext _ _ _ _ x hh.1,h.ext _ _ _ _ x hh.2⟩⟩
structure Cons where
 l:Nat
 bd:Nat
 L:Nat→Prop
 S:Id→Prop
 base:Id→Prop
 Y:Nat→G→World→H→Prop
 Z:G→World→H→Prop
structure ap3 (C:Cons) (g:G) (W:World) (h:H) (g':G) (W':World) (h':H):Prop where
 ext:Ext g.free W g' W'
 same:∀ id,¬ C.S id→h id≠none→h' id=h id
 obj:∀ b o,¬ C.L b→W.heap[b]? = some o→o.isCells=false→W'.heap[b]? = some o
structure ai4 (P:Program) (env:Nat→Option (List V)) (C:Cons) (vs:List (List V)):Prop where
 sub:∀ id,C.S id→C.base id
 lo:∀ b,C.L b→b<C.bd
 Yext:∀ i g w g' w' h,Ext g w g' w'→C.Y i g w h→C.Y i g' w' h
 Yh:∀ i g w h h',(∀ id,C.base id→h' id=h id)→C.Y i g w h→C.Y i g w h'
 Yt:∀ i g W W' h B,C.bd≤B→I9 B W W'→(∀ b,W.heap.size≤b→g.lim b=0)→C.Y i g W h→C.Y i (g.up B) W' h
 Ybd:∀ i g w h,C.Y i g w h→C.bd≤w.heap.size
 Zext:∀ g w g' w' h,Ext g w g' w'→C.Z g w h→C.Z g' w' h
 Zh:∀ g w h h',(∀ id,C.base id→h' id=h id)→C.Z g w h→C.Z g w h'
 Zt:∀ g W W' h B,C.bd≤B→I9 B W W'→(∀ b,W.heap.size≤b→g.lim b=0)→C.Z g W h→C.Z (g.up B) W' h
 round:∀ i vv (xs:List Value) g W h,vs[i]? = some vv→C.Y i g W h→Rel env g W h→xs.length=vv.length→(∀ (j:Nat) x v,xs[j]? = some x→vv[j]? = some v→RV g W x v) →
  YieldAt Fence.wide (0 - 1) P C.l xs.toArray W fun e W'=>∃ g' h',ap3 C g W h g' W' h'∧Rel env g' W' h'∧((e=.returned (.bool true)∧C.Y (i+1) g' W' h')∨(e=.returned (.bool false)∧C.Z g' W' h'))
def Iter (P:Program) (env:Nat→Option (List V)) (fv:V) (vs:List (List V)):Prop :=
 ∀ g w x,RV g w x fv→∃ gf lb,x=.func (.func gf) #[] lb∧aa3 P gf ∧
  ∀ (C:Cons),ai4 P env C vs→∀ g1 W1 h1,Ext g w g1 W1→Rel env g1 W1 h1→C.Y 0 g1 W1 h1→(∀ id,C.base id→h1 id≠none) →
   CallsIn Fence.wide 0 P gf (#[.func (.yield C.l) #[] #[]]++lb) W1 fun e W'=>(∃ v,e=.returned v)∧∃ g' h',ap3 C g1 W1 h1 g' W' h'∧Rel env g' W' h'∧(C.Y vs.length g' W' h'∨C.Z g' W' h')
def cp7 (y:YC) (W:World) (G0:G) (g:G) (w:World):Prop:=y.L g w∧Ext G0.free W g w∧KO y.Lo W g w
def bP6 (y:YC) (W:World) (G0:G) (l:Nat) (r:Loop) (g:G) (w:World):Prop :=
 y.L g w∧Ext G0.free W g w∧KO (fun b=>b=l∨y.Lo b) W g w∧w.heap[l]? = some (.loop r)∧g.wr l=false
def cn9 (c:Ctx) (y:YC) (W:World) (G0:G) (l:Nat) (E:Exit→Act→World→Prop):YC:=⟨Fence.wide.inRound l,[],cp7 y W G0,E,y.Lo,W.heap.size⟩
def bG6 (c:Ctx) (y:YC) (W:World) (G0:G) (l:Nat) (r:Loop) (E:Exit→Act→World→Prop):YC:=⟨Fence.wide.inRound l,[],bP6 y W G0 l r,E,y.Lo,W.heap.size⟩
theorem bZ8 {c:Ctx} {y:YC} (hy:YOk c y) {W:World} {G0:G} {l:Nat} {E:Exit→Act→World→Prop} (hG:∀ b,W.heap.size≤b→G0.lim b=0) (hbd:y.bd≤W.heap.size):YOk c (cn9 c y W G0 l E) :=
 ⟨fun _=>trivial,rfl,fun k args w R h=>(show CallsIn Fence.wide (0 - 1) c.P k args w R from callsIn_wide.2 h),fun h=>h,fun h=>h,
  fun g w g' w' x ⟨h1,h2,h3⟩=>⟨hy.ext _ _ _ _ x h1,h2.trans x,h3.ext x⟩,
  fun g W1 W2 B hB t hl ⟨h1,h2,h3⟩=>⟨hy.turn _ _ _ _ (Nat.le_trans hbd hB) t hl h1,t.bc7 hG h2,h3.turn hB t⟩,
  fun g w g' w' hf ⟨h1,h2,h3⟩ x ho=>⟨hy.back _ _ _ _ hf h1 x ho,(aK3 h2 aU3 x).trans H4,h3.back (fun _ e=>e) ho⟩,
  fun g w ⟨_,h2,_⟩=>h2.size,fun b hb=>Nat.lt_of_lt_of_le (hy.lo b hb) hbd⟩
theorem ce7 {c:Ctx} {y:YC} (hy:YOk c y) {W:World} {G0:G} {l:Nat} {r:Loop} {E:Exit→Act→World→Prop} (hG:∀ b,W.heap.size≤b→G0.lim b=0) (hbd:y.bd≤W.heap.size) (hl:l<W.heap.size) (hlo:¬ y.Lo l):YOk c (bG6 c y W G0 l r E) :=
 ⟨fun _=>trivial,rfl,fun k args w R h=>(show CallsIn Fence.wide (0 - 1) c.P k args w R from callsIn_wide.2 h),fun h=>h,fun h=>h,
  fun g w g' w' x ⟨h1,h2,h3,h4,h5⟩=>by
   obtain ⟨x1,x2⟩:=x.wr l (Array.getElem?_eq_some_iff.1 h4).1 h5;exact ⟨hy.ext _ _ _ _ x h1,h2.trans x,h3.ext x,x1.trans h4,x2⟩,
  fun g W1 W2 B hB t hz ⟨h1,h2,h3,h4,h5⟩=>by
   have hB':W.heap.size≤B:=hB;exact ⟨hy.turn _ _ _ _ (Nat.le_trans hbd hB) t hz h1,t.bc7 hG h2,h3.turn hB t,(t.same l om_).trans h4,by show (g.wr l||decide (B≤l))=false;rw [h5];simp;omega⟩,
  fun g w g' w' hf ⟨h1,h2,h3,h4,h5⟩ x ho=>by
   have e:=ho l _ hlo h4 rfl;exact ⟨hy.back _ _ _ _ hf h1 x ho,(aK3 h2 aU3 x).trans H4,h3.back (fun _ e=>.inr e) ho,e,(ac6 (Ext.refl _ _) e rfl).2⟩,
  fun g w ⟨_,h2,_⟩=>h2.size,fun b hb=>Nat.lt_of_lt_of_le (hy.lo b hb) hbd⟩
section
variable {c:Ctx} {y:YC} (hy:YOk c y) {σ:St} {ps:List Nat} {vs:List (List V)} {assign body:Code} {gen:Nat}
 (hps:∀ p∈ps,p<c.n) (hvv:∀ v∈vs,v.length=ps.length)
 (S:Id→Prop) (hS:∀ id,S id→σ.h id≠none)
 (J:Nat→(G→World→Prop)→H→Prop) (Jx:Option Nat→(G→World→Prop)→H→Prop)
 (hJX:∀ i X h,J i X h→XSt y.bd X) (aX2:∀ i X h,Jx i X h→XSt y.bd X)
 (hJh:∀ i X h h',(∀ id,σ.h id≠none→h' id=h id)→J i X h→J i X h') (cd2:∀ i X h h',(∀ id,σ.h id≠none→h' id=h id)→Jx i X h→Jx i X h')
 (N3:∀ b,c.w0.heap.size≤b→c.g0.lim b=0)
 (af3:∀ (ya yb:YC) (gn i:Nat) (vv:List V) (hi:H) (X:G→World→Prop),YOk c ya→YOk c yb→(∃ l,ya.F=Fence.wide.inRound l∧yb.F=Fence.wide.inRound l∧∀ g w,yb.L g w→∃ r,w.heap[l]? = some (.loop r)) →
   ya.ds=[]→yb.ds=[]→ya.Lo=y.Lo→yb.Lo=y.Lo→XSt y.bd X→ya.bd=yb.bd→y.bd≤ya.bd→gen≤gn→vs[i]? = some vv→J i X hi→(∀ id,σ.h id≠none→hi id≠none) →
   (∀ X' σ' gn',XSt y.bd X'→ARX c (yb.at X') gn' [.code body] .normal σ'→ARX c (ya.at X') gn' [] .normal σ') →
   (∀ X' gn' σ',J (i+1) X' σ'.h→(∀ id,¬ S id→hi id≠none→σ'.h id=hi id)→ARX c (yb.at X') gn' [] .normal σ') →
   (∀ X' gn' id σ',Jx id X' σ'.h→(∀ id,¬ S id→hi id≠none→σ'.h id=hi id)→ARX c (yb.at X') gn' [] (ae4 id) σ') →
   ARX c (ya.at X) gn [.code assign] .normal ⟨ax5 σ.tm ps vv,hi⟩)
include hy hps hvv hS hJX aX2 hJh cd2 N3 af3
theorem bh0 {g:G} {a:Act} {w W1:World} {l:Nat} {rec:LoopState→Option Code→Loop} (hx:Ext c.g0 c.w0 g w) {X0:G→World→Prop} (hX:X0 g w) (hL:y.L g w) (r:K1 c.env c.n g w a σ)
  (h0:J 0 X0 σ.h) {gf:Nat} {lb:Array Value}
  (hgo:∀ (C:Cons),ai4 c.P c.env C vs→∀ g1 W1 h1,Ext g w g1 W1→Rel c.env g1 W1 h1→C.Y 0 g1 W1 h1→(∀ id,C.base id→h1 id≠none) →
   CallsIn Fence.wide 0 c.P gf (#[.func (.yield C.l) #[] #[]]++lb) W1 fun e W'=>(∃ v,e=.returned v)∧∃ g' h',ap3 C g1 W1 h1 g' W' h'∧Rel c.env g' W' h'∧(C.Y vs.length g' W' h'∨C.Z g' W' h'))
  (ht:I9 w.heap.size w W1) (hl:W1.heap[l]? = some (.loop (rec .ready none))) (hwl:w.heap.size≤l)
  (X8:∃ fn df,rec=fun st pe=>{ state:=st,pending:=pe,fn,tmps:=a.tmps,params:=ps.toArray,assign,body,defers:=df }) :
  CallsIn Fence.wide 0 c.P gf (#[.func (.yield l) #[] #[]]++lb) W1 fun e W2=>(∃ v,e=.returned v)∧∃ g' h' X',X' g' W2∧y.L g' W2∧Ext c.g0 c.w0 g' W2∧Ext g.free w g' W2∧Rel c.env g' W2 h' ∧
   (∀ id,¬ S id→σ.h id≠none→h' id=σ.h id)∧(∀ b o,¬ (b=l∨y.Lo b)→W1.heap[b]? = some o→o.isCells=false→W2.heap[b]? = some o) ∧
   ((J vs.length X' h'∧W2.heap[l]? = some (.loop (rec .ready none)))∨∃ id,Jx id X' h'∧W2.heap[l]? = some (.loop (rec .done (some (aQ6 id))))):=by
 obtain ⟨fn,df,X8⟩:=X8;have hbl:y.bd≤l:=Nat.le_trans (hy.size g w hL) hwl;have hcl:c.w0.heap.size≤l:=Nat.le_trans hx.size hwl;have aH5:∀ b,w.heap.size≤b→g.lim b=0:=r.rel.C4;have hnl:¬ y.Lo l:=fun h=>by have:=hy.lo l h;omega
 have bd6:a.defers=[]:=r.defers;obtain ⟨C,hC⟩:∃ C:Cons,C=⟨l,l+1,fun b=>b=l∨y.Lo b,S,fun id=>σ.h id≠none,
   fun i G W H=>∃ X',J i X' H∧X' G W∧y.L G W∧Ext c.g0 c.w0 G W∧Ext g.free w G W∧W.heap[l]? = some (.loop (rec .ready none))∧G.wr l=false,
   fun G W H=>∃ X' id,Jx id X' H∧X' G W∧y.L G W∧Ext c.g0 c.w0 G W∧Ext g.free w G W∧W.heap[l]? = some (.loop (rec .done (some (aQ6 id))))∧G.wr l=false⟩:=⟨_,rfl⟩
 have wrl:∀ {G:G} {B:Nat},G.wr l=false→l+1≤B→(G.up B).wr l=false:=fun {G B} h hB=>by
  show (G.wr l||decide (B≤l))=false;rw [h];simp;omega
 have hok:ai4 c.P c.env C vs:=by
  subst hC;refine ⟨hS,fun b h=>?_,?_,?_,?_,?_,?_,?_,?_,?_⟩
  ·rcases h with rfl|h
   ·show b<b+1;omega
   ·have:=hy.lo b h;show b<l+1;omega
  ·rintro i G W G' W' H x ⟨X',j1,j2,j3,j4,j5,j6,j7⟩
   obtain ⟨x1,x2⟩:=x.wr l (Array.getElem?_eq_some_iff.1 j6).1 j7;exact ⟨X',j1,(hJX _ _ _ j1).ext _ _ _ _ x j2,hy.ext _ _ _ _ x j3,j4.trans x,j5.trans x,x1.trans j6,x2⟩
  ·rintro i G W H H' e ⟨X',j1,j⟩
   exact ⟨X',hJh _ _ _ _ e j1,j⟩
  ·rintro i G W W' H B hB t hz ⟨X',j1,j2,j3,j4,j5,j6,j7⟩
   have hB':l+1≤B:=hB;exact ⟨X',j1,(hJX _ _ _ j1).turn _ _ _ _ om_ t hz j2,hy.turn _ _ _ _ om_ t hz j3,t.ext om_ N3 j4,t.bc7 aH5 j5,(t.same l om_).trans j6,wrl j7 hB'⟩
  ·rintro i G W H ⟨X',_,_,_,_,_,j6,_⟩
   exact (Array.getElem?_eq_some_iff.1 j6).1
  ·rintro G W G' W' H x ⟨X',id,j1,j2,j3,j4,j5,j6,j7⟩
   obtain ⟨x1,x2⟩:=x.wr l (Array.getElem?_eq_some_iff.1 j6).1 j7;exact ⟨X',id,j1,(aX2 _ _ _ j1).ext _ _ _ _ x j2,hy.ext _ _ _ _ x j3,j4.trans x,j5.trans x,x1.trans j6,x2⟩
  ·rintro G W H H' e ⟨X',id,j1,j⟩
   exact ⟨X',id,cd2 _ _ _ _ e j1,j⟩
  ·rintro G W W' H B hB t hz ⟨X',id,j1,j2,j3,j4,j5,j6,j7⟩
   have hB':l+1≤B:=hB;exact ⟨X',id,j1,(aX2 _ _ _ j1).turn _ _ _ _ om_ t hz j2,hy.turn _ _ _ _ om_ t hz j3,t.ext om_ N3 j4,t.bc7 aH5 j5,(t.same l om_).trans j6,wrl j7 hB'⟩
  ·
   rintro i vv xs G W hh hi ⟨X',j1,j2,j3,j4,j5,j6,j7⟩ q hlen hrv;have hvl:=hvv vv (List.mem_of_getElem? hi);have hyl:=run_yield (P:=c.P) (args:=xs.toArray) j6 (by rw [X8];simp;omega);have hsz:l<W.heap.size:=(Array.getElem?_eq_some_iff.1 j6).1;refine ⟨(rec .ready none).fn,_,(rec .ready none).assign,(rec .ready none).body,hyl,roundIn_of_wpIn trivial ?_⟩;clear hyl;obtain ⟨busy,bO1⟩:∃ busy:Loop,busy={ rec .ready none with state:=.busy }:=⟨_,rfl⟩;obtain ⟨Eb,hEb⟩:∃ Eb:Exit→Act→World→Prop,Eb=fun e a w'=>∃ g' h' X'',X'' g' w'∧bP6 y W G l busy g' w'∧Ext c.g0 c.w0 g' w'∧Rel c.env g' w' h'∧(∀ id,¬ S id→hh id≠none→h' id=hh id) ∧
    (match e with | .normal=>J (i+1) X'' h' | .exit id=>Jx (some id) X'' h' | .ret=>Jx none X'' h'|_=>False):=⟨_,rfl⟩
   obtain ⟨Ea,hEa⟩:∃ Ea:Exit→Act→World→Prop,Ea=fun e a w'=>e=.normal∧∃ g' σ' X'' gn',XSt y.bd X''∧X'' g' w'∧cp7 y W G g' w'∧Ext c.g0 c.w0 g' w'∧P4 [] c.env c.n g' w' a σ' ∧
    ARX c ((bG6 c y W G l busy Eb).at X'') gn' [.code body] .normal σ':=⟨_,rfl⟩
   have hbn:∀ id,σ.h id≠none→hh id≠none:=fun id hid=>(q.dom id).1 (j5.dom id ((r.rel.dom id).2 hid)).1;have h1:=af3 (cn9 c y W G l Ea) (bG6 c y W G l busy Eb) gen i vv hh X' (bZ8 hy q.C4 om_) (ce7 hy q.C4 om_ hsz hnl) ⟨l,rfl,rfl,fun g w h=>⟨_,h.2.2.2.1⟩⟩
    rfl rfl rfl rfl (hJX _ _ _ j1) rfl (by show y.bd≤W.heap.size;omega) (Nat.le_refl _) hi j1 hbn
    (fun X'' σ' gn' hXS h g' a' w' hx' hX' r'=>by
     show Ea .normal a' w';rw [hEa];exact ⟨rfl,g',σ',X'',gn',hXS,hX'.1,hX'.2,hx',r',h⟩)
    (fun X'' gn' σ' hJ hs g' a' w' hx' hX' r'=>by
     show Eb .normal a' w';rw [hEb];exact ⟨g',σ'.h,X'',hX'.1,hX'.2,hx',r'.1.rel,hs,hJ⟩)
    (fun X'' gn' id σ' hJ hs g' a' w' hx' hX' r'=>by
     show Eb (ae4 id) a' w';rw [hEb];cases id<;>exact ⟨g',σ'.h,X'',hX'.1,hX'.2,hx',r'.1.rel,hs,hJ⟩)
   have hst:P4 [] c.env c.n (G.dn W) W { tmps:=(ps.zip xs).foldl (fun tmps (t,a)=>tmps.setIfInBounds t a) a.tmps,defers:=[] } ⟨ax5 σ.tm ps vv,hh⟩:=by
    have s0:K1 c.env c.n (G.dn W) W a ⟨σ.tm,hh⟩:=⟨q.dn,fun t=>((r.tm t).wrs _).mono (j5.trans H4),r.size,bd6⟩;have s1:=K1.cS7 ps xs vv s0 hps om_ (fun j x v hx hv=>(hrv j x v hx hv).mono H4) hvl;rw [bd6] at s1;exact P4.of s1
   have h2:=h1 _ _ W (j4.trans H4) ⟨(hJX _ _ _ j1).ext _ _ _ _ H4 j2,hy.ext _ _ _ _ H4 j3,aj0 H4,KO.here⟩ hst;have etm:(((rec .ready none).params.zip xs.toArray).foldl (fun tmps (t,a)=>tmps.setIfInBounds t a) (rec .ready none).tmps)=(ps.zip xs).foldl (fun tmps (t,a)=>tmps.setIfInBounds t a) a.tmps:=by
    rw [X8];simp
   have eas:(rec .ready none).assign=assign:=by rw [X8]
   have ebo:(rec .ready none).body=body:=by rw [X8]
   rw [etm,eas,ebo];refine wpIn_mono (show assign.wpIn (Fence.wide.inRound l) 0 c.P _ _ _ from h2) ?_;intro e a1 w1 hp;have hp':Ea e a1 w1:=by cases e<;>exact hp
   rw [hEa] at hp';obtain ⟨rfl,g1,σ1,X1,gn',hXS,hX1,⟨k1,k2,k3⟩,hx1,r1,cq3⟩:=hp';have e1:w1.heap[l]? = some (.loop (rec .ready none)):=(k3 l _ hnl j6 rfl).1;refine ⟨_,run_beginRound e1 (by rw [X8]),?_⟩;rw [← bO1];have t:I9 l w1 (w1.putObj l (.loop busy)):=W9 (Nat.le_refl _) e1 rfl rfl;have hl1:l<w1.heap.size:=(Array.getElem?_eq_some_iff.1 e1).1;have l3:(w1.putObj l (.loop busy)).heap[l]? = some (.loop busy):=World.putObj_heap_same hl1;have r1':=r1.st;have cW5:P4 [] c.env c.n ((g1.up l).dn (w1.putObj l (.loop busy))) (w1.putObj l (.loop busy)) a1 σ1 :=
    P4.of ⟨(t.rel r1'.rel).dn,fun t'=>(((r1'.tm t').wrs _).mono (t.here r1'.rel.C4)).mono H4,r1'.size,r1'.defers⟩
   have h4:=cq3 _ a1 _ ((t.ext hcl N3 hx1).trans H4) ⟨hXS.ext _ _ _ _ H4 (hXS.turn _ _ _ _ hbl t r1'.rel.C4 hX1),hy.ext _ _ _ _ H4 (hy.turn _ _ _ _ hbl t r1'.rel.C4 k1),(t.bc7 q.C4 k2).trans H4,
    (fun b o hb h2 h3=>by
     have hb':b≠l∧¬ y.Lo b:=⟨fun e=>hb (.inl e),fun e=>hb (.inr e)⟩;have:(w1.putObj l (.loop busy)).heap[b]? = some o:=(World.putObj_heap_other hb'.1).trans (k3 b o hb'.2 h2 h3).1;exact ⟨this,(ac6 (Ext.refl _ _) this h3).2⟩),l3,(ac6 (Ext.refl _ _) l3 rfl).2⟩ cW5
   refine wpIn_mono (show body.wpIn (Fence.wide.inRound l) 0 c.P _ _ _ from h4) ?_;intro e a4 w4 hp4;have cF2:Eb e a4 w4:=by cases e<;>exact hp4
   rw [hEb] at cF2;obtain ⟨g4,h4',X4,y0,⟨z1,z2,z3,z4,z5⟩,zx,q4,hs4,hJ4⟩:=cF2;have hl4:l<w4.heap.size:=(Array.getElem?_eq_some_iff.1 z4).1;have fin:∀ (jump:Option Code) (rr:Loop),rr={ busy with state:=if jump.isNone then .ready else .done,pending:=jump }→XSt y.bd X4 →
     (Instr.endRound l jump).run c.P w4=.ok (.bool jump.isNone) (w4.putObj l (.loop rr)) ∧
     ap3 ⟨l,l+1,fun b=>b=l∨y.Lo b,S,fun id=>σ.h id≠none,
      fun i G W H=>∃ X',J i X' H∧X' G W∧y.L G W∧Ext c.g0 c.w0 G W∧Ext g.free w G W∧W.heap[l]? = some (.loop (rec .ready none))∧G.wr l=false,
      fun G W H=>∃ X' id,Jx id X' H∧X' G W∧y.L G W∧Ext c.g0 c.w0 G W∧Ext g.free w G W∧W.heap[l]? = some (.loop (rec .done (some (aQ6 id))))∧G.wr l=false⟩ G W hh ((g4.up l).dn (w4.putObj l (.loop rr))) (w4.putObj l (.loop rr)) h4' ∧
     Rel c.env ((g4.up l).dn (w4.putObj l (.loop rr))) (w4.putObj l (.loop rr)) h4' ∧
     X4 ((g4.up l).dn (w4.putObj l (.loop rr))) (w4.putObj l (.loop rr))∧y.L ((g4.up l).dn (w4.putObj l (.loop rr))) (w4.putObj l (.loop rr)) ∧
     Ext c.g0 c.w0 ((g4.up l).dn (w4.putObj l (.loop rr))) (w4.putObj l (.loop rr))∧Ext g.free w ((g4.up l).dn (w4.putObj l (.loop rr))) (w4.putObj l (.loop rr)) ∧
     (w4.putObj l (.loop rr)).heap[l]? = some (.loop rr)∧((g4.up l).dn (w4.putObj l (.loop rr))).wr l=false:=by
    intro jump rr hrr da7;have t4:I9 l w4 (w4.putObj l (.loop rr)):=W9 (Nat.le_refl _) z4 rfl rfl;have l5:(w4.putObj l (.loop rr)).heap[l]? = some (.loop rr):=World.putObj_heap_same hl4;have x5:Ext G.free W ((g4.up l).dn (w4.putObj l (.loop rr))) (w4.putObj l (.loop rr)):=(t4.bc7 q.C4 z2).trans H4;refine ⟨?_,⟨x5,hs4,fun b o hb h2 h3=>?_⟩,(t4.rel q4).dn,da7.ext _ _ _ _ H4 (da7.turn _ _ _ _ hbl t4 q4.C4 y0),hy.ext _ _ _ _ H4 (hy.turn _ _ _ _ hbl t4 q4.C4 z1),
     (t4.ext hcl N3 zx).trans H4,aK3 j5 aU3 x5,l5,(ac6 (Ext.refl _ _) l5 rfl).2⟩
    ·rw [hrr];exact run_endRound jump z4
    ·have hb':b≠l:=fun e=>hb (.inl e)
     exact (World.putObj_heap_other hb').trans (z3 b o hb h2 h3).1
   cases e with
   | normal =>
    obtain ⟨f1,f2,f3,f4,f5,f6,f7,f8,f9⟩:=fin none (rec .ready none) (by rw [bO1,X8];rfl) (hJX _ _ _ hJ4);exact ⟨_,_,f1,_,h4',f2,f3,.inl ⟨rfl,X4,hJ4,f4,f5,f6,f7,f8,f9⟩⟩
   | exit id =>
    obtain ⟨f1,f2,f3,f4,f5,f6,f7,f8,f9⟩:=fin (some (.exit id)) (rec .done (some (.exit id))) (by rw [bO1,X8];rfl) (aX2 _ _ _ hJ4);exact ⟨_,_,f1,_,h4',f2,f3,.inr ⟨rfl,X4,some id,hJ4,f4,f5,f6,f7,f8,f9⟩⟩
   | ret =>
    obtain ⟨f1,f2,f3,f4,f5,f6,f7,f8,f9⟩:=fin (some .ret) (rec .done (some .ret)) (by rw [bO1,X8];rfl) (aX2 _ _ _ hJ4);exact ⟨_,_,f1,_,h4',f2,f3,.inr ⟨rfl,X4,none,hJ4,f4,f5,f6,f7,f8,f9⟩⟩
   | goto t=>exact hJ4.elim
   | panic ch=>exact hJ4.elim
   | outgrown=>exact hJ4.elim
 have cY0:=hJX _ _ _ h0;have hbw:y.bd≤w.heap.size:=hy.size g w hL;have t:=ht;have q1:Rel c.env ((g.up w.heap.size).dn W1) W1 σ.h:=(t.rel r.rel).dn;have x1:Ext g w ((g.up w.heap.size).dn W1) W1:=(t.ext (Nat.le_refl _) aH5 (Ext.refl g w)).trans H4;have hY0:C.Y 0 ((g.up w.heap.size).dn W1) W1 σ.h:=by
  subst hC;exact ⟨X0,h0,cY0.ext _ _ _ _ H4 (cY0.turn _ _ _ _ hbw t aH5 hX),hy.ext _ _ _ _ H4 (hy.turn _ _ _ _ hbw t aH5 hL),hx.trans x1,aj0 x1,hl,(ac6 (Ext.refl _ _) hl rfl).2⟩
 have:=hgo C hok _ W1 σ.h x1 q1 hY0 (by subst hC;exact fun id h=>h);subst hC;refine this.mono ?_;rintro e W2 ⟨hv,g',h',⟨a1,a2,a3⟩,q2,ak2⟩;refine ⟨hv,g',h',?_⟩;rcases ak2 with ⟨X',j1,j2,j3,j4,j5,j6,j7⟩|⟨X',id,j1,j2,j3,j4,j5,j6,j7⟩
 ·exact ⟨X',j2,j3,j4,j5,q2,a2,a3,.inl ⟨j1,j6⟩⟩
 ·exact ⟨X',j2,j3,j4,j5,q2,a2,a3,.inr ⟨id,j1,j6⟩⟩
end
end GoAbs
set_option maxHeartbeats 400000
namespace GoAbs
open Go
def YC.mk1 (y:YC) (D:Nat):YC:=⟨y.F,[aL4 D],fun g w=>y.L g w∧w.heap[D]? = some (.deferred (some []))∧g.wr D=false,y.E,y.Lo,D+1⟩
theorem cn5 {c:Ctx} {y:YC} (hy:YOk c y) {D:Nat} (hD:y.bd≤D):YOk c (y.mk1 D) :=
 ⟨hy.fn,hy.dp,hy.cl,hy.ci,hy.ri,
  fun g w g' w' x ⟨h1,h2,h3⟩=>by
   obtain ⟨x1,x2⟩:=x.wr D (Array.getElem?_eq_some_iff.1 h2).1 h3;exact ⟨hy.ext _ _ _ _ x h1,x1.trans h2,x2⟩,
  fun g W W' B hB t hz ⟨h1,h2,h3⟩=>by
   have hB':D+1≤B:=hB;exact ⟨hy.turn _ _ _ _ om_ t hz h1,(t.same D om_).trans h2,by show (g.wr D||decide (B≤D))=false;rw [h3];simp;omega⟩,
  fun g w g' w' hf ⟨h1,h2,h3⟩ x ho=>by
   have e:=ho D _ (fun h=>by have:=hy.lo D h;omega) h2 rfl;exact ⟨hy.back _ _ _ _ hf h1 x ho,e,(ac6 (Ext.refl _ _) e rfl).2⟩,
  fun g w ⟨_,h2,_⟩=>(Array.getElem?_eq_some_iff.1 h2).1,
  fun b hb=>by have:=hy.lo b hb;show b<D+1;omega⟩
section
variable {c:Ctx} {y:YC} (hy:YOk c y) {σ:St} {ps:List Nat} {vs:List (List V)} {assign body:Code} {gen:Nat}
 (hps:∀ p∈ps,p<c.n) (hvv:∀ v∈vs,v.length=ps.length)
 (S:Id→Prop) (hS:∀ id,S id→σ.h id≠none)
 (J:Nat→(G→World→Prop)→H→Prop) (Jx:Option Nat→(G→World→Prop)→H→Prop)
 (hJX:∀ i X h,J i X h→XSt y.bd X) (aX2:∀ i X h,Jx i X h→XSt y.bd X)
 (hJh:∀ i X h h',(∀ id,σ.h id≠none→h' id=h id)→J i X h→J i X h') (cd2:∀ i X h h',(∀ id,σ.h id≠none→h' id=h id)→Jx i X h→Jx i X h')
 (N3:∀ b,c.w0.heap.size≤b→c.g0.lim b=0)
 (af3:∀ (ya yb:YC) (gn i:Nat) (vv:List V) (hi:H) (X:G→World→Prop),YOk c ya→YOk c yb→(∃ l,ya.F=Fence.wide.inRound l∧yb.F=Fence.wide.inRound l∧∀ g w,yb.L g w→∃ r,w.heap[l]? = some (.loop r)) →
   ya.ds=[]→yb.ds=[]→ya.Lo=y.Lo→yb.Lo=y.Lo→XSt y.bd X→ya.bd=yb.bd→y.bd≤ya.bd→gen≤gn→vs[i]? = some vv→J i X hi→(∀ id,σ.h id≠none→hi id≠none) →
   (∀ X' σ' gn',XSt y.bd X'→ARX c (yb.at X') gn' [.code body] .normal σ'→ARX c (ya.at X') gn' [] .normal σ') →
   (∀ X' gn' σ',J (i+1) X' σ'.h→(∀ id,¬ S id→hi id≠none→σ'.h id=hi id)→ARX c (yb.at X') gn' [] .normal σ') →
   (∀ X' gn' id σ',Jx id X' σ'.h→(∀ id,¬ S id→hi id≠none→σ'.h id=hi id)→ARX c (yb.at X') gn' [] (ae4 id) σ') →
   ARX c (ya.at X) gn [.code assign] .normal ⟨ax5 σ.tm ps vv,hi⟩)
 {f:Nat} {k:List It} (hit:Iter c.P c.env (σ.tm f) vs) {X0:G→World→Prop} (h0:J 0 X0 σ.h)
include hy hps hvv hS hJX aX2 hJh cd2 N3 af3 hit h0
theorem am6 (hF:y.F=Fence.wide) (hds:y.ds=[])
  (az0:∀ D X' h',y.bd≤D→YOk c (y.mk1 D)→J vs.length X' h'→(∀ id,¬ S id→σ.h id≠none→h' id=σ.h id)→ARX c ((y.mk1 D).at X') gen k .normal ⟨σ.tm,h'⟩)
  (ay1:∀ D id X' h',y.bd≤D→YOk c (y.mk1 D)→Jx id X' h'→(∀ id,¬ S id→σ.h id≠none→h' id=σ.h id)→ARX c ((y.mk1 D).at X') gen k (ae4 id) ⟨σ.tm,h'⟩) :
  ARX c (y.at X0) gen (.code (.rangeFunc (.tmp f) ps.toArray assign body)::k) .normal σ:=by
 intro g a w hx hX r0;obtain ⟨hX,hL⟩:=hX;have r:K1 c.env c.n g w a σ:=by
  have:P4 [] c.env c.n g w a σ:=by rw [← hds];exact r0
  exact this.st
 obtain ⟨gf,lb,hev,⟨fn0,hc1,hc2,hc3⟩,hgo⟩:=hit g w _ (r.tm f)
 have cr8 : ¬ (fn0.name = "runtime.NumGoroutine") := by simpa using hc3
 have cr9:fn0.body≠none:=by intro e;simp [e] at hc2
 have bd6:a.defers=[]:=r.defers;have aH5:∀ b,w.heap.size≤b→g.lim b=0:=r.rel.C4;show (Code.rangeFunc (.tmp f) ps.toArray assign body).wpIn y.F 0 c.P (U0 c.P y.F y.E k) a w;refine wpIn_rangeFunc ?_;intro fn hfn;obtain ⟨D,hD⟩:∃ D,w.heap.size=D:=⟨_,rfl⟩;obtain ⟨rec,X8⟩:∃ rec:LoopState→Option Code→Loop,rec=fun st pe=>{ state:=st,pending:=pe,fn,tmps:=a.tmps,params:=ps.toArray,assign,body,defers:=D }:=⟨_,rfl⟩;obtain ⟨W1,hW1⟩:∃ W1,(w.alloc (.deferred (some []))).alloc (.loop (rec .ready none))=W1:=⟨_,rfl⟩;have hbD:y.bd≤D:=by rw [← hD];exact hy.size g w hL
 have hcD:c.w0.heap.size≤D:=by rw [← hD];exact hx.size
 have hdW:W1.heap[D]? = some (.deferred (some [])):=by
  rw [← hW1];refine (Go.RowKit.Below.heap_alloc _ _ _ (by simp;omega)).trans ?_;rw [← hD];exact World.alloc_heap_new w _
 have hlW:W1.heap[D+1]? = some (.loop (rec .ready none)):=by
  rw [← hW1];have:=World.alloc_heap_new (w.alloc (.deferred (some []))) (.loop (rec .ready none));rwa [World.size_alloc,hD] at this
 have tW:I9 w.heap.size w W1:=by
  rw [← hW1];have t1:I9 w.heap.size w (w.alloc (.deferred (some []))):=W8 (Nat.le_refl _);have t2:I9 w.heap.size (w.alloc (.deferred (some []))) ((w.alloc (.deferred (some []))).alloc (.loop (rec .ready none))):=W8 sp_;exact ⟨Nat.le_trans t1.size t2.size,t2.os.trans t1.os,t2.tape.trans t1.tape,t2.output.trans t1.output,fun b hb=>(t2.same b hb).trans (t1.same b hb),
   fun b o hb=>(t2.cell b o (by simp;omega)).trans (t1.cell b o hb),fun b vs ty h=>t2.ak5 _ _ _ (t1.ak5 _ _ _ h)⟩
 have core:=bh0 hy hps hvv S hS J Jx hJX aX2 hJh cd2 N3 af3 hx hX hL r h0 hgo tW hlW om_ ⟨fn,D,X8⟩;refine ⟨D+1,[aL4 D],W1,{ target:=.fn (.func gf) lb,args:=#[.func (.yield (D+1)) #[] #[]] },W1,gf,
  #[.func (.yield (D+1)) #[] #[]]++lb,W1,?_,?_,fun _ _=>hy.fn _,?_,?_,?_⟩
 ·rw [← hW1,X8,← hD,hF];exact run_enterLoop_outer _ _ _ _ _
 ·have he:a.eval (.tmp f)=.func (.func gf) #[] lb:=hev
  simp only [resolve,he];simp [go_sem,Deferred.ofValue,Act.eval]
 ·simp [invoke,callFunc,hc1,cr9,cr8]
 ·intro h;rw [hy.dp] at h;simp at h
 ·refine hy.ci (n:=0) (core.mono ?_)
  rintro e W2 ⟨⟨v,rfl⟩,gi,hi,X',e1,e2,e3,e4,q,hs,hob,ak2⟩;have hdf:W2.heap[D]? = some (.deferred (some [])):=hob D _ (by rintro (h|h);omega;have:=hy.lo D h;omega) hdW rfl;have tail:∀ rr:Loop,W2.heap[D+1]? = some (.loop rr)→rr.state≠.busy→XSt y.bd X' →
    ∃ g5 w5,(Instr.endLoop (D+1)).run c.P W2=.ok rr.pending w5∧Ext c.g0 c.w0 g5 w5∧((y.mk1 D).at X').X g5 w5∧P4 [aL4 D] c.env c.n g5 w5 { a with defers:=[aL4 D]++a.defers } ⟨σ.tm,hi⟩:=by
   intro rr hlp hst hXS;have t5:I9 (D+1) W2 (W2.putObj (D+1) (.loop { rr with state:=.exhausted })):=W9 (Nat.le_refl _) hlp rfl rfl;have d5:(W2.putObj (D+1) (.loop { rr with state:=.exhausted })).heap[D]? = some (.deferred (some [])):=(World.putObj_heap_other om_).trans hdf;refine ⟨_,_,run_endLoop hlp hst,(t5.ext om_ N3 e3).trans H4,⟨hXS.ext _ _ _ _ H4 (hXS.turn _ _ _ _ om_ t5 q.C4 e1),hy.ext _ _ _ _ H4 (hy.turn _ _ _ _ om_ t5 q.C4 e2),d5,(ac6 (Ext.refl _ _) d5 rfl).2⟩,
    ⟨⟨(t5.rel q).dn,fun t'=>((r.tm t').wrs _).mono ((t5.bc7 aH5 e4).trans H4),r.size,rfl⟩,by simp [bd6]⟩⟩
  rcases ak2 with ⟨hJ,hlp⟩|⟨id,hJ,hlp⟩
  ·obtain ⟨g5,w5,f1,f2,f3,f4⟩:=tail _ hlp (by rw [X8];simp) (hJX _ _ _ hJ)
   exact ⟨none,w5,by rw [f1,X8],az0 D X' hi hbD (cn5 hy hbD) hJ hs g5 _ w5 f2 f3 f4⟩
  ·obtain ⟨g5,w5,f1,f2,f3,f4⟩:=tail _ hlp (by rw [X8];simp) (aX2 _ _ _ hJ)
   refine ⟨some (aQ6 id),w5,by rw [f1,X8],?_⟩;have:=ay1 D id X' hi hbD (cn5 hy hbD) hJ hs g5 _ w5 f2 f3 f4;cases id with
   | some id=>exact wpIn_exit this
   | none=>exact wpIn_ret this
theorem bg4 {l0:Nat} (hF:y.F.round=some l0) (hl0:∀ g w,y.L g w→∃ r,w.heap[l0]? = some (.loop r)) (hds:y.ds=[])
  (az0:∀ X' h',J vs.length X' h'→(∀ id,¬ S id→σ.h id≠none→h' id=σ.h id)→ARX c (y.at X') gen k .normal ⟨σ.tm,h'⟩)
  (ay1:∀ id X' h',Jx id X' h'→(∀ id,¬ S id→σ.h id≠none→h' id=σ.h id)→ARX c (y.at X') gen k (ae4 id) ⟨σ.tm,h'⟩) :
  ARX c (y.at X0) gen (.code (.rangeFunc (.tmp f) ps.toArray assign body)::k) .normal σ:=by
 intro g a w hx hX r0;obtain ⟨hX,hL⟩:=hX;have r:K1 c.env c.n g w a σ:=by
  have:P4 [] c.env c.n g w a σ:=by rw [← hds];exact r0
  exact this.st
 obtain ⟨gf,lb,hev,⟨fn0,hc1,hc2,hc3⟩,hgo⟩:=hit g w _ (r.tm f)
 have cr8 : ¬ (fn0.name = "runtime.NumGoroutine") := by simpa using hc3
 have cr9:fn0.body≠none:=by intro e;simp [e] at hc2
 have bd6:a.defers=[]:=r.defers;have aH5:∀ b,w.heap.size≤b→g.lim b=0:=r.rel.C4;obtain ⟨r1,hr1⟩:=hl0 g w hL;show (Code.rangeFunc (.tmp f) ps.toArray assign body).wpIn y.F 0 c.P (U0 c.P y.F y.E k) a w;refine wpIn_rangeFunc ?_;intro fn hfn;obtain ⟨D,hD⟩:∃ D,w.heap.size=D:=⟨_,rfl⟩;obtain ⟨rec,X8⟩:∃ rec:LoopState→Option Code→Loop,rec=fun st pe=>{ state:=st,pending:=pe,fn,tmps:=a.tmps,params:=ps.toArray,assign,body,defers:=r1.defers }:=⟨_,rfl⟩;obtain ⟨W1,hW1⟩:∃ W1,w.alloc (.loop (rec .ready none))=W1:=⟨_,rfl⟩;have hbD:y.bd≤D:=by rw [← hD];exact hy.size g w hL
 have hcD:c.w0.heap.size≤D:=by rw [← hD];exact hx.size
 have hlW:W1.heap[D]? = some (.loop (rec .ready none)):=by
  rw [← hW1,← hD];exact World.alloc_heap_new w _
 have tW:I9 w.heap.size w W1:=by rw [← hW1];exact W8 (Nat.le_refl _)
 have core:=bh0 hy hps hvv S hS J Jx hJX aX2 hJh cd2 N3 af3 hx hX hL r h0 hgo tW hlW om_ ⟨fn,r1.defers,X8⟩;refine ⟨D,[],W1,{ target:=.fn (.func gf) lb,args:=#[.func (.yield D) #[] #[]] },W1,gf,
  #[.func (.yield D) #[] #[]]++lb,W1,?_,?_,fun _ _=>hy.fn _,?_,?_,?_⟩
 ·rw [← hW1,X8,← hD,hF];exact run_enterLoop_inner hr1 _ _ _ _ _
 ·have he:a.eval (.tmp f)=.func (.func gf) #[] lb:=hev
  simp only [resolve,he];simp [go_sem,Deferred.ofValue,Act.eval]
 ·simp [invoke,callFunc,hc1,cr9,cr8]
 ·intro h;rw [hy.dp] at h;simp at h
 ·refine hy.ci (n:=0) (core.mono ?_)
  rintro e W2 ⟨⟨v,rfl⟩,gi,hi,X',e1,e2,e3,e4,q,hs,hob,ak2⟩;have tail:∀ rr:Loop,W2.heap[D]? = some (.loop rr)→rr.state≠.busy→XSt y.bd X' →
    ∃ g5 w5,(Instr.endLoop D).run c.P W2=.ok rr.pending w5∧Ext c.g0 c.w0 g5 w5∧(y.at X').X g5 w5∧P4 y.ds c.env c.n g5 w5 { a with defers:=[]++a.defers } ⟨σ.tm,hi⟩:=by
   intro rr hlp hst hXS;have t5:I9 D W2 (W2.putObj D (.loop { rr with state:=.exhausted })):=W9 (Nat.le_refl _) hlp rfl rfl;refine ⟨_,_,run_endLoop hlp hst,(t5.ext om_ N3 e3).trans H4,⟨hXS.ext _ _ _ _ H4 (hXS.turn _ _ _ _ om_ t5 q.C4 e1),hy.ext _ _ _ _ H4 (hy.turn _ _ _ _ om_ t5 q.C4 e2)⟩,
    ⟨⟨(t5.rel q).dn,fun t'=>((r.tm t').wrs _).mono ((t5.bc7 aH5 e4).trans H4),r.size,rfl⟩,by simp [bd6,hds]⟩⟩
  rcases ak2 with ⟨hJ,hlp⟩|⟨id,hJ,hlp⟩
  ·obtain ⟨g5,w5,f1,f2,f3,f4⟩:=tail _ hlp (by rw [X8];simp) (hJX _ _ _ hJ)
   exact ⟨none,w5,by rw [f1,X8],az0 X' hi hJ hs g5 _ w5 f2 f3 f4⟩
  ·obtain ⟨g5,w5,f1,f2,f3,f4⟩:=tail _ hlp (by rw [X8];simp) (aX2 _ _ _ hJ)
   refine ⟨some (aQ6 id),w5,by rw [f1,X8],?_⟩;have:=ay1 id X' hi hJ hs g5 _ w5 f2 f3 f4;cases id with
   | some id=>exact wpIn_exit this
   | none=>exact wpIn_ret this
end
theorem bD1 {P:Program} {F:Fence} (hF:∀ f,F.fn f) (hdp:F.depth=none) (ri:∀ {n l f tmps a b w R},RoundIn Fence.wide n P l f tmps a b w R→RoundIn F n P l f tmps a b w R) {o:Oper} {c0:Call} (hop:o.op=.call c0) {xf:Operand} (at1:c0.callee=.value xf)
  {l:Nat} {a:Act} {w:World} (hev:a.eval xf=.func (.yield l) #[] #[]) {R:Ending→World→Prop} (hy:YieldAt Fence.wide (0 - 1) P l (c0.args.map a.eval) w R) {next:Act→World→Prop} {Q:Exit→Act→World→Prop}
  (h:∀ e w',R e w'→∃ v,e=.returned v∧next (a.put o.dst v) w'):o.wpIn F 0 P a w next Q:=by
 have hnd:∀ c,o.op≠.defer c:=by intro c hc;rw [hop] at hc;cases hc
 refine ⟨fun f _=>hF f,?_⟩;rw [Oper.semAt_plain F _ _ hnd];obtain ⟨fn,tmps,assign,body,E0,hR⟩:=hy;have hr:(execOp a.eval o).run P w=.ok (.round l fn tmps assign body) w:=by
  simp [execOp,hop,resolve,at1,hev,Deferred.ofValue,invoke,E0]
 simp only [hr,Oper.uponIn_round];refine ⟨fun h=>by rw [hdp] at h;simp at h,(ri hR).mono ?_⟩;intro e w' he;obtain ⟨v,rfl,hn⟩:=h e w' he;exact hn
theorem cF0 {P:Program} {F:Fence} (hF:∀ f,F.fn f) (hdp:F.depth=none) (ci:∀ {n k args w R},CallsIn Fence.wide n P k args w R→CallsIn F n P k args w R) {o:Oper} {c0:Call} (hop:o.op=.call c0) {xf:Operand} (at1:c0.callee=.value xf)
  {kf:Nat} {fs cs:Array Value} {a:Act} {w:World} (hev:a.eval xf=.func (.func kf) fs cs) (hk:aa3 P kf) {R:Ending→World→Prop} (hy:CallsIn Fence.wide (0 - 1) P kf (fs++c0.args.map a.eval++cs) w R) {next:Act→World→Prop} {Q:Exit→Act→World→Prop}
  (h:∀ e w',R e w'→∃ v,e=.returned v∧next (a.put o.dst v) w'):o.wpIn F 0 P a w next Q:=by
 have hnd:∀ c,o.op≠.defer c:=by intro c hc;rw [hop] at hc;cases hc
 refine ⟨fun f _=>hF f,?_⟩;rw [Oper.semAt_plain F _ _ hnd];obtain ⟨fn,f1,f2,f3⟩:=hk
 have f3' : ¬ (fn.name = "runtime.NumGoroutine") := by simpa using f3
 have f2':fn.body≠none:=by intro e;simp [e] at f2
 have hr:(execOp a.eval o).run P w=.ok (.enter kf (fs++c0.args.map a.eval++cs)) w:=by
  simp [execOp,hop,resolve,at1,hev,Deferred.ofValue,invoke,callFunc,f1,f3',f2']
 simp only [hr,Oper.uponIn_enter];refine ⟨fun h=>by rw [hdp] at h;simp at h,(ci hy).mono ?_⟩;intro e w' he;obtain ⟨v,rfl,hn⟩:=h e w' he;exact hn
theorem aS9 {F:Fence} (hF:∀ f,F.fn f) (hdp:F.depth=none) {m:Nat} {ds:List Deferred} {P:Program} (hcl:∀ k args w R,Calls P k args w R→CallsIn F (m - 1) P k args w R)
  {env:Nat→Option (List V)} {ops:Array Oper} {gen reg n:Nat} (hn:aw9 n ops=true) (l2:List Nat):∀ (l:List (Nat × Option Eff)) {σ σe:St} (h:af8 P env ops gen reg l σ σe) {g:G} {w:World} {a:Act} (r:P4 ds env n g w a σ)
  {Q:Exit→Act→World→Prop} (hk:∀ g' a' w',Ext g w g' w'→P4 ds env n g' w' a' σe→wpOpsIn F m P ops Q l2 a' w'),wpOpsIn F m P ops Q (l.map (·.1)++l2) a w
 | [],_,_,.nil _,g,w,a,r,Q,hk=>hk g a w (Ext.refl g w) r
 | x::l,_,_,.cons _ _ _ σ1 _ hs t,g,w,a,r,Q,hk=>by
  rw [List.map_cons,List.cons_append,wpOpsIn_cons];exact au9 hF hdp hcl hn hs r fun g' a' w' hx r'=>aS9 hF hdp hcl hn l2 l t r' fun g2 a2 w2 hx2 r2=>hk g2 a2 w2 (hx.trans hx2) r2
theorem bw6 {c:Ctx} {x:XC} {gen:Nat} {k:List It} {id:Nat} {ops:Array Oper} (ok:XOk c.P x) (hd:aw9 c.n ops=true) (j:Nat) {σ:St}
  (h:N8 c.P c.env ops false gen id (ops.toList.drop (j+1)) (j+1) [] (fun σ'=>ARX c x gen k .normal σ') σ) {g:G} {a:Act} {w:World} (hx:Ext c.g0 c.w0 g w) (hX:x.X g w) (r:P4 x.ds c.env c.n g w a σ) :
  wpOpsIn x.F 0 c.P ops (U0 c.P x.F x.E k) ((List.range (ops.size - (j+1))).map (j+1+·)) a w:=by
 obtain ⟨l,σe,h1,h2,h3⟩:=as7 (ops.toList.drop (j+1)) (j+1) [] σ (fun i o h=>by rw [List.getElem?_drop] at h;simpa using h) h;have e:l.map (·.1)=(List.range (ops.size - (j+1))).map (j+1+·):=by rw [h1];simp
 rw [← e];exact aA7 ok.fn ok.dp ok.cl hd l h2 r (fun g' a' w' hx' r'=>h3 g' a' w' (hx.trans hx') (ok.X _ _ _ _ hx' hX) r')
theorem bi9 {c:Ctx} {x:XC} {gen:Nat} {k:List It} {σ:St} {id:Nat} {ops:Array Oper} (ok:XOk c.P x) (hok:J9 c.n (.region id ops false)=true) (j:Nat) {o:Oper} (aT5:ops[j]? = some o) (hg:o.guard=none)
  (h:N8 c.P c.env ops false gen id (ops.toList.take j) 0 [] (fun σ1=>∀ g a w,Ext c.g0 c.w0 g w→x.X g w→P4 x.ds c.env c.n g w a σ1 →
   o.wpIn x.F 0 c.P a w (fun a' w'=>wpOpsIn x.F 0 c.P ops (U0 c.P x.F x.E k) ((List.range (ops.size - (j+1))).map (j+1+·)) a' w') (U0 c.P x.F x.E k)) σ) :
  ARX c x gen (.code (.region id ops false)::k) .normal σ:=by
 intro g a w hx hX r;simp only [J9,Bool.and_eq_true] at hok;obtain ⟨hd,_⟩:=hok;have hj:j<ops.size:=(Array.getElem?_eq_some_iff.1 aT5).1;obtain ⟨l1,σ1,h1,h2,h3⟩:=as7 (ops.toList.take j) 0 [] σ (fun i o h=>by
  rw [List.getElem?_take] at h;split at h
  ·simpa using h
  ·cases h) h
 have hl1:l1.map (·.1)=List.range j:=by
  rw [h1,List.length_take];rw [Nat.min_eq_left (by simpa using Nat.le_of_lt hj)];simp
 refine wpIn_region ?_;have bG9:List.range ops.size=List.range j++(j::(List.range (ops.size - (j+1))).map (j+1+·)):=by
  apply List.ext_getElem?;intro i;by_cases hi:i<j
  ·rw [List.getElem?_append_left (by simpa using hi),List.getElem?_range om_,List.getElem?_range hi]
  ·rw [List.getElem?_append_right (by simpa using hi)]
   simp only [List.length_range];rcases Nat.eq_or_lt_of_le (Nat.le_of_not_lt hi) with e|hlt
   ·subst e;simp [hj]
   ·obtain ⟨m,rfl⟩:∃ m,i=j+1+m:=⟨i - (j+1),om_⟩
    rw [show j+1+m - j=m+1 by omega,List.getElem?_cons_succ];by_cases hm:m<ops.size - (j+1)
    ·rw [List.getElem?_map,List.getElem?_range hm,List.getElem?_range om_];simp
    ·rw [List.getElem?_eq_none (by simp;omega),List.getElem?_eq_none (by simp;omega)]
 rw [bG9,← hl1];refine aS9 ok.fn ok.dp ok.cl hd _ l1 h2 r fun g' a' w' hx' r'=>?_;rw [wpOpsIn_cons];unfold wpOpIn;rw [aT5];have hw:Region.wanted o (yielded ops a'.tmps)=true:=by unfold Region.wanted;rw [hg]
 simp only [hw,if_true];exact h3 g' a' w' (hx.trans hx') (ok.X _ _ _ _ hx' hX) r'
theorem ai4.xY {P:Program} {env:Nat→Option (List V)} {C:Cons} {vs:List (List V)} (h:ai4 P env C vs) {bd:Nat} (hb:C.bd≤bd) (i:Nat) (hs:H):XSt bd (fun g w=>C.Y i g w hs) :=
 ⟨fun g w g' w' x=>h.Yext i g w g' w' hs x,fun g W W' B hB t hz=>h.Yt i g W W' hs B (Nat.le_trans hb hB) t hz⟩
theorem ai4.xZ {P:Program} {env:Nat→Option (List V)} {C:Cons} {vs:List (List V)} (h:ai4 P env C vs) {bd:Nat} (hb:C.bd≤bd) (hs:H):XSt bd (fun g w=>C.Z g w hs) :=
 ⟨fun g w g' w' x=>h.Zext g w g' w' hs x,fun g W W' B hB t hz=>h.Zt g W W' hs B (Nat.le_trans hb hB) t hz⟩
def cq0 (c:Ctx) (y:YC) (C:Cons) (gen:Nat) (k:List It) (id:Nat) (ops:Array Oper) (j d i:Nat) (σ1:St):Prop :=
 ∀ h',(∀ id,¬ C.S id→σ1.h id≠none→h' id=σ1.h id) →
  N8 c.P c.env ops false gen id (ops.toList.drop (j+1)) (j+1) [] (fun σ'=>ARX c (y.at (fun g w=>C.Y (i+1) g w h')) gen k .normal σ') ⟨upd σ1.tm (some d) (.bool true),h'⟩ ∧
  N8 c.P c.env ops false gen id (ops.toList.drop (j+1)) (j+1) [] (fun σ'=>ARX c (y.at (fun g w=>C.Z g w h')) gen k .normal σ') ⟨upd σ1.tm (some d) (.bool false),h'⟩
section
variable {c:Ctx} {y:YC} (hy:YOk c y) (K0:∀ b,c.g0.wr b=true) {C:Cons} {vs:List (List V)} (hC:ai4 c.P c.env C vs) (hLo:∀ b,C.L b→y.Lo b) (hbd:C.bd≤y.bd)
include hy K0 hC hLo hbd
theorem aV8 {gen:Nat} {k:List It} {id:Nat} {ops:Array Oper} {j d i:Nat} {σ1:St} (hd:aw9 c.n ops=true) (hdn:d<c.n) (hN:cq0 c y C gen k id ops j d i σ1) {g:G} {a:Act} {w:World} (hx:Ext c.g0 c.w0 g w) (hL:y.L g w) (r:P4 y.ds c.env c.n g w a σ1)
  {e:Ending} {W':World} {g':G} {h':H} (hA:ap3 C g w σ1.h g' W' h') (q:Rel c.env g' W' h') (he:(e=.returned (.bool true)∧C.Y (i+1) g' W' h')∨(e=.returned (.bool false)∧C.Z g' W' h')) :
  ∃ v,e=.returned v∧wpOpsIn y.F 0 c.P ops (U0 c.P y.F y.E k) ((List.range (ops.size - (j+1))).map (j+1+·)) (a.put (some d) v) W':=by
 obtain ⟨x1,x2,x3⟩:=hA;obtain ⟨n1,n2⟩:=hN h' x2;have hx':Ext c.g0 c.w0 (g'.dn W') W':=(aK3 hx K0 x1).trans H4;have hL':y.L (g'.dn W') W':=hy.back _ _ _ _ K0 hL x1 (fun b o hb=>x3 b o (fun h=>hb (hLo b h)));have rf:P4 y.ds c.env c.n g.free w a σ1:=⟨⟨r.1.rel.wrs _ (fun _ _ _ _ _=>rfl),fun t=>(r.1.tm t).wrs _,r.1.size,r.1.defers⟩,r.2⟩;have rp:∀ b:Bool,P4 y.ds c.env c.n (g'.dn W') W' (a.put (some d) (.bool b)) ⟨upd σ1.tm (some d) (.bool b),h'⟩:=fun b =>
  rf.put (x1.trans H4) (by intro t e;cases e;exact hdn) q.dn (.bool b)
 rcases he with ⟨rfl,hY⟩|⟨rfl,hZ⟩
 ·exact ⟨_,rfl,bw6 (hy.x (hC.xY hbd _ _)) hd j n1 hx' ⟨hC.Yext _ _ _ _ _ _ H4 hY,hL'⟩ (rp true)⟩
 ·exact ⟨_,rfl,bw6 (hy.x (hC.xZ hbd _)) hd j n2 hx' ⟨hC.Zext _ _ _ _ _ H4 hZ,hL'⟩ (rp false)⟩
theorem ah6 {gen:Nat} {k:List It} {σ:St} {id:Nat} {ops:Array Oper} {i:Nat} {hs:H} {vv:List V} (hv:vs[i]? = some vv) (hok:J9 c.n (.region id ops false)=true) (j:Nat) {o:Oper} {c0:Call} {xf:Operand} {d:Nat} (aT5:ops[j]? = some o) (hg:o.guard=none)
  (bL9:o.dst=some d) (hop:o.op=.call c0) (at1:c0.callee=.value xf)
  (h:N8 c.P c.env ops false gen id (ops.toList.take j) 0 [] (fun σ1=>av c.env σ1.tm xf=.fn (.yield C.l) [] []∧C7 (c0.args.toList.map (av c.env σ1.tm))=vv∧(∀ id,C.base id→σ1.h id=hs id)∧cq0 c y C gen k id ops j d i σ1) σ) :
  ARX c (y.at (fun g w=>C.Y i g w hs)) gen (.code (.region id ops false)::k) .normal σ:=by
 refine bi9 (hy.x (hC.xY hbd i hs)) hok j aT5 hg ?_;refine ah3 (fun σ1 hh g a w hx hX r=>?_) _ _ _ _ h;obtain ⟨hX,hL⟩:=hX;obtain ⟨e1,e2,e3,hN⟩:=hh;simp only [J9,Bool.and_eq_true] at hok;have hdn:d<c.n:=an4 hok.1 aT5 d bL9;have hfx:=r.av xf;rw [e1] at hfx;have hev:a.eval xf=.func (.yield C.l) #[] #[]:=by
  generalize a.eval xf=v at hfx;cases hfx with
  | fn _ fs cs _ _ l1 l2 _ _ =>
   have:fs=#[]:=by simpa using l1
   have:cs=#[]:=by simpa using l2
   subst_vars;rfl
 have hB:RVL g w (c0.args.map a.eval) (c0.args.toList.map (av c.env σ1.tm)):=aI6 (fun x=>r.av x) c0.args;have hB2:=hB.H2;rw [e2] at hB2;have hY:C.Y i g w σ1.h:=hC.Yh _ _ _ _ _ e3 hX;have hrd:=hC.round i vv (c0.args.map a.eval).toList g w σ1.h hv hY r.1.rel (by have:=hB2.1;simpa using this) (fun j x v hx hv=>hB2.2 j x v (by simpa using hx) hv);rw [Array.toArray_toList] at hrd;refine bD1 (F:=y.F) hy.fn hy.dp hy.ri hop at1 hev hrd ?_;rintro e W' ⟨g',h',hA,q,he⟩;rw [bL9];exact aV8 hy K0 hC hLo hbd hok.1 hdn hN hx hL r hA q he
end
def cS8 (P:Program) (env:Nat→Option (List V)) (C:Cons) (vs:List (List V)) (kf:Nat) (as vv:List V) (pre:H→Prop):Prop :=
 aa3 P kf∧∀ i g W h xs,vs[i]? = some vv→C.Y i g W h→Rel env g W h→(∀ b,C.L b→b<W.heap.size)→pre h→RVL g W xs as →
  CallsIn Fence.wide 0 P kf xs W fun e W'=>∃ g' h',ap3 C g W h g' W' h'∧Rel env g' W' h'∧((e=.returned (.bool true)∧C.Y (i+1) g' W' h')∨(e=.returned (.bool false)∧C.Z g' W' h'))
section
variable {c:Ctx} {y:YC} (hy:YOk c y) (K0:∀ b,c.g0.wr b=true) {C:Cons} {vs:List (List V)} (hC:ai4 c.P c.env C vs) (hLo:∀ b,C.L b→y.Lo b) (hbd:C.bd≤y.bd)
include hy K0 hC hLo hbd
theorem aM5 {gen:Nat} {k:List It} {σ:St} {id:Nat} {ops:Array Oper} {i:Nat} {hs:H} {vv as:List V} {kf:Nat} {pre:H→Prop} (hK:cS8 c.P c.env C vs kf as vv pre) (hv:vs[i]? = some vv) (hok:J9 c.n (.region id ops false)=true) (j:Nat) {o:Oper} {c0:Call} {xf:Operand} {d:Nat}
  (aT5:ops[j]? = some o) (hg:o.guard=none) (bL9:o.dst=some d) (hop:o.op=.call c0) (at1:c0.callee=.value xf)
  (h:N8 c.P c.env ops false gen id (ops.toList.take j) 0 [] (fun σ1=>∃ first captured,av c.env σ1.tm xf=.fn (.func kf) first captured∧C7 (first++c0.args.toList.map (av c.env σ1.tm)++captured)=as∧pre σ1.h∧(∀ id,C.base id→σ1.h id=hs id)∧cq0 c y C gen k id ops j d i σ1) σ) :
  ARX c (y.at (fun g w=>C.Y i g w hs)) gen (.code (.region id ops false)::k) .normal σ:=by
 refine bi9 (hy.x (hC.xY hbd i hs)) hok j aT5 hg ?_;refine ah3 (fun σ1 hh g a w hx hX r=>?_) _ _ _ _ h;obtain ⟨hX,hL⟩:=hX;obtain ⟨first,captured,e1,e2,hp,e3,hN⟩:=hh;simp only [J9,Bool.and_eq_true] at hok;have hdn:d<c.n:=an4 hok.1 aT5 d bL9;have hfx:=r.av xf;rw [e1] at hfx;have hB:RVL g w (c0.args.map a.eval) (c0.args.toList.map (av c.env σ1.tm)):=aI6 (fun x=>r.av x) c0.args;have app:∀ {x1 x2:Array Value} {y1 y2:List V},RVL g w x1 y1→RVL g w x2 y2→RVL g w (x1++x2) (y1++y2):=by
  intro x1 x2 y1 y2 h1 h2;refine ⟨by simp [h1.1,h2.1],fun i c v hc hv=>?_⟩;by_cases hi:i<y1.length
  ·rw [Array.getElem?_append_left (by rw [h1.1];exact hi)] at hc
   rw [List.getElem?_append_left hi] at hv;exact h1.2 i c v hc hv
  ·rw [Array.getElem?_append_right (by rw [h1.1];omega),h1.1] at hc
   rw [List.getElem?_append_right om_] at hv;exact h2.2 _ c v hc hv
 obtain ⟨fs,cs,hev,hF⟩:∃ fs cs,a.eval xf=.func (.func kf) fs cs∧RVL g w (fs++c0.args.map a.eval++cs) as:=by
  generalize a.eval xf=v at hfx;cases hfx with
  | fn _ fs cs _ _ l1 l2 r1 r2 =>
   refine ⟨fs,cs,rfl,?_⟩;rw [← e2];exact (app (app ⟨l1,r1⟩ hB) ⟨l2,r2⟩).H2
 have hY:C.Y i g w σ1.h:=hC.Yh _ _ _ _ _ e3 hX;have aI0:=hK.2 i g w σ1.h _ hv hY r.1.rel (fun b hb=>by have:=hC.lo b hb;have:=hC.Ybd _ _ _ _ hY;omega) hp hF;refine cF0 (F:=y.F) hy.fn hy.dp hy.ci hop at1 hev hK.1 aI0 ?_;rintro e W' ⟨g',h',hA,q,he⟩;rw [bL9];exact aV8 hy K0 hC hLo hbd hok.1 hdn hN hx hL r hA q he
end
theorem aA3 {c:Ctx} {y:YC} {gen:Nat} {k:List It} {body:Code} (N:Nat) (I:Nat→(G→World→Prop)→St→Prop) {X:G→World→Prop} {σ:St} (h0:I 0 X σ)
  (round:∀ (y':YC) (gn m:Nat) (X:G→World→Prop) (σ:St),y'.F=y.F→y'.ds=y.ds→y'.Lo=y.Lo→y'.bd=y.bd→(YOk c y→YOk c y')→m≤N→I m X σ →
   (∀ X' σ' gn,m<N→I (m+1) X' σ'→ARX c (y'.at X') gn [] .normal σ')→(∀ X' e σ' gn,(e=.ret∨∃ id,e=.exit id)→ARX c (y.at X') gn k e σ'→ARX c (y'.at X') gn [] e σ') →
   ARX c (y'.at X) gn [.code body] .normal σ):ARX c (y.at X) gen (.code (.loop body)::k) .normal σ:=by
 have key:∀ (j m:Nat) (X:G→World→Prop) (σ:St),m+j=N→I m X σ→∀ g a w,Ext c.g0 c.w0 g w→(y.at X).X g w→P4 y.ds c.env c.n g w a σ→Code.roundsIn y.F 0 c.P body (U0 c.P y.F y.E k) (j+1) a w:=by
  intro j
  induction j with
  | zero =>
   intro m X σ hm hI g a w hx hX r;rw [roundsIn_succ];exact round ⟨y.F,y.ds,y.L,Exit.then (Code.roundsIn y.F 0 c.P body (U0 c.P y.F y.E k) 0) (U0 c.P y.F y.E k),y.Lo,y.bd⟩ gen m X σ rfl rfl rfl rfl (fun h=>⟨h.fn,h.dp,h.cl,h.ci,h.ri,h.ext,h.turn,h.back,h.size,h.lo⟩) om_ hI
    (fun X' σ' gn hlt _=>absurd hlt om_) (fun X' e σ' gn he h g' a' w' hx' hX' r'=>by rcases he with rfl|⟨id,rfl⟩<;>exact h g' a' w' hx' hX' r') g a w hx hX r
  | succ j ih =>
   intro m X σ hm hI g a w hx hX r;rw [roundsIn_succ];exact round ⟨y.F,y.ds,y.L,Exit.then (Code.roundsIn y.F 0 c.P body (U0 c.P y.F y.E k) (j+1)) (U0 c.P y.F y.E k),y.Lo,y.bd⟩ gen m X σ rfl rfl rfl rfl (fun h=>⟨h.fn,h.dp,h.cl,h.ci,h.ri,h.ext,h.turn,h.back,h.size,h.lo⟩) om_ hI
    (fun X' σ' gn hlt hI' g' a' w' hx' hX' r'=>ih (m+1) X' σ' om_ hI' g' a' w' hx' hX' r') (fun X' e σ' gn he h g' a' w' hx' hX' r'=>by rcases he with rfl|⟨id,rfl⟩<;>exact h g' a' w' hx' hX' r') g a w hx hX r
 exact fun g a w hx hX r=>wpIn_loop_rounds (N+1) (key N 0 X σ om_ h0 g a w hx hX r)
def ac1 (env:Nat→Option (List V)) (C:Cons) (n:Nat) (g0:G) (w0:World) (h0:H) (e:Ending) (W':World):Prop :=
 (∃ v,e=.returned v)∧∃ g' h',ap3 C g0 w0 h0 g' W' h'∧Rel env g' W' h'∧(C.Y n g' W' h'∨C.Z g' W' h')
def yI (c:Ctx) (C:Cons) (R:Ending→World→Prop):YC:=⟨Fence.wide,[],fun g w=>KO C.L c.w0 g w∧c.w0.heap.size≤w.heap.size,bodyPostM Fence.wide 0 c.P c.fn R,C.L,c.w0.heap.size⟩
theorem aT2 {c:Ctx} {C:Cons} {R:Ending→World→Prop} (hL:∀ b,C.L b→b<c.w0.heap.size):YOk c (yI c C R) :=
 ⟨fun _=>trivial,rfl,fun k args w R h=>callsIn_wide.2 h,fun h=>h,fun h=>h,fun g w g' w' x ⟨h1,h2⟩=>⟨h1.ext x,Nat.le_trans h2 x.size⟩,
  fun g W W' B hB t hz ⟨h1,h2⟩=>⟨h1.turn hB t,Nat.le_trans h2 t.size⟩,fun g w g' w' hf ⟨h1,h2⟩ x ho=>⟨h1.back (fun _ e=>e) ho,Nat.le_trans h2 x.size⟩,fun g w h=>h.2,hL⟩
theorem W7 {P : Program} {env : Nat → Option (List V)} {gf : Nat} {fn : Func} {body : Code} {caps : List V} {vs : List (List V)} (hf : P.funcs[gf]? = some fn) (hb : fn.body = some body) (aj4 : (fn.name == "runtime.NumGoroutine") = false)
  (walk:∀ (C:Cons) (g0:G) (w0:World) (h:H) (gen:Nat),ai4 P env C vs→(∀ id,C.base id→h id≠none)→(∀ id,h id≠none→id.gen<gen)→(∀ b,g0.wr b=true)→(∀ b,w0.heap.size≤b→g0.lim b=0)→C.bd≤w0.heap.size →
   ARX ⟨P,env,fn.ntmps,fn,g0,w0,h,.undef,h⟩ ((yI ⟨P,env,fn.ntmps,fn,g0,w0,h,.undef,h⟩ C (ac1 env C vs.length g0 w0 h)).at (fun g w=>C.Y 0 g w h)) gen [.code body] .normal ⟨ag6 (.fn (.yield C.l) [] []::caps),h⟩) :
  Iter P env (.fn (.func gf) [] caps) vs:=by
 intro g w x hx;cases hx with
 | fn _ fs cs _ _ l1 l2 _ r2 =>
 have e1:fs=#[]:=by simpa using l1
 subst e1;refine ⟨gf,cs,rfl,⟨fn,hf,by rw [hb];rfl,aj4⟩,fun C hC g1 W1 h1 x1 q1 hY N1=>?_⟩;have hbd:=hC.Ybd _ _ _ _ hY;refine (callsIn_of_wp_marks (n:=0) (R:=ac1 env C vs.length g1.free W1 h1) hf hb trivial ?_).mono (fun e W' ⟨hv,g',h',⟨a1,a2,a3⟩,q,r⟩=>⟨hv,g',h',⟨a1,a2,a3⟩,q,r⟩);have hcs:RVL (g1.dn W1) W1 (#[.func (.yield C.l) #[] #[]]++cs) (.fn (.yield C.l) [] []::caps):=by
  refine ⟨by simp [l2];omega,fun i c v hc hv=>?_⟩
  match i with
  | 0 =>
   rw [Array.getElem?_append_left sp_] at hc;simp at hc hv;subst hc;subst hv;exact .fn _ _ _ _ _ sp_ sp_ sp_ sp_
  | i+1 =>
   rw [Array.getElem?_append_right sp_] at hc;exact ((r2 i c v (by simpa using hc) (by simpa using hv)).mono x1).mono H4
 have hst:K1 env fn.ntmps (g1.dn W1) W1 { tmps:=(#[Value.func (.yield C.l) #[] #[]]++cs)++Array.replicate (fn.ntmps - (#[Value.func (.yield C.l) #[] #[]]++cs).size) undef,defers:=[] } ⟨ag6 (.fn (.yield C.l) [] []::caps),h1⟩:=by
  generalize (#[Value.func (.yield C.l) #[] #[]]++cs:Array Value)=xs at hcs ⊢;generalize (V.fn (.yield C.l) [] []::caps)=args at hcs ⊢;refine ⟨q1.dn,fun t=>?_,by simp;omega,rfl⟩;simp only [ag6];cases ha:args[t]? with
  | none=>exact .undef _
  | some v =>
   obtain ⟨c0,h1,h2⟩:=hcs.at ha;have hlt:t<xs.size:=(Array.getElem?_eq_some_iff.1 h1).1;have:(xs++Array.replicate (fn.ntmps - xs.size) undef).getD t undef=c0:=by
    simp [Array.getElem?_append_left hlt,h1]
   rw [this];exact h2
 have:=walk C g1.free W1 h1 g1.top hC N1 (fun id hid=>q1.top id hid) (fun _=>rfl) q1.C4 hbd (g1.dn W1) _ W1 (aj0 H4) ⟨hC.Yext _ _ _ _ _ _ H4 hY,KO.here,Nat.le_refl _⟩ (P4.of hst);refine wpIn_mono (show body.wpIn _ _ _ _ _ _ from this) ?_;intro e a' w' hp;cases e<;>exact hp
theorem ae8 {c:Ctx} {C:Cons} {vs:List (List V)} {n gen:Nat} {e:Exit} {σ:St} {X:G→World→Prop} (he:e=.ret∨e=.normal) (m0:c.fn.results=#[]) (K0:∀ b,c.g0.wr b=true) (hX:∀ g w,X g w→C.Y n g w σ.h∨C.Z g w σ.h) (hs:∀ id,¬ C.S id→c.h0 id≠none→σ.h id=c.h0 id) :
  ARX c ((yI c C (ac1 c.env C n c.g0 c.w0 c.h0)).at X) gen [] e σ:=by
 have key:∀ g a w,Ext c.g0 c.w0 g w→((yI c C (ac1 c.env C n c.g0 c.w0 c.h0)).at X).X g w→P4 [] c.env c.n g w a σ→LeavesInM Fence.wide 0 c.P c.fn a.tmps (ac1 c.env C n c.g0 c.w0 c.h0) a.defers .returning w:=by
  intro g a w hx ⟨h1,h2,h3⟩ r;rw [r.2];exact ⟨_,results_none m0 _ _ _,⟨_,rfl⟩,g,σ.h,⟨aj0 hx,hs,fun b o hb ho hc=>(h2 b o hb ho hc).1⟩,r.1.rel,hX g w h1⟩
 rcases he with rfl|rfl
 ·exact fun g a w hx h r=>key g a w hx h r
 ·exact fun g a w hx h r=>key g a w hx h r
theorem ai2 {c:Ctx} {C:Cons} {vs:List (List V)} (hC:ai4 c.P c.env C vs) {n gen D:Nat} {e:Exit} {σ:St} {X:G→World→Prop} (he:e=.ret∨e=.normal) (m0:c.fn.results=#[]) (K0:∀ b,c.g0.wr b=true) (N3:∀ b,c.w0.heap.size≤b→c.g0.lim b=0) (hbd:C.bd≤c.w0.heap.size)
  (hD:c.w0.heap.size≤D) (hX:∀ g w,X g w→C.Y n g w σ.h∨C.Z g w σ.h) (hs:∀ id,¬ C.S id→c.h0 id≠none→σ.h id=c.h0 id) :
  ARX c (((yI c C (ac1 c.env C n c.g0 c.w0 c.h0)).mk1 D).at X) gen [] e σ:=by
 have key:∀ g a w,Ext c.g0 c.w0 g w→(((yI c C (ac1 c.env C n c.g0 c.w0 c.h0)).mk1 D).at X).X g w→P4 [aL4 D] c.env c.n g w a σ→LeavesInM Fence.wide 0 c.P c.fn a.tmps (ac1 c.env C n c.g0 c.w0 c.h0) a.defers .returning w:=by
  intro g a w hx ⟨h1,⟨h2,h3⟩,h4,h5⟩ r;rw [r.2];have t:I9 D w (w.putObj D (.deferred none)):=W9 (Nat.le_refl _) h4 rfl rfl;refine ⟨sp_,.inl ⟨D,_,rfl,run_takeDeferred h4,?_⟩⟩;refine ⟨_,results_none m0 _ _ _,⟨_,rfl⟩,g.up D,σ.h,⟨t.bc7 N3 (aj0 hx),hs,fun b o hb ho hc=>((h2.turn hD t) b o hb ho hc).1⟩,t.rel r.1.rel,?_⟩;rcases hX g w h1 with h|h
  ·exact .inl (hC.Yt _ _ _ _ _ _ om_ t r.1.rel.C4 h)
  ·exact .inr (hC.Zt _ _ _ _ _ om_ t r.1.rel.C4 h)
 rcases he with rfl|rfl
 ·exact fun g a w hx h r=>key g a w hx h r
 ·exact fun g a w hx h r=>key g a w hx h r
end GoAbs
