/-
 The abstract layer: plain laws, further ones.
-/
import Derived.Test.YtmfhhhhnokhggaaGreatDoorAbsD
import Derived.RangeFuncNested
import Derived.RangeFuncLeaves
import Derived.RangeFuncCalls
import Derived.OrdersIn
import Derived.OwnWalkIn
import Derived.RangeFuncBox
import Derived.LoopNIn
set_option linter.unusedSimpArgs false
set_option linter.unusedVariables false
set_option linter.unusedSectionVars false
namespace GoAbs
open Go
inductive J8 (B:Nat):Res->Prop
 | mk (n:Nat) (l:List Nat) (p:List Res) (b:Tm) (e:List Res) (hn:n<=B) (hl:∀ x∈l,x<=B) (hll:l.length<=B)
   (hp:∀ x∈p,J8 B x) (hb:TmW b) (hel:e.length<=B) (he:∀ x∈e,J8 B x):J8 B (.mk n l p b e)
variable {B:Nat} {r:Res}
theorem J8.up {B':Nat} (hB:B<=B') (h:J8 B r):J8 B' r:=by
 induction h<;>grind [mk]
section
variable {B:Nat} {r:Res}
theorem J8.n1 (h:J8 B r):r.num<=B:=by cases h;assumption
theorem J8.ls (h:J8 B r):∀ x∈r.list,x<=B:=by cases h;assumption
theorem J8.ll (h:J8 B r):r.list.length<=B:=by cases h;assumption
theorem J8.ps (h:J8 B r):∀ x∈r.pair,J8 B x:=by cases h;assumption
theorem J8.bd (h:J8 B r):TmW r.body:=by cases h;assumption
theorem J8.el (h:J8 B r):r.env.length<=B:=by cases h;assumption
theorem J8.es (h:J8 B r):∀ x∈r.env,J8 B x:=by cases h;assumption
end
theorem J8.num {n:Nat} (h:n<=B):J8 B (aM3 n):=.mk _ _ _ _ _ h b_ b_ b_ aC2 b_ b_
theorem J8.zero {B:Nat}:J8 B aW0:=J8.num a_
variable {l:List Nat}
theorem J8.list (h:∀ x∈l,x<=B) (hl:l.length<=B):J8 B (aE5 l):=.mk _ _ _ _ _ a_ h hl b_ aC2 b_ b_
theorem J8.pair {B:Nat} {l:List Res} (h:∀ x∈l,J8 B x):J8 B (aV6 l):=.mk _ _ _ _ _ a_ b_ b_ h aC2 b_ b_
variable {e:List Res}
theorem J8.clo {b:Tm} (hb:TmW b) (hl:e.length<=B) (h:∀ x∈e,J8 B x):J8 B (bQ5 b e):=.mk _ _ _ _ _ a_ b_ b_ b_ hb hl h
def EvW (K most:Nat) (E:Evl):Prop:=∀ c u t e r u' o,E u t e=some (r,u',o)->c<=u->u<=most->TmW t->e.length<=u+K - c->(∀ x∈e,J8 (u+K - c) x) ->
 u<=u'/\u'<=most/\(o=false->u<u'/\J8 (u'+K - c - 1) r)
section
variable {K most:Nat} {E:Evl} (hE:EvW K most E)
include hE
variable {c u:Nat}
theorem ay4 {u':Nat} {f a:Res} {o:Bool} (h:aa0 E u f a=some (r,u',o)) (hc:c+1<=u) (hu:u<=most) (hf:J8 (u+K - c - 1) f) (ha:J8 (u+K - c - 1) a) :
  u<=u'/\u'<=most/\(o=false->u<u'/\J8 (u'+K - c - 1) r):=by
 refine hE c u _ _ _ _ _ h a_ hu hf.bd (by have:=hf.el;simp;omega) fun x hx=>?_;rcases Q8.1 hx with hx|hx
 ·exact (hf.es x hx).up a_
 ·simp at hx;subst hx;exact ha.up a_
theorem ca4:∀ {l:List Tm} {u u':Nat} {l':List Res} {o:Bool},Y6 E e u l=some (l',u',o)->c<=u->u<=most->(∀ t∈l,TmW t)->e.length<=u+K - c->(∀ x∈e,J8 (u+K - c) x) ->
  u<=u'/\u'<=most/\(o=false->(l≠[]->u<u')/\l'.length=l.length/\∀ x∈l',J8 (u'+K - c - 1) x):=by
 intro l
 induction l with
 | nil =>
  grind [Y6]
 | cons t l ih =>
  intro u u' l' o h hc hu ht hel he;rw [Y6] at h;cases h1:E u t e with
  | none=>rw [h1] at h;cases h
  | some p =>
   obtain ⟨r,u1,o1⟩:=p;obtain ⟨a1,a2,a3⟩:=hE c u t e r u1 o1 h1 hc hu (ht t b_) hel he;rw [h1] at h;cases o1 with
   | true =>
    grind
   | false =>
    obtain ⟨a3,a4⟩:=a3 rfl;simp only at h;cases h2:Y6 E e u1 l with
    | none=>rw [h2] at h;cases h
    | some q =>
     rw [h2] at h;obtain ⟨rfl,rfl,rfl⟩:=h;obtain ⟨b1,b2,b3⟩:=ih h2 a_ a2 (fun x hx=>ht x (by simp [hx])) a_ (fun x hx=>(he x hx).up a_);refine ⟨a_,b2,fun ho=>?_⟩;obtain ⟨_,b3,b4⟩:=b3 ho;refine ⟨fun _=>by omega,by simp [b3],fun x hx=>?_⟩;rcases D9.1 hx with rfl|hx
     ·exact a4.up a_
     ·exact b4 x hx
theorem dt7 {s:Res}:∀ {n k u u':Nat} {r r':Res} {o:Bool},ay5 E s n k u r=some (r',u',o)->c+1<=u->u<=most->k+n<=u+K - c - 1->J8 (u+K - c - 1) s->J8 (u+K - c - 1) r ->
  u<=u'/\u'<=most/\(o=false->J8 (u'+K - c - 1) r'):=by
 intro n
 induction n with
 | zero =>
  grind [ay5]
 | succ n ih =>
  intro k u u' r r' o h hc hu hk hs hr;rw [ay5] at h;cases h1:aa0 E u s (aM3 k) with
  | none=>rw [h1] at h;cases h
  | some p =>
   obtain ⟨f,u1,o1⟩:=p;obtain ⟨a1,a2,a3⟩:=ay4 hE h1 hc hu hs (J8.num a_);rw [h1] at h;cases o1 with
   | true =>
    grind
   | false =>
    obtain ⟨a3,a4⟩:=a3 rfl;simp only at h;cases h2:aa0 E u1 f r with
    | none=>rw [h2] at h;cases h
    | some q =>
     obtain ⟨r1,u2,o2⟩:=q;obtain ⟨b1,b2,b3⟩:=ay4 hE h2 a_ a2 a4 (hr.up a_);rw [h2] at h;cases o2 with
     | true =>
      grind
     | false =>
      obtain ⟨b3,b4⟩:=b3 rfl;obtain ⟨c1,c2,c3⟩:=ih h a_ b2 a_ (hs.up a_) b4
      grind
theorem db2 {s:Res}:∀ {n u u':Nat} {r r':Res} {o:Bool},aj1 E s l n u r=some (r',u',o)->c+1<=u->u<=most->n<=l.length->l.length<=u+K - c - 1 ->
  (∀ x∈l,x<=u+K - c - 1)->J8 (u+K - c - 1) s->J8 (u+K - c - 1) r->u<=u'/\u'<=most/\(o=false->J8 (u'+K - c - 1) r'):=by
 intro n
 induction n with
 | zero =>
  grind [aj1]
 | succ n ih =>
  intro u u' r r' o h hc hu hk hll hl hs hr;rw [aj1] at h;have hx:l.getD n 0∈l:=by
   rw [bN0,W4 a_];exact bo8 _
  cases h1:aa0 E u s (aM3 (l.getD n 0)) with
  | none=>rw [h1] at h;cases h
  | some p =>
   obtain ⟨f,u1,o1⟩:=p;obtain ⟨a1,a2,a3⟩:=ay4 hE h1 hc hu hs (J8.num (hl _ hx));rw [h1] at h;cases o1 with
   | true =>
    grind
   | false =>
    obtain ⟨a3,a4⟩:=a3 rfl;simp only at h;have hw:J8 (u1+K - c - 1) (aE5 (l.drop (n+1))):=J8.list (fun x hx=>by grind) (by simp;omega);cases h2:aa0 E u1 f (aE5 (l.drop (n+1))) with
    | none=>rw [h2] at h;cases h
    | some q =>
     obtain ⟨f2,u2,o2⟩:=q;obtain ⟨b1,b2,b3⟩:=ay4 hE h2 a_ a2 a4 hw;rw [h2] at h;cases o2 with
     | true =>
      grind
     | false =>
      obtain ⟨b3,b4⟩:=b3 rfl;simp only at h;cases h3:aa0 E u2 f2 r with
      | none=>rw [h3] at h;cases h
      | some q =>
       obtain ⟨r3,u3,o3⟩:=q;obtain ⟨d1,d2,d3⟩:=ay4 hE h3 a_ b2 b4 (hr.up a_);rw [h3] at h;cases o3 with
       | true =>
        grind
       | false =>
        obtain ⟨d3,d4⟩:=d3 rfl;obtain ⟨c1,c2,c3⟩:=ih h a_ d2 a_ a_ (fun x hx=>by have:=hl x hx;omega) (hs.up a_) d4
        grind
theorem dK6 (hm:most<=1000000) {k:Int} {u':Nat} {l:List Res} {o:Bool} (h:ag8 E k u l=some (r,u',o)) (hc:c+1<=u) (hu:u<=most)
  (hl:∀ x∈l,J8 (u+K - c - 2) x) (h2:l≠[]->c+2<=u):u<=u'/\u'<=most/\(o=false->J8 (u'+K - c - 1) r):=by
 unfold ag8 at h;split at h
 ·split at h
  ·rename_i f a
   obtain ⟨a1,a2,a3⟩:=ay4 hE h hc hu ((hl f b_).up a_) ((hl a b_).up a_);exact ⟨a1,a2,fun ho=>(a3 ho).2⟩
  ·cases h
 split at h
 ·split at h
  ·rename_i a
   have:=h2 b_;have ha:=hl a b_;obtain ⟨rfl,rfl,rfl⟩:=h;have b2:=ha.n1;exact ⟨w7 _,hu,fun _=>J8.num a_⟩
  ·cases h
 split at h
 ·split at h
  ·rename_i z s n
   have hn:=hl n b_;have b2:=hn.n1;exact dt7 hE h hc hu a_ ((hl s b_).up a_) ((hl z b_).up a_)
  ·cases h
 split at h
 ·split at h
  ·rename_i a b
   have:=h2 b_;have ha:=hl a b_;have hb:=hl b b_;obtain ⟨rfl,rfl,rfl⟩:=h;refine ⟨w7 _,hu,fun _=>J8.list (fun x hx=>?_) (by have:=hb.ll;simp;omega)⟩;rcases D9.1 hx with rfl|hx
   ·have:=ha.n1;omega
   ·have:=hb.ls x hx;omega
  ·cases h
 split at h
 ·split at h
  ·rename_i z s n
   have hn:=hl n b_;exact db2 hE h hc hu (w7 _) (by have:=hn.ll;omega) (fun x hx=>by have:=hn.ls x hx;omega) ((hl s b_).up a_) ((hl z b_).up a_)
  ·cases h
 split at h
 ·obtain ⟨rfl,rfl,rfl⟩:=h
  exact ⟨w7 _,hu,fun _=>J8.pair fun x hx=>(hl x hx).up a_⟩
 split at h
 ·split at h
  ·rename_i a
   split at h
   ·rename_i x y hp
    obtain ⟨rfl,rfl,rfl⟩:=h;exact ⟨w7 _,hu,fun _=>((hl a b_).ps _ (by rw [hp];simp)).up a_⟩
   ·cases h
  ·cases h
 split at h
 ·split at h
  ·rename_i a
   split at h
   ·rename_i x y hp
    obtain ⟨rfl,rfl,rfl⟩:=h;exact ⟨w7 _,hu,fun _=>((hl a b_).ps _ (by rw [hp];simp)).up a_⟩
   ·cases h
  ·cases h
 grind [J8.zero]
theorem db3 (hm:most<=1000000):EvW K most (ay6 most E):=by
 intro c u t e r u' o h hc hu ht hel he;unfold ay6 at h;split at h
 ·grind
 split at h
 ·split at h
  ·cases hx:e[((e.length:Int) - 1 - t.index).toNat]? with
   | none=>rw [hx] at h;cases h
   | some x =>
    rw [hx] at h;obtain ⟨rfl,rfl,rfl⟩:=h;exact ⟨a_,a_,fun _=>⟨a_,(he _ (Q7 hx)).up a_⟩⟩
  ·cases h
 split at h
 ·split at h
  ·rename_i b hb
   obtain ⟨rfl,rfl,rfl⟩:=h;exact ⟨a_,a_,fun _=>⟨a_,J8.clo (ht.arg (by rw [hb];simp)) a_ fun x hx=>(he x hx).up a_⟩⟩
  ·cases h
 ·cases h1:Y6 E e (u+1) t.args with
  | none=>rw [h1] at h;cases h
  | some p =>
   obtain ⟨l,u1,o1⟩:=p;obtain ⟨a1,a2,a3⟩:=ca4 (c:=c+1) hE h1 a_ a_ (fun x hx=>ht.arg hx) a_ (fun x hx=>(he x hx).up a_);rw [h1] at h;cases o1 with
   | true =>
    grind
   | false =>
    obtain ⟨a3,a4,a5⟩:=a3 rfl;obtain ⟨b1,b2,b3⟩:=dK6 (c:=c) hE hm h a_ a2 (fun x hx=>(a5 x hx).up a_) (fun hn=>by
     have:t.args≠[]:=by intro e;rw [e] at a4;simp at a4;exact hn a4
     have:=a3 this;omega)
    grind
end
theorem dK8 {K most:Nat} (hm:most<=1000000):∀ f,EvW K most (ev most f)
 | 0=>fun c u t e r u' o h=>by simp [ev] at h
 | f+1=>by exact db3 (dK8 hm f) hm
inductive RTy (Q:Ty->Prop):Res->Ty->Prop
 | num {n:Nat}:RTy Q (aM3 n) c8
 | list {l:List Nat}:RTy Q (aE5 l) r5
 | pair {x y:Res} {a b:Ty}:RTy Q x a->RTy Q y b->RTy Q (aV6 [x,y]) (B6 a b)
 | unit:RTy Q aW0 O7
 | clo {G:List Ty} {es:List Res} {b:Tm} {s t:Ty} (hl:es.length=G.length) (he:∀ (i:Nat) (r:Res) (a:Ty),es[i]? = some r->G[i]? = some a->RTy Q r a) (hb:l7 Q (G++[s]) b t):RTy Q (bQ5 b es) (x9 s t)
def bF6 (Q:Ty->Prop) (es:List Res) (G:List Ty):Prop:=es.length=G.length/\∀ (i:Nat) (r:Res) (a:Ty),es[i]? = some r->G[i]? = some a->RTy Q r a
theorem bF6.snoc {Q:Ty->Prop} {es:List Res} {G:List Ty} {r:Res} {a:Ty} (h:bF6 Q es G) (hr:RTy Q r a):bF6 Q (es++[r]) (G++[a]):=by
 refine ⟨by simp [h.1],fun i x b hx hb=>?_⟩;by_cases hi:i<es.length
 ·rw [aA2 hi] at hx
  rw [aA2 (by rw [<- h.1];exact hi)] at hb;exact h.2 i x b hx hb
 ·rw [aA1 (by rw [<- h.1];omega),<- h.1] at hb
  grind
theorem cq9 {α:Type} {l:List α} (h:l.length=2):∃ x y,l=[x,y]:=by
 match l,h with
 | [x,y],_=>exact ⟨x,y,rfl⟩
theorem cN9 {α:Type} {l:List α} (h:l.length=3):∃ x y z,l=[x,y,z]:=by
 match l,h with
 | [x,y,z],_=>grind
def EvP (Q:Ty->Prop) (most:Nat) (N:Nat) (E:Evl):Prop:=∀ u t e G s,N<=u->u<=most->l7 Q G t s->bF6 Q e G ->
 ∃ r u' o,E u t e=some (r,u',o)/\u<=u'/\u'<=most/\(o=false->RTy Q r s)
section
variable {Q:Ty->Prop} {most N:Nat} {E:Evl} (hE:EvP Q most N E)
include hE
variable {s:Ty}
theorem aE0 {u:Nat} {f a:Res} {t:Ty} (hN:N<=u) (hu:u<=most) (hf:RTy Q f (x9 s t)) (ha:RTy Q a s) :
  ∃ r u' o,aa0 E u f a=some (r,u',o)/\u<=u'/\u'<=most/\(o=false->RTy Q r t):=by
 cases hf with
 | clo hl he hb=>exact hE u _ _ _ _ hN hu hb (bF6.snoc ⟨hl,he⟩ ha)
theorem ca3 {e:List Res} {G:List Ty} (he:bF6 Q e G):∀ (l:List Tm) (ts:List Ty) (u:Nat),N<=u->u<=most->l.length=ts.length->(∀ (i:Nat) x a,l[i]? = some x->ts[i]? = some a->l7 Q G x a) ->
  ∃ l' u' o,Y6 E e u l=some (l',u',o)/\u<=u'/\u'<=most/\(o=false->l'.length=ts.length/\∀ (i:Nat) r a,l'[i]? = some r->ts[i]? = some a->RTy Q r a)
 | [],ts,u,hN,hu,hl,h=>by
  refine ⟨[],u,false,rfl,w7 _,hu,fun _=>⟨by simpa using hl,b_⟩⟩
 | t::l,[],u,hN,hu,hl,h=>by simp at hl
 | t::l,a::ts,u,hN,hu,hl,h=>by
  obtain ⟨r,u1,o1,h1,h2,h3,h4⟩:=hE u t e G a hN hu (h 0 t a rfl rfl) he;rw [Y6,h1];cases o1 with
  | true=>grind
  | false =>
   obtain ⟨l',u2,o2,g1,g2,g3,g4⟩:=ca3 he l ts u1 a_ h3 (by simpa using hl) (fun i x b hx hb=>h (i+1) x b (by simpa using hx) (by simpa using hb))
   grind
theorem cA1 {s:Res} {t:Ty} (hs:RTy Q s (x9 c8 (x9 t t))):∀ (n k u:Nat) (r:Res),N<=u->u<=most->RTy Q r t ->
  ∃ r' u' o,ay5 E s n k u r=some (r',u',o)/\u<=u'/\u'<=most/\(o=false->RTy Q r' t)
 | 0,k,u,r,hN,hu,hr=>⟨_,_,_,rfl,w7 _,hu,fun _=>hr⟩
 | n+1,k,u,r,hN,hu,hr=>by
  obtain ⟨f,u1,o1,h1,h2,h3,h4⟩:=aE0 hE hN hu hs (RTy.num (n:=k));rw [ay5,h1];cases o1 with
  | true=>grind
  | false =>
   obtain ⟨r1,u2,o2,g1,g2,g3,g4⟩:=aE0 hE a_ h3 (h4 rfl) hr;cases o2 with
   | true=>grind
   | false =>
    obtain ⟨r2,u3,o3,k1,k2,k3,k4⟩:=cA1 hs n (k+1) u2 r1 a_ g3 (g4 rfl)
    grind
theorem ca5 {s:Res} {t:Ty} {l:List Nat} (hs:RTy Q s (x9 c8 (x9 r5 (x9 t t)))):∀ (n u:Nat) (r:Res),N<=u->u<=most->RTy Q r t ->
  ∃ r' u' o,aj1 E s l n u r=some (r',u',o)/\u<=u'/\u'<=most/\(o=false->RTy Q r' t)
 | 0,u,r,hN,hu,hr=>⟨_,_,_,rfl,w7 _,hu,fun _=>hr⟩
 | n + 1,u,r,hN,hu,hr=>by
  obtain ⟨f,u1,o1,h1,h2,h3,h4⟩:=aE0 hE hN hu hs (RTy.num (n:=l.getD n 0));rw [aj1,h1];cases o1 with
  | true=>grind
  | false =>
   obtain ⟨f1,u2,o2,g1,g2,g3,g4⟩:=aE0 hE a_ h3 (h4 rfl) (RTy.list (l:=l.drop (n+1)));simp only [g1];cases o2 with
   | true=>grind
   | false =>
    obtain ⟨r1,u3,o3,g1,g5,g6,g7⟩:=aE0 hE a_ g3 (g4 rfl) hr;simp only [g1];cases o3 with
    | true=>grind
    | false =>
     obtain ⟨r2,u4,o4,k1,k2,k3,k4⟩:=ca5 hs n u3 r1 a_ g6 (g7 rfl);exact ⟨_,_,_,k1,a_,k3,k4⟩
theorem dK5 {k:Int} {ty:Ty} {ts:List Ty} (hN:P5 Q k ty ts s) {u:Nat} {l:List Res} (hu0:N<=u) (hu:u<=most) (hl:l.length=ts.length)
  (h:∀ (i:Nat) r a,l[i]? = some r->ts[i]? = some a->RTy Q r a):∃ r u' o,ag8 E k u l=some (r,u',o)/\u<=u'/\u'<=most/\(o=false->RTy Q r s):=by
 have l0:ts.length=0->l=[]:=fun h=>by grind
 have l1:ts.length=1->∃ x,l=[x]:=fun h=>by grind [List.length_eq_one_iff]
 have l2:ts.length=2->∃ x y,l=[x,y]:=fun h=>by grind [cq9]
 have l3:ts.length=3->∃ x y z,l=[x,y,z]:=fun h=>by grind [cN9]
 cases hN with
 | app =>
  obtain ⟨x,y,rfl⟩:=l2 rfl;exact aE0 hE hu0 hu (h 0 x _ rfl rfl) (h 1 y _ rfl rfl)
 | zero=>exact ⟨aW0,u,false,by simp [ag8],w7 _,hu,fun _=>.num⟩
 | succ =>
  obtain ⟨x,rfl⟩:=l1 rfl;exact ⟨_,u,false,by simp [ag8]<;>rfl,w7 _,hu,fun _=>.num⟩
 | V8 =>
  obtain ⟨x,y,z,rfl⟩:=l3 rfl;exact cA1 hE (h 1 y _ rfl rfl) _ _ _ _ hu0 hu (h 0 x _ rfl rfl)
 | nil=>exact ⟨aW0,u,false,by simp [ag8],w7 _,hu,fun _=>.list (l:=[])⟩
 | cons =>
  obtain ⟨x,y,rfl⟩:=l2 rfl;exact ⟨_,u,false,by simp [ag8]<;>rfl,w7 _,hu,fun _=>.list⟩
 | fold =>
  obtain ⟨x,y,z,rfl⟩:=l3 rfl;exact ca5 hE (h 1 y _ rfl rfl) _ _ _ hu0 hu (h 0 x _ rfl rfl)
 | pair =>
  obtain ⟨x,y,rfl⟩:=l2 rfl;exact ⟨_,u,false,by simp [ag8]<;>rfl,w7 _,hu,fun _=>.pair (h 0 x _ rfl rfl) (h 1 y _ rfl rfl)⟩
 | fst =>
  obtain ⟨x,rfl⟩:=l1 rfl;have hx:=h 0 x _ rfl rfl;cases hx with
  | pair ha hb=>exact ⟨_,u,false,by simp [ag8,aV6,Res.pair]<;>rfl,w7 _,hu,fun _=>ha⟩
 | snd =>
  obtain ⟨x,rfl⟩:=l1 rfl;have hx:=h 0 x _ rfl rfl;cases hx with
  | pair ha hb=>exact ⟨_,u,false,by simp [ag8,aV6,Res.pair]<;>rfl,w7 _,hu,fun _=>hb⟩
 | unit=>exact ⟨aW0,u,false,by simp [ag8],w7 _,hu,fun _=>.unit⟩
theorem ca8 (hNm:1<=N):EvP Q most (N - 1) (ay6 most E):=by
 intro u t e G s hN hu ht he;unfold ay6;split
 ·grind
 have node:∀ {k:Int} {ty:Ty} {l:List Tm} {ts:List Ty},P5 Q k ty ts s->l.length=ts.length->(∀ (i:Nat) x a,l[i]? = some x->ts[i]? = some a->l7 Q G x a)->(k==1)=false->(k==2)=false ->
   ∃ r u' o,(if (tmT k ty l).kind==1 then
     (if 0<=(e.length:Int) - 1 - (tmT k ty l).index then (e[((e.length:Int) - 1 - (tmT k ty l).index).toNat]?).map fun r=>(r,u+1,false) else none)
    else if (tmT k ty l).kind==2 then (match (tmT k ty l).args with | [b]=>some (bQ5 b e,u+1,false)|_=>none)
    else match Y6 E e (u+1) (tmT k ty l).args with
     | none=>none
     | some (_,u',true)=>some (aW0,u',true)
     | some (l2,u',false)=>ag8 E (tmT k ty l).kind u' l2)=some (r,u',o)/\u<=u'/\u'<=most/\(o=false->RTy Q r s):=by
  intro k ty l ts hT hl h k1 k2;obtain ⟨l',u1,o1,g1,g2,g3,g4⟩:=ca3 hE he l ts (u+1) a_ a_ hl h;simp only [tmT,Tm.kind,Tm.args,k1,k2,B2,r6,g1];cases o1 with
  | true=>grind
  | false =>
   obtain ⟨g4,g5⟩:=g4 rfl;obtain ⟨r,u',o,k1,k2,k3,k4⟩:=dK5 hE hT a_ g3 g4 g5
   grind
 have nk:∀ {k:Int} {ty:Ty} {ts:List Ty},P5 Q k ty ts s->(k==1)=false/\(k==2)=false:=by
  intro k ty ts h;cases h<;>exact ⟨rfl,rfl⟩
 cases ht with
 | @var _ i _ hi hg =>
  have hel:=he.1;have e1:((e.length:Int) - 1 - (i:Int)).toNat=G.length - 1 - i:=by omega
  obtain ⟨r,hr⟩:∃ r,e[G.length - 1 - i]? = some r:=⟨_,W4 a_⟩;refine ⟨r,u+1,false,?_,a_,a_,fun _=>he.2 _ r s hr hg⟩
  grind [a9,Tm.kind,Tm.index]
 | @lam _ a b t hq hb =>
  exact ⟨bQ5 t e,u+1,false,by rfl,a_,a_,fun _=>.clo he.1 he.2 hb⟩
 | n0 hT=>exact node hT rfl b_ (nk hT).1 (nk hT).2
 | n1 hT h1 =>
  refine node hT rfl (fun i x a hx ha=>?_) (nk hT).1 (nk hT).2
  grind
 | n2 hT h1 h2 =>
  refine node hT rfl (fun i x a hx ha=>?_) (nk hT).1 (nk hT).2
  grind
 | n3 hT h1 h2 h3 =>
  refine node hT rfl (fun i x a hx ha=>?_) (nk hT).1 (nk hT).2
  match i with
  | 0=>grind
  | 1=>grind
  | 2=>grind
  | i+3=>simp at hx
end
theorem dK7 {Q:Ty->Prop} {most:Nat}:∀ f,EvP Q most (most+1 - f) (ev most f)
 | 0=>fun u t e G s hN hu=>by omega
 | f+1=>by
  by_cases h:1<=most+1 - f
  ·exact ca8 (dK7 f) h
  ·intro u t e G s hN hu ht he
   have:=ca8 (N:=1) (fun u t e G s hN hu ht he=>dK7 f u t e G s a_ hu ht he) (w7 _) u t e G s a_ hu ht he;exact this
abbrev Vl:=Tm->List Res->Option Res
section
variable {E:Evl} {F:Vl} (hEF:∀ u t e r u',E u t e=some (r,u',false)->F t e=some r)
include hEF
end
section
variable {E F:Vl} (hEF:∀ t e r,E t e=some r->F t e=some r)
include hEF
end
inductive aM9:Res->Res->Prop
 | mk {n:Nat} {l:List Nat} {p p':List Res} {b:Tm} {e e' pre:List Res} (hp:p.length=p'.length) (hps:∀ (i:Nat) x y,p[i]? = some x->p'[i]? = some y->aM9 x y)
   (he:e.length=e'.length) (hes:∀ (i:Nat) x y,e[i]? = some x->e'[i]? = some y->aM9 x y):aM9 (.mk n l p b e) (.mk n l p' b (pre++e'))
def dR9 (l l':List Res):Prop:=l.length=l'.length/\∀ (i:Nat) x y,l[i]? = some x->l'[i]? = some y->aM9 x y
def dR8 (e e':List Res):Prop:=∃ pre e'',e'=pre++e''/\dR9 e e''
theorem aM9.num {n:Nat}:aM9 (aM3 n) (aM3 n):=aM9.mk (pre:=[]) rfl b_ rfl b_
theorem aM9.list:aM9 (aE5 l) (aE5 l):=aM9.mk (pre:=[]) rfl b_ rfl b_
theorem aM9.pair {l l':List Res} (h:dR9 l l'):aM9 (aV6 l) (aV6 l'):=aM9.mk (pre:=[]) h.1 h.2 rfl b_
theorem aM9.clo {b:Tm} {e':List Res} (h:dR8 e e'):aM9 (bQ5 b e) (bQ5 b e'):=by
 obtain ⟨pre,e'',rfl,h1,h2⟩:=h;exact aM9.mk rfl b_ h1 h2
section
variable {E:Vl} (hE:∀ t e r,E t e=some r->∀ e',dR8 e e'->∃ r',E t e'=some r'/\aM9 r r')
include hE
end
section
variable {P:Program} {env:Nat->Option (List V)} {ops:Array Oper} {draw:Bool} {gen reg:Nat} {rest:List Oper} {i:Nat} {log:List av4} {K:St->Prop} {σ:St} {dst:Option Nat}
def dE7 (T:Option TyI) (t:TypeId) (x:V):Option V:=match T with|some i=>if i.kind=8 then none else some (.iface t x)|none=>none
variable {t:TypeId}
@[go_sem] theorem cy2 {x:Operand}:aop P env ops draw gen reg rest dst i log K σ (.makeInterface t x) =
  ok1 P env ops draw gen reg rest dst i log K σ (dE7 (tyi P t) t (av env σ.tm x)):=by
 exact ae1 (af9 rfl)
attribute [go_sem] dE7
end
structure Tys where
 int:TypeId
 cell:TypeId
 both:TypeId
 unit:TypeId
 clo:TypeId
def Z9:List Nat->V
 | []=>.U3
 | x::l=>.el [.int .i64 x,Z9 l] 0
mutual
inductive ThV (K:Tys):Ty->Res->V->Prop
 | num {n:Nat}:ThV K c8 (aM3 n) (.iface K.int (.int .i64 n))
 | list {l:List Nat}:ThV K r5 (aE5 l) (.iface K.cell (Z9 l))
 | unit:ThV K O7 aW0 (.iface K.unit (.agg []))
 | pair {a b:Ty} {x y:Res} {u v:V}:ThV K a x u->ThV K b y v->ThV K (B6 a b) (aV6 [x,y]) (.iface K.both (.el [u,v] 0))
 | clo {g:List Ty} {a b:Ty} {t:Tm} {e:List Res} {ve:V}:aM7 K g e ve->l7 TyG (g++[a]) t b->ThV K (x9 a b) (bQ5 t e) (.iface K.clo (.el (t.cells++[ve]) 0))
inductive aM7 (K:Tys):List Ty->List Res->V->Prop
 | nil:aM7 K [] [] .U3
 | snoc {g:List Ty} {a:Ty} {e:List Res} {r:Res} {v ve:V}:aM7 K g e ve->ThV K a r v->aM7 K (g++[a]) (e++[r]) (.el [v,ve] 0)
end
theorem aj0:∀ l,J5 (Z9 l)=Z9 l
 | []=>rfl
 | x::l=>by rw [Z9,J5];simp [B1,aj0 l,J5]
theorem ba3 {S:Id->Prop}:∀ l,InV S (Z9 l)
 | []=>by grind [Z9,InV]
 | x::l=>by rw [Z9,InV];simp [InL,ba3 l,InV]
theorem dm7 {S:Id->Prop} {a b:List V} (ha:InL S a) (hb:InL S b):InL S (a++b):=by
 grind [aZ3]
theorem az8 (a b:List V):B1 (a++b)=B1 a++B1 b:=by simp [aF9]
mutual
theorem ThV.wk {K:Tys} {s:Ty} {r:Res} {v:V}:ThV K s r v->J5 v=v
 | .num=>rfl
 | .list=>by simp [J5,aj0]
 | .unit=>rfl
 | .pair h1 h2=>by simp [J5,B1,h1.wk,h2.wk]
 | .clo h _=>by simp [J5,az8,aQ5,B1,h.wk]
theorem aM7.wk {K:Tys} {g:List Ty} {e:List Res} {v:V}:aM7 K g e v->J5 v=v
 | .nil=>rfl
 | .snoc h1 h2=>by simp [J5,B1,h1.wk,h2.wk]
end
mutual
theorem ThV.ins {K:Tys} {S:Id->Prop} {s:Ty} {r:Res} {v:V}:ThV K s r v->InV S v
 | .num=>by simp [InV]
 | .list=>by grind [InV,ba3]
 | .unit=>by simp [InV,InL]
 | .pair h1 h2=>by exact ⟨h1.ins,h2.ins,trivial⟩
 | .clo h _=>by
  refine dm7 (by simp [at6]) ?_;exact ⟨h.ins,trivial⟩
theorem aM7.ins {K:Tys} {S:Id->Prop} {g:List Ty} {e:List Res} {v:V}:aM7 K g e v->InV S v
 | .nil=>by simp [InV]
 | .snoc h1 h2=>by exact ⟨h2.ins,h1.ins,trivial⟩
end
def IsI (v:V):Prop:=∃ t w,v=.iface t w/\J5 w=w/\∀ S,InV S w=True
def IsE (v:V):Prop:=v=.U3\/∃ c,v=.el c 0/\B1 c=c/\∀ S,InL S c=True
variable {v:V} {t:TypeId}
theorem dN3 (h:J5 v=v) (hi:∀ S,InV S v) {w:V} (e:v=.iface t w):IsI v:=by
 subst e;simp only [J5,V.iface.injEq,ag2] at h;exact ⟨t,w,rfl,h,fun S=>eq_true (by have:=hi S;rwa [InV] at this)⟩
variable {K:Tys}
theorem ThV.isI {s:Ty} (h:ThV K s r v):IsI v:=by
 have hw:=h.wk;have hi:∀ S,InV S v:=fun S=>h.ins;cases h<;>grind [dN3]
variable {g:List Ty}
theorem aM7.isE (h:aM7 K g e v):IsE v:=by
 have hw:=h.wk;have hi:∀ S,InV S v:=fun S=>h.ins;cases h with
 | nil=>exact .inl rfl
 | snoc _ _ =>
  refine .inr ⟨_,rfl,?_,fun S=>eq_true ?_⟩
  ·simpa [J5] using hw
  ·have:=hi S;rwa [InV] at this
def atV:Nat->V->Option V
 | 0,.el [v,_] 0=>some v
 | i+1,.el [_,n] 0=>atV i n
 | _,_=>none
theorem aM7.get {ve:V} (h:aM7 K g e ve):∀ i:Nat,i<e.length->∃ v a r,atV i ve=some v/\e[e.length - 1 - i]? = some r/\g[e.length - 1 - i]? = some a/\ThV K a r v/\e.length=g.length:=by
 suffices hs:∀ (n:Nat) {g:List Ty} {e:List Res} {ve:V},e.length=n->aM7 K g e ve->e.length=g.length/\∀ i:Nat,i<e.length->∃ v a r,atV i ve=some v/\e[e.length - 1 - i]? = some r/\g[e.length - 1 - i]? = some a/\ThV K a r v by
  grind
 intro n
 induction n with
 | zero =>
  intro g e ve hn h;cases h<;>grind
 | succ n ih =>
  intro g e ve hn h;cases h with
  | nil=>simp at hn
  | @snoc g a e r v ve h1 h2 =>
   have hl:e.length=n:=by simpa using hn
   obtain ⟨i1,i2⟩:=ih hl h1;refine ⟨by simp [i1],fun i hi=>?_⟩;cases i with
   | zero =>
    refine ⟨v,a,r,rfl,?_,?_,h2⟩
    all_goals grind
   | succ i =>
    grind [atV]
theorem aM7.len {ve:V} (h:aM7 K g e ve):e.length=g.length:=by
 cases he:e with
 | nil =>
  generalize hq:([]:List Res)=q at h;cases h<;>grind
 | cons x l =>
  obtain ⟨_,_,_,_,_,_,_,h⟩:=h.get 0 (by rw [he];simp);rw [<- he];exact h
theorem Ext.drew (g:G) (w:World):Ext g w g w.drew :=
 ⟨rfl,rfl,rfl,b_,fun _=>w7 _,fun _ _ _=>rfl,⟨fun _ _ h=>⟨rfl,h⟩,fun _ _ _ _ _ h=>⟨.inl rfl,h⟩⟩,fun id h=>⟨h,rfl,.inl rfl⟩,w7 _⟩
variable {w:World}
theorem Rel.drew {env:Nat->Option (List V)} {g:G} {h:H} (r:Rel env g w h):Rel env g w.drew h:=by
 have hx:=Ext.drew g w;refine ⟨r.dom,r.top,?_,r.inj,?_,r.apart,r.U9,r.map,?_,fun k cs' e=>(r.glob k cs' e).mono hx⟩
 ·intro id cs e
  obtain ⟨vs,h1,h2,h3,h4,h5⟩:=r.box id cs e;exact ⟨vs,h1,h2,fun i c v a b=>(h3 i c v a b).mono hx,h4,h5⟩
 ·intro id n k e
  obtain ⟨h1,h2,h3,hk⟩:=r.tok id n k e;exact ⟨h1,h2,fun hlt=>by
   obtain ⟨b,off,vs',s1,s2,s3,s4,s5⟩:=h3 hlt;exact ⟨b,off,vs',s1,s2,s3,s4,s5⟩,hk⟩
 ·intro b hb;exact r.B3 b hb
variable {P:Program} {o:Oper} {y:Operand} {nid:Id} {cc:Cap}
theorem bY0 {env:Nat->Option (List V)} {g:G} {h:H} {ρc:Operand->Value} {ρ:Operand->V} (r:Rel env g w h) (hρ:∀ x,RV g w (ρc x) (ρ x))
 {x:Operand} {t2:TypeId} {i j:TyI} {xs:List (List V)}
  (ho:o.op=.call { callee:=.builtin .append,args:=#[x,y],argTypes:=#[t,t2] }) (hi:tyi P t=some i) (hj:tyi P t2=some j)
  (hx1:ρ x=.sl .full []) (hy1:ρ y=.sl cc xs) (hne:xs≠[]) (hn:h nid=none)
  (hk1:i.kind=4) (hk2:j.kind=4) (hk3:i.n7≠0) (hk4:i.T7.length=i.n7) (hk6:xs.all (fun e=>e.length==i.n7)=true)
  (hk8:xs.length * i.ah7<=140737488355328) (hk9:xs.length<=140737488355328) :
  ∃ (q:Nat) (c:Value) (w':World) (g':G),(execOp ρc o).run P w=.ok (.value c) w'/\Ext g w g' w'/\Rel env g' w' (p8 h nid (.box (xs.flatten++List.replicate (q * i.n7) .undef)))/\RV g' w' c (.slr nid xs.length (xs.length+q)):=by
 obtain ⟨inf,d,z,i1,i2,i0,is,ib,ia,iz,_,ik4,_,_,_,_,_,iez⟩:=R1 hi;obtain ⟨e,rfl,hes,heb,_⟩:=ik4 hk1;obtain ⟨inf2,d2,z2,j1,j2,j0,_,_,_,_,_,jk4,_⟩:=R1 hj;obtain ⟨e2,rfl,_⟩:=jk4 hk2;obtain ⟨ie,de,he1,he2,he3⟩:=U6 (P:=P) (t:=e) (by rw [<- hes];exact hk3);have hez:=(iez e (.inl rfl)).2 ie he1;have hsz:ie.size=i.n7:=by rw [he3,hes]
 obtain ⟨ze,hze,cd7⟩:∃ ze,ie.zero=some ze/\ze.cells.size=i.n7:=by
  grind
 have cp3:ie.bytes=i.ah7:=by rw [heb];simp [bytesOf,he1]
 have hx:=hρ x;have hy:=hρ y;rw [hx1] at hx;rw [hy1] at hy;generalize hcx:ρc x=vx at hx;generalize hcy:ρc y=vy at hy;cases hx with|sl a cap _ es k cs hke cc9 de3 hrs cM4=>?_
 cases hy with|sl a2 cap2 _ xs k2 cx hkx dV7 de4 hrx ee2=>?_
 have cq5:∀ e∈xs,e.length=i.n7:=by
  rw [ad2] at hk6;intro e he;simpa using hk6 e he
 obtain ⟨b,off,rfl,hlx,dM2⟩:=de4 hne;have ee5:k2=i.n7:=by
  cases xs with
  | nil=>exact absurd rfl hne
  | cons e0 _=>rw [<- hkx e0 b_,cq5 e0 b_]
 subst ee5;have hfx:=ac7 xs i.n7 cq5;have hc0:cap=0:=cM4;subst hc0;have cM7:0<xs.length:=cx1.2 hne;have hnc:=by3 xs.length 0 cM7;generalize hq:w.tape w.drawn (.appendCap xs.length 0 e) % (9223372036854775808 - xs.length)=q
 let arr:Array Value:=((List.range (xs.length * ie.size)).map cx).toArray++Builtin.zeroCells ze.cells q
 have F5:(execOp ρc o).run P w=.ok (.value (.slice (some ⟨w.heap.size,0,none⟩) xs.length (xs.length+q))) (w.drew.alloc (.cells arr e)):=by
  have b1:¬ ((9223372036854775807:Int)<(xs.length:Int)/\ie.bytes=0):=by omega
  have b2:¬ (281474976710656<Builtin.nextslicecap xs.length 0 * ie.bytes):=by
   rw [cp3];have:Builtin.nextslicecap xs.length 0 * i.ah7<=2 * xs.length * i.ah7:=bo4 _ hnc;rw [Nat.mul_assoc] at this;omega
  have b3:¬ (xs.length<=0):=by omega
  have f1:(Builtin.firstCells ie.size 0 (.slice a 0 0)).run P w.drew=.ok #[] w.drew:=by
   cases a with
   | none=>rfl
   | some a=>simp [Builtin.firstCells,loadCells,loadCellsFrom]
  have f2:=bi4 (P:=P) (g:=g) (w:=w) (a:=some ⟨b,off,none⟩) (cap:=cap2) (k:=i.n7) (es:=xs) (cell:=cx) (fun _=>⟨b,off,rfl,hlx,dM2⟩) w.drew (fun _=>rfl);rw [<- hsz] at f2;simp [execOp,ho,resolve,invoke,builtin,Builtin.append_,Q9 i2,Q9 j2,G2 he1,hcx,hcy,Builtin.lenOf,typeInfo,he1,b3,Question.forced,Question.cut];rw [y9 a_];rw [y9 b1,y9 b2,f1];simp only [Result.andThen_ok];rw [f2];simp [zeroValue,typeInfo,he1,hze,newRow,hq,arr]
 have hv:RVL g w.drew arr (xs.flatten++List.replicate (q * i.n7) .undef):=by
  have hx':=Ext.drew g w;refine ⟨by grind [bM9],fun n c v hc hv=>?_⟩;by_cases hlt:n<xs.flatten.length
  ·rw [aA2 hlt] at hv
   simp only [arr] at hc;rw [aL6 (by simp;rw [hsz];omega)] at hc;simp only [bB8,ah6] at hc;rw [bC6 (by rw [hsz];omega)] at hc;simp only [bo9,S6] at hc;subst hc;exact (hrx n v hv).mono hx'
  ·rw [aA1 a_,List.getElem?_replicate] at hv
   split at hv
   ·cases hv;exact .undef _
   ·cases hv
 obtain ⟨g',hx',hr',hv'⟩:=br0 (r.drew) hn hv e;refine ⟨q,_,_,g',F5,(Ext.drew g w).trans hx',hr',?_⟩;generalize hp:Value.pointer (some ⟨w.drew.heap.size,0,none⟩)=p at hv';cases hv' with
 | ptr _ _ hd =>
  simp only [Value.pointer.injEq,S6,Addr.mk.injEq] at hp;rw [show w.heap.size=g'.loc nid from hp.1];exact .slr nid xs.length (xs.length+q) hd a_
variable {c:Value}
theorem RV.dQ2 {g:G} {id:Id} {n cap:Nat} (h:RV g w c (.slr id n cap)):RV g w c (.slb id n):=by
 cases h with|slr _ _ _ h hc=>grind [slb]
theorem ck9 {env:Nat->Option (List V)} {g:G} {h:H} {ρc:Operand->Value} {ρ:Operand->V} (r:Rel env g w h) (hρ:∀ x,RV g w (ρc x) (ρ x))
 {x:Operand} {t2:TypeId} {i j:TyI} {xs:List (List V)}
  (ho:o.op=.call { callee:=.builtin .append,args:=#[x,y],argTypes:=#[t,t2] }) (hi:tyi P t=some i) (hj:tyi P t2=some j)
  (hx1:ρ x=.sl .full []) (hy1:ρ y=.sl cc xs) (hne:xs≠[]) (hn:h nid=none)
  (hk1:i.kind=4) (hk2:j.kind=4) (hk3:i.n7≠0) (hk4:i.T7.length=i.n7) (hk6:xs.all (fun e=>e.length==i.n7)=true)
  (hk8:xs.length * i.ah7<=140737488355328) (hk9:xs.length<=140737488355328) :
  ∃ (q:Nat) (c:Value) (w':World) (g':G),(execOp ρc o).run P w=.ok (.value c) w'/\Ext g w g' w'/\Rel env g' w' (p8 h nid (.box (xs.flatten++List.replicate q .undef)))/\RV g' w' c (.slb nid xs.length):=by
 obtain ⟨q,c,w',g',h1,h2,h3,h4⟩:=bY0 r hρ ho hi hj hx1 hy1 hne hn hk1 hk2 hk3 hk4 hk6 hk8 hk9;exact ⟨_,c,w',g',h1,h2,h3,h4.dQ2⟩
theorem as4 {P:Program} {env:Nat->Option (List V)} {ops:Array Oper} {gen reg:Nat} {K:St->Prop} :
  ∀ (rest:List Oper) (i:Nat) (log:List av4) (σ:St),(∀ j o,rest[j]? = some o->ops[i+j]? = some o)->O1 P env ops false gen reg rest i log K σ ->
   ∃ l σe,l.map (·.1)=(List.range rest.length).map (i+·)/\as0 P env ops gen reg l σ σe/\K σe
 | [],i,log,σ,_,h=>⟨[],σ,rfl,.nil σ,h⟩
 | o::rest,i,log,σ,hr,h=>by
  have ho:ops[i]? = some o:=by have:=hr 0 o;simpa using this
  have hr':∀ j p,rest[j]? = some p->ops[i+1+j]? = some p:=fun j p hp=>by
   have:=hr (j+1) p (by simpa using hp)
   grind
  have dM5:i::(List.range rest.length).map (i+1+·)=(List.range (o::rest).length).map (i+·):=by
   rw [J1,List.range_succ_eq_map,E0,aR3];simp;omega
  rcases bX8 h with ⟨hg,h'⟩|⟨hg,e,hs,dX2,h'⟩
  ·obtain ⟨l,σe,h1,h2,h3⟩:=as4 rest (i+1) log _ hr' h'
   exact ⟨(i,none)::l,σe,by grind,.cons _ _ _ _ _ ⟨o,ho,hg,rfl⟩ h2,h3⟩
  ·obtain ⟨l,σe,h1,h2,h3⟩:=as4 rest (i+1) _ _ hr' h'
   exact ⟨(i,some e)::l,σe,by grind,.cons _ _ _ _ _ ⟨o,ho,hg,hs,rfl⟩ h2,h3⟩
theorem bg0 {P:Program} {env:Nat->Option (List V)} {ops:Array Oper} {gen reg n:Nat} (hn:aL1 n ops=true) (l2:List Nat) :
  ∀ (l:List (Nat × Option Eff)) {σ σe:St} (h:as0 P env ops gen reg l σ σe) {g:G} {w:World} {a:Act} (r:M1 env n g w a σ)
  {Q:Exit->Act->World->Prop} (hk:∀ g' a' w',Ext g w g' w'->M1 env n g' w' a' σe->wpOps P ops Q l2 a' w'),wpOps P ops Q (l.map (·.1)++l2) a w
 | [],_,_,.nil _,g,w,a,r,Q,hk=>hk g a w (Ext.refl g w) r
 | x::l,_,_,.cons _ _ _ σ1 _ hs t,g,w,a,r,Q,hk=>by
  exact bv4 hn hs r fun g' a' w' hx r'=>bg0 hn l2 l t r' fun g2 a2 w2 hx2 r2=>hk g2 a2 w2 (hx.trans hx2) r2
structure dR4 (P:Program) (s x:V) (T U:Option TyI) (xs:List (List V)):Prop where
 s:s=.sl .full []
 x:∃ cc,x=.sl cc xs
 ne:xs≠[]
 ty:∃ i j,T=some i/\U=some j/\i.kind=4/\j.kind=4/\i.n7≠0/\i.T7.length=i.n7/\xs.all (fun e=>e.length==i.n7)=true/\xs.length * i.ah7<=140737488355328/\xs.length<=140737488355328
variable {c:Ctx} {gen id d:Nat} {k:List It} {σ:St} {ops:Array Oper}
theorem aU8 (j:Nat) (aE3:ops[j]? = some o) (hg:o.guard=none) (bh1:o.dst=some d) {K:St->Prop}
  (hK:∀ σ1,K σ1->∃ O:V->H->Prop,(∀ {g:G} {w:World} {ρc:Operand->Value},Rel c.env g w σ1.h->(∀ x,RV g w (ρc x) (av c.env σ1.tm x)) ->
    ∃ v h' cv w' g',O v h'/\(execOp ρc o).run c.P w=.ok (.value cv) w'/\Ext g w g' w'/\Rel c.env g' w' h'/\RV g' w' cv v) /\
   ∀ v h',O v h'->O1 c.P c.env ops false gen id (ops.toList.drop (j+1)) (j+1) [] (fun σ'=>AR c gen k .normal σ') ⟨upd σ1.tm (some d) v,h'⟩)
  (h:O1 c.P c.env ops false gen id (ops.toList.take j) 0 [] K σ) :
  AR c gen (.code (.region id ops false)::k) .normal σ:=by
 rw [<- bh1] at hK;intro ok hm g a w hx r;simp only [T9,O2,A3] at ok;obtain ⟨⟨hd,_⟩,okk⟩:=ok;have hj:j<ops.size:=(Z3.1 aE3).1;obtain ⟨l1,σ1,h1,h2,hk⟩:=as4 (ops.toList.take j) 0 [] σ (fun i o h=>by
  grind) h
 have hl1:l1.map (·.1)=List.range j:=by
  rw [h1,ae6];rw [aZ0 (by grind)];simp
 refine wp_region ?_;have bx2:List.range ops.size=List.range j++(j::(List.range (ops.size - (j+1))).map (j+1+·)):=by
  apply List.ext_getElem?;intro i;by_cases hi:i<j
  ·rw [aA2 (by simpa using hi),bC6 a_,bC6 hi]
  ·rw [aA1 (by simpa using hi)]
   simp only [bC1];rcases Nat.eq_or_lt_of_le (bC3 hi) with e|hlt
   ·subst e;simp [hj]
   ·obtain ⟨m,rfl⟩:∃ m,i=j+1+m:=⟨i - (j+1),a_⟩
    rw [show j+1+m - j=m+1 by omega,bN2];by_cases hm:m<ops.size - (j+1)
    all_goals grind [List.getElem?_range]
 rw [bx2,<- hl1];refine bg0 hd _ l1 h2 r fun g' a' w' hx' r'=>?_;rw [wpOps_cons];unfold wpOp;rw [aE3];have hw:Region.wanted o (yielded ops a'.tmps)=true:=by unfold Region.wanted;rw [hg]
 simp only [hw,p7];obtain ⟨O,hR,hq⟩:=hK σ1 hk;obtain ⟨v,h',cv,w2,g2,hO,F5,hx2,hr2,hv2⟩:=hR (ρc:=a'.eval) r'.rel (fun x=>bL2 r' x);refine .inl ?_;simp only [Oper.wp,F5,Oper.upon_value];have r2:=r'.put hx2 (d:=o.dst) (fun t ht=>as6 hd aE3 t ht) hr2 hv2;obtain ⟨l3,σ3,h3,h4,h5⟩:=as4 (ops.toList.drop (j+1)) (j+1) [] _ (fun i o h=>by
  grind) (hq _ _ hO)
 have hl3:l3.map (·.1)=(List.range (ops.size - (j+1))).map (j+1+·):=by
  rw [h3,List.length_drop];simp
 rw [<- hl3];exact aS5 hd l3 h4 r2 fun g3 a3 w3 hx3 r3=>h5 okk hm g3 a3 w3 (((hx.trans hx').trans hx2).trans hx3) r3
theorem bC9 (j:Nat) {x:Operand} {t2:TypeId} (aE3:ops[j]? = some o) (hg:o.guard=none) (bh1:o.dst=some d)
  (hop:o.op=.call { callee:=.builtin .append,args:=#[x,y],argTypes:=#[t,t2] })
  (h:O1 c.P c.env ops false gen id (ops.toList.take j) 0 [] (fun σ1=>∃ xs,dR4 c.P (av c.env σ1.tm x) (av c.env σ1.tm y) (tyi c.P t) (tyi c.P t2) xs/\σ1.h ⟨gen,id,j⟩=none /\
   ∀ q,O1 c.P c.env ops false gen id (ops.toList.drop (j+1)) (j+1) [] (fun σ'=>AR c gen k .normal σ')
    ⟨upd σ1.tm (some d) (.slb ⟨gen,id,j⟩ xs.length),p8 σ1.h ⟨gen,id,j⟩ (.box (xs.flatten++List.replicate q .undef))⟩) σ) :
  AR c gen (.code (.region id ops false)::k) .normal σ:=by
 refine aU8 j aE3 hg bh1 (fun σ1 ⟨xs,hA,de0,hq⟩=>⟨fun v h'=>∃ q,v=.slb ⟨gen,id,j⟩ xs.length/\h'=p8 σ1.h ⟨gen,id,j⟩ (.box (xs.flatten++List.replicate q .undef)),fun r hρ=>?_,fun v h' ⟨q,e1,e2⟩=>by subst e1;subst e2;exact hq q⟩) h;obtain ⟨a1,⟨cc,a2⟩,a3,i,jj,t1,t2',k1,k2,k3,k4,k6,k8,k9⟩:=hA;obtain ⟨q,cv,w2,g2,F5,hx2,hr2,hv2⟩:=ck9 r hρ hop t1 t2' a1 a2 a3 de0 k1 k2 k3 k4 k6 k8 k9;exact ⟨_,_,cv,w2,g2,⟨q,rfl,rfl⟩,F5,hx2,hr2,hv2⟩
def Fz (id:Id) (n:Nat) (rows:List (List V)) (v v':V):Prop:=v'=.undef\/v'=v\/(v=.slb id n/\v'=.sl .any rows)
def FzR (R:V->V->Prop) (v v':V):Prop:=v'=.undef\/v'=v\/R v v'
variable {e:Exit} {cs:List V} {tm':Nat->V}
theorem aW8 (id:Id) (m:Nat) {R:V->V->Prop} (L:List (Nat × V)) (B:List (Id × List V × List V)) {hz h':H}
  (hR:∀ {g g':G} {w:World} {cv:Value} {v v':V},Rel c.env g w σ.h->g'={ g with dom:=fun j=>decide (h' j≠none),lim:=fun b=>if b=g.loc id then m else g.lim b }->(∀ b,g.lim b<=g'.lim b) ->
   (∀ j,h' j≠none->g'.dom j=true/\g'.loc j=g.loc j/\g'.buf j=g.buf j)->RV g w cv v->R v v'->InV (fun j=>h' j≠none) v'->RV g' w cv v')
  (hh':h'=B.foldr (fun b h=>p8 h b.1 (.box b.2.2)) hz) (bS1:tm'=L.foldr (fun p tm=>upd tm (some p.1) p.2) (fun _=>.undef))
  (R6:Rel c.env c.g0 c.w0 c.h0) (hb:σ.h id=some (.box cs)) (hm:m<=cs.length) (h0:hz id=none) (cM6:∀ b∈B,b.1≠id) (hd0:∀ j,c.h0 j≠none->hz j≠none)
  (hag:∀ j,hz j≠none->(hz j=σ.h j/\∀ bs,hz j=some (.box bs)->c.h0 j=some (.box bs))\/∃ dk,σ.h j=some (.box dk)/\hz j=some (.box dk)/\InL (fun j=>h' j≠none) dk)
  (hB:∀ b∈B,σ.h b.1=some (.box b.2.1)/\b.2.1.length=b.2.2.length/\(∀ p∈b.2.1.zip b.2.2,FzR R p.1 p.2)/\InL (fun j=>h' j≠none) b.2.2)
  (hL:∀ p∈L,FzR R (σ.tm p.1) p.2/\InV (fun j=>h' j≠none) p.2)
  (h:AR c gen k e ⟨tm',h'⟩):AR c gen k e σ:=by
 have key:∀ (B':List (Id × List V × List V)) (j:Id),(B'.foldr (fun b h=>p8 h b.1 (.box b.2.2)) hz) j=hz j\/∃ b∈B',b.1=j/\(B'.foldr (fun b h=>p8 h b.1 (.box b.2.2)) hz) j=some (.box b.2.2):=by
  intro B' j
  induction B' with
  | nil=>exact .inl rfl
  | cons b B' ih =>
   by_cases hj:j=b.1
   ·right;exact ⟨b,b_,hj.symm,by simp only [G4];rw [hj,A1]⟩
   ·simp only [G4]
    grind [m7]
 have keyT:∀ (L':List (Nat × V)) (t:Nat),(L'.foldr (fun p tm=>upd tm (some p.1) p.2) (fun _=>V.undef)) t=.undef\/∃ p∈L',p.1=t/\(L'.foldr (fun p tm=>upd tm (some p.1) p.2) (fun _=>V.undef)) t=p.2:=by
  intro L' t
  induction L' with
  | nil=>exact .inl rfl
  | cons p L' ih =>
   grind [upd]
 have hid:h' id=none:=by
  rcases key B id with h1|⟨b,h1,h2,_⟩
  ·rw [hh',h1];exact h0
  grind
 have hh:∀ j,h' j≠none->(h' j=σ.h j/\∀ bs,h' j=some (.box bs)->c.h0 j=some (.box bs)) \/
   ∃ bs bs',σ.h j=some (.box bs)/\h' j=some (.box bs')/\bs.length=bs'.length/\(∀ (i:Nat) v v',bs[i]? = some v->bs'[i]? = some v'->FzR R v v')/\InL (fun j=>h' j≠none) bs':=by
  intro j hj;rcases key B j with h1|⟨b,h1,h2,h3⟩
  ·have e1:h' j=hz j:=by rw [hh'];exact h1
   rcases hag j (by rw [<- e1];exact hj) with ⟨a1,a2⟩|⟨dk,a1,a2,a3⟩
   ·grind
   ·exact .inr ⟨dk,dk,a1,by rw [e1,a2],rfl,fun i v v' e1 e2=>.inr (.inl (by grind)),a3⟩
  ·right
   obtain ⟨b1,b2,b3,b4⟩:=hB b h1;subst h2;refine ⟨_,_,b1,by rw [hh'];exact h3,b2,fun i v v' hv hv'=>?_,b4⟩;have:(b.2.1.zip b.2.2)[i]? = some (v,v'):=by rw [List.getElem?_zip_eq_some];exact ⟨hv,hv'⟩
   grind
 have bE7:∀ j,c.h0 j≠none->h' j≠none:=by
  intro j hj;rcases key B j with h1|⟨b,h1,h2,h3⟩
  all_goals simp_all
 have htm:∀ t,FzR R (σ.tm t) (tm' t)/\InV (fun j=>h' j≠none) (tm' t):=by
  intro t;rcases keyT L t with h1|⟨p,h1,h2,h3⟩
  ·rw [bS1,h1];exact ⟨.inl rfl,by trivial⟩
  ·subst h2
   rw [bS1,h3];exact hL p h1
 clear hh' bS1 hB hL hag key keyT h0;intro ok hm' g a w hx r;have q:=r.rel;obtain ⟨vs,⟨ty,b1⟩,b2,b3,b4,b5⟩:=q.box id cs hb
 let g':G:={ g with dom:=fun j=>decide (h' j≠none),lim:=fun b=>if b=g.loc id then m else g.lim b }
 have hl:∀ b,g.lim b<=g'.lim b:=fun b=>by
  grind
 have hlo:∀ b,b≠g.loc id->g'.lim b=g.lim b:=fun b hb=>by grind
 have hS:∀ j,h' j≠none->g'.dom j=true/\g'.loc j=g.loc j/\g'.buf j=g.buf j:=fun j hj=>⟨by grind,rfl,rfl⟩;have hmv:∀ {c:Value} {v:V},RV g w c v->InV (fun j=>h' j≠none) v->RV g' w c v:=fun h1 h2=>h1.freeze hl (fun _=>rfl) hS h2;have ak2:∀ j,h' j≠none->∃ ob,σ.h j=some ob:=fun j hj=>by
  rcases hh j hj with ⟨h1,_⟩|⟨bs,bs',h1,_⟩
  ·cases hj':h' j<;>grind
  ·exact ⟨_,h1⟩
 have hx':Ext c.g0 c.w0 g' w:=by
  refine ⟨hx.os,hx.tape,hx.output,hx.size,fun b=>S1 (hx.lim b) (hl b),hx.cells,hx.wr,fun j hj=>?_,hx.top⟩;obtain ⟨_,a2,a3⟩:=hx.dom j hj;exact ⟨by show decide (h' j≠none)=true;simpa using bE7 j ((R6.dom j).1 hj),a2,a3⟩
 have hfz:∀ {cv:Value} {v v':V},RV g w cv v->FzR R v v'->InV (fun j=>h' j≠none) v'->RV g' w cv v':=by
  intro cv v v' h1 h2 h3;rcases h2 with rfl|rfl|h2
  ·exact .undef _
  ·exact hmv h1 h3
  ·exact hR q rfl hl hS h1 h2 h3
 have bw9:∀ j bs',h' j=some (.box bs')->∃ bs,σ.h j=some (.box bs)/\bs.length=bs'.length/\∀ (vs:Array Value),bW6 g w vs bs->bW6 g' w vs bs':=by
  intro j bs' e';rcases hh j (by rw [e'];simp) with ⟨h1,h2⟩|⟨bs,bs2,h1,h2,h3,h4,h5⟩
  ·have h0:=h2 bs' e'
   refine ⟨bs',by rw [<- h1];exact e',rfl,fun vs hv=>⟨hv.1,fun i cv v hc hv'=>hmv (hv.2 i cv v hc hv') ?_⟩⟩;obtain ⟨vs0,_,z2,z3,_⟩:=R6.box j bs' h0;obtain ⟨c0,hc0⟩:=bs5 (g:=c.g0) (w:=c.w0) z2 hv';have:=(z3 i c0 v hc0 hv').inV;exact as3 (fun id hid=>bE7 id ((R6.dom id).1 hid)) v this
  ·rw [e'] at h2;cases h2
   refine ⟨bs,h1,h3,fun vs hv=>⟨by have:=hv.1;omega,fun i cv v hc hv'=>?_⟩⟩;have hi:i<bs.length:=by rw [h3];exact (F2.1 hv').1
   have hbi:bs[i]? = some bs[i]:=W4 hi;exact hfz (hv.2 i cv _ hc hbi) (h4 i _ _ hbi hv') (M7 h5 hv')
 have hne:∀ j bs',h' j=some (.box bs')->g.loc j≠g.loc id:=fun j bs' e' e2=>by
  obtain ⟨bs,h1,_⟩:=bw9 j bs' e';have:=q.inj j id bs cs h1 hb e2
  grind
 have cp6:∀ j l,h' j=some (.map l)->σ.h j=some (.map l):=fun j l e'=>by
  grind
 have aa4:∀ j n' k',h' j=some (.tok n' k')->σ.h j=some (.tok n' k'):=fun j n' k' e'=>by
  grind
 refine h ok hm' g' a w hx' ⟨?_,fun t=>?_,r.size,r.defers⟩
 ·refine ⟨fun j=>by grind,fun j hj=>?_,?_,?_,?_,?_,?_,q.bp3 fun j l e'=>⟨cp6 j l e',fun _=>⟨rfl,rfl,fun a=>a⟩⟩,?_,?_⟩
  ·obtain ⟨ob,ho⟩:=ak2 j hj
   exact q.top j (by rw [ho];simp)
  ·intro j bs' e'
   obtain ⟨bs,h1,h2,h3⟩:=bw9 j bs' e';obtain ⟨vs',c1,c2,c3,c4,c5⟩:=q.box j bs h1;have:=h3 vs' ⟨c2,c3⟩;exact ⟨vs',c1,this.1,this.2,by grind,c5⟩
  ·intro i1 i2 c1 c2 e1 e2 e3
   obtain ⟨d1,f1,_⟩:=bw9 i1 c1 e1;obtain ⟨d2,f2,_⟩:=bw9 i2 c2 e2;exact q.inj i1 i2 d1 d2 f1 f2 e3
  ·intro j n' k' e'
   obtain ⟨h1,h2,h3,hk⟩:=q.tok j n' k' (aa4 j n' k' e');refine ⟨h1,h2,fun hlt=>?_,hk⟩;obtain ⟨b,off,vs',s1,s2,s3,s4,s5⟩:=h3 hlt;have:=q.apart j id n' k' cs (aa4 j n' k' e') hlt hb _ s1;exact ⟨b,off,vs',s1,s2,s3,by grind,s5⟩
  ·intro i1 i2 n' k' c' e1 hlt e2
   obtain ⟨d2,f2,_⟩:=bw9 i2 c' e2;exact q.apart i1 i2 n' k' d2 (aa4 i1 n' k' e1) hlt f2
  ·intro i1 i2 n1 n2 k1 k2 e1 hlt e2 an6
   exact q.U9 i1 i2 n1 n2 k1 k2 (aa4 _ _ _ e1) hlt (aa4 _ _ _ e2) an6
  ·intro b hb'
   rw [hlo b (by have:=q.lt hb;omega)];exact q.B3 b hb'
  ·intro k cs' e'
   refine hmv (q.glob k cs' e') ?_;have:=(R6.glob k cs' e').inV;exact as3 (fun id hid=>bE7 id ((R6.dom id).1 hid)) _ this
 ·exact hfz (r.tm t) (htm t).1 (htm t).2
theorem bw4 {env:Nat->Option (List V)} {g g':G} {hs h':H} {id:Id} {n kk:Nat} {rows:List (List V)} (q:Rel env g w hs) (eg:g'={ g with dom:=fun j=>decide (h' j≠none),lim:=fun b=>if b=g.loc id then n * kk else g.lim b })
  (hl:∀ b,g.lim b<=g'.lim b) (hS:∀ j,h' j≠none->g'.dom j=true/\g'.loc j=g.loc j/\g'.buf j=g.buf j) (hb:hs id=some (.box cs)) (bJ2:cs.take (n * kk)=rows.flatten) (hlen:rows.length=n) (hk:∀ r∈rows,r.length=kk) (hle:n * kk<=cs.length)
  (cd2:S8 (fun j=>h' j≠none) rows):∀ cap,n<=cap->RV g' w (.slice (some ⟨g.loc id,0,none⟩) n cap) (.sl .any rows):=fun cap aa3=>by
 obtain ⟨vs,⟨ty,b1⟩,b2,b3,b4,b5⟩:=q.box id cs hb;have hmv:∀ {c:Value} {v:V},RV g w c v->InV (fun j=>h' j≠none) v->RV g' w c v:=fun h1 h2=>h1.freeze hl (fun _=>by rw [eg]) hS h2;have hm:g'.lim (g.loc id)=n * kk:=by rw [eg];simp
 subst hlen;refine .sl _ cap .any rows kk (fun i=>vs[i]?.getD undef) hk a_ (fun _=>⟨g.loc id,0,rfl,?_,fun i hi=>?_⟩) (fun i v hv=>?_) trivial
 all_goals grind [World.cell?,M7,aD4]
theorem cj2 (id:Id) (n kk:Nat) (rows:List (List V)) (L:List (Nat × V)) (B:List (Id × List V × List V)) {h':H}
  (hh':h'=B.foldr (fun b h=>p8 h b.1 (.box b.2.2)) c.h0) (bS1:tm'=L.foldr (fun p tm=>upd tm (some p.1) p.2) (fun _=>.undef))
  (R6:Rel c.env c.g0 c.w0 c.h0) (hb:σ.h id=some (.box cs)) (bJ2:cs.take (n * kk)=rows.flatten) (hlen:rows.length=n) (hk:∀ r∈rows,r.length=kk) (hle:n * kk<=cs.length)
  (h0:c.h0 id=none) (cM6:∀ b∈B,b.1≠id) (hag:m8 c.h0 σ.h)
  (cd2:S8 (fun j=>h' j≠none) rows)
  (hB:∀ b∈B,c.h0 b.1=none/\σ.h b.1=some (.box b.2.1)/\b.2.1.length=b.2.2.length/\(∀ p∈b.2.1.zip b.2.2,Fz id n rows p.1 p.2)/\InL (fun j=>h' j≠none) b.2.2)
  (hL:∀ p∈L,Fz id n rows (σ.tm p.1) p.2/\InV (fun j=>h' j≠none) p.2)
  (h:AR c gen k e ⟨tm',h'⟩):AR c gen k e σ :=
 aW8 (R:=fun v v'=>v=.slb id n/\v'=.sl .any rows) id (n * kk) L B (fun q eg hl hS h1 h2 h3=>by
  have cq1:=bw4 q eg hl hS hb bJ2 hlen hk hle cd2;obtain ⟨rfl,rfl⟩:=h2;cases h1<;>grind) hh' bS1 R6 hb hle h0 cM6 (fun _ h=>h) (fun j hj=>.inl ⟨(hag j hj).symm,fun _ h=>h⟩) (fun b hb=>(hB b hb).2) hL h
def T6 (ds:List Deferred) (env:Nat->Option (List V)) (n:Nat) (g:G) (w:World) (a:Act) (σ:St):Prop:=M1 env n g w { a with defers:=[] } σ/\a.defers=ds
variable {a:Act}
theorem T6.of {env:Nat->Option (List V)} {n:Nat} {g:G} (r:M1 env n g w a σ):T6 [] env n g w a σ:=by
 have h:=r.defers;obtain ⟨t,d⟩:=a;subst h;exact ⟨r,rfl⟩
theorem T6.st {env:Nat->Option (List V)} {n:Nat} {g:G} (r:T6 [] env n g w a σ):M1 env n g w a σ:=by
 obtain ⟨r,h⟩:=r;obtain ⟨t,d⟩:=a
 grind
theorem T6.av {ds:List Deferred} {env:Nat->Option (List V)} {n:Nat} {g:G} (r:T6 ds env n g w a σ) (x:Operand):RV g w (a.eval x) (av env σ.tm x):=bL2 r.1 x
theorem put_defers {d:Option Tmp} {v:Value}:{ a.put d v with defers:=[] }=({ a with defers:=[] }:Act).put d v/\(a.put d v).defers=a.defers:=by
 cases d<;>exact ⟨rfl,rfl⟩
variable {w':World}
theorem T6.put {ds:List Deferred} {env:Nat->Option (List V)} {n:Nat} {g:G} (r:T6 ds env n g w a σ) {g':G} (x:Ext g w g' w')
  {d:Option Nat} (hd:∀ t,d=some t->t<n) {c:Value} {h':H} (hr:Rel env g' w' h') (hv:RV g' w' c v):T6 ds env n g' w' (a.put d c) ⟨upd σ.tm d v,h'⟩ :=
 ⟨by rw [put_defers.1];exact r.1.put x hd hr hv,by rw [put_defers.2];exact r.2⟩
section
variable {F:Fence} (hF:∀ f,F.fn f) (hdp:F.depth=none) {m:Nat} {ds:List Deferred}
include hF hdp
variable {next:Act->World->Prop} {Q:Exit->Act->World->Prop}
theorem dj6 {env:Nat->Option (List V)} {n:Nat} {g:G} {eff:Eff}
  (hc:∀ k args w R,Calls P k args w R->CallsIn F (m - 1) P k args w R)
  (hs:Stp P env (av env σ.tm) σ.h nid o.op eff) (r:T6 ds env n g w a σ) (hd:∀ t,o.dst=some t->t<n)
  (hn:∀ g' a' w',Ext g w g' w'->T6 ds env n g' w' a' (σ.put o.dst eff)->next a' w'):o.wpIn F m P a w next Q:=by
 have hnd:∀ c,o.op≠.defer c:=by
  intro c hc;rcases hs with hs|⟨c',hc',_⟩
  ·rw [hc] at hs;simp [aM4,O6,H6] at hs
  ·grind
 refine ⟨fun f _=>hF f,?_⟩;rw [Oper.semAt_plain F _ _ hnd];rcases hs with hs|⟨c,hc0,hs⟩
 ·obtain ⟨cv,w',g',F5,hx,hr,hv⟩:=bz6 r.1.rel (fun x=>r.av x) hs
  have:=hn g' (a.put o.dst cv) w' hx (r.put hx hd hr hv)
  grind [Oper.uponIn_value,Oper.uponIn_skip]
 ·obtain ⟨k,vs,F5,bb3⟩:=bk9 r.1.rel (fun x=>r.av x) hc0 hs
  simp only [F5,Oper.uponIn_enter];refine ⟨fun h=>by grind,(hc _ _ _ _ bb3).mono ?_⟩;rintro e w' ⟨cv,g',rfl,hx',hr',hv'⟩;exact hn g' _ w' hx' (r.put hx' hd hr' hv')
end
section
variable {F:Fence} (hF:∀ f,F.fn f) (hdp:F.depth=none) {m:Nat} {ds:List Deferred}
variable {P:Program} (hcl:∀ k args w R,Calls P k args w R->CallsIn F (m - 1) P k args w R)
variable {env:Nat->Option (List V)} {ops:Array Oper} {gen reg n:Nat} (hn:aL1 n ops=true)
include hF hdp hcl hn
variable {Q:Exit->Act->World->Prop}
theorem aX5 {x:Nat × Option Eff} {σ':St} (h:cx5 P env ops gen reg x σ σ') {g:G} (r:T6 ds env n g w a σ)
  {K:Act->World->Prop} (hk:∀ g' a' w',Ext g w g' w'->T6 ds env n g' w' a' σ'->K a' w'):wpOpIn F m P ops Q x.1 K a w:=by
 obtain ⟨o,ho,h⟩:=h;unfold wpOpIn;rw [ho];simp only;cases hx:x.2 with
 | some e =>
  rw [hx] at h;obtain ⟨hg,hs,rfl⟩:=h;rw [aB5 r.1 hg]
  grind [dj6,as6]
 | none =>
  rw [hx] at h;obtain ⟨hg,rfl⟩:=h;rw [aB5 r.1 hg];exact ⟨fun f _=>hF f,hk g _ w (Ext.refl g w) (r.put (Ext.refl g w) (as6 hn ho) r.1.rel (.tup _ _ rfl b_))⟩
theorem aN9:∀ (l:List (Nat × Option Eff)) {σ σe:St} (h:as0 P env ops gen reg l σ σe) {g:G} {w:World} {a:Act} (r:T6 ds env n g w a σ)
  {Q:Exit->Act->World->Prop} (hk:∀ g' a' w',Ext g w g' w'->T6 ds env n g' w' a' σe->Q .normal a' w'),wpOpsIn F m P ops Q (l.map (·.1)) a w
 | [],_,_,.nil _,g,w,a,r,Q,hk=>hk g a w (Ext.refl g w) r
 | x::l,_,_,.cons _ _ _ σ1 _ hs t,g,w,a,r,Q,hk=>by
  exact aX5 hF hdp hcl hn hs r fun g' a' w' hx r'=>aN9 l t r' fun g2 a2 w2 hx2 r2=>hk g2 a2 w2 (hx.trans hx2) r2
end
section
variable {F:Fence} (hF:∀ f,F.fn f) (hdp:F.depth=none) {m:Nat} {ds:List Deferred}
variable {P:Program} (hcl:∀ k args w R,Calls P k args w R->CallsIn F (m - 1) P k args w R)
variable {env:Nat->Option (List V)} {ops:Array Oper} {gen reg n:Nat} (hn:aL1 n ops=true) (hok:aO0 ops=true)
include hF hdp hcl hn hok
variable {Q:Exit->Act->World->Prop}
theorem aU3 {l:List (Nat × Option Eff)} {σe:St} (hm:P.follows .mixedOrders=true) (hl:l.map (·.1)=List.range ops.size) (hpo:l.Pairwise (aN0 ops))
  (hch:as0 P env ops gen reg l σ σe) {g:G} (r:T6 ds env n g w a σ)
  (hk:∀ g' a' w',Ext g w g' w'->T6 ds env n g' w' a' σe->Q .normal a' w'):(Code.region id ops true).wpIn F m P Q a w :=
 wpIn_region_any hm (bl2 (R:=T6 ds env n) (S:=fun i K=>wpOpIn F m P ops Q i K) hok (fun h r k=>aX5 hF hdp hcl hn h r k) (fun _ _ _ h q=>⟨h,q⟩) (fun _ _ _ _ h q=>⟨h,q⟩) hk hl hpo hch r.1.draw.1 ⟨r.1.draw.2,r.2⟩)
end
structure XC where
 F:Fence
 ds:List Deferred
 X:G->World->Prop
 E:Exit->Act->World->Prop
structure XOk (P:Program) (x:XC):Prop where
 fn:∀ f,x.F.fn f
 dp:x.F.depth=none
 cl:∀ k args w R,Calls P k args w R->CallsIn x.F (0 - 1) P k args w R
 X:∀ g w g' w',Ext g w g' w'->x.X g w->x.X g' w'
def Z2 (P:Program) (F:Fence) (E:Exit->Act->World->Prop):List It->Exit->Act->World->Prop
 | [],e,a,w=>E e a w
 | .code y::k,.normal,a,w=>y.wpIn F 0 P (Z2 P F E k) a w
 | .code _::k,e,a,w=>Z2 P F E k e a w
 | .block _::k,.normal,a,w=>Z2 P F E k .normal a w
 | .block id::k,.exit id',a,w=>if id'=id then Z2 P F E k .normal a w else Z2 P F E k (.exit id') a w
 | .block _::k,e,a,w=>Z2 P F E k e a w
 | .inv _::k,e,a,w=>Z2 P F E k e a w
def ARX (c:Ctx) (x:XC) (gen:Nat) (k:List It) (e:Exit) (σ:St):Prop :=
 ∀ g a w,Ext c.g0 c.w0 g w->x.X g w->T6 x.ds c.env c.n g w a σ->Z2 c.P x.F x.E k e a w
section
variable {c:Ctx} {x:XC} {gen:Nat} {k:List It} {σ:St}
theorem E1 (h:ARX c x gen k .normal σ):ARX c x gen (.code .skip::k) .normal σ:=fun g a w hx hX r=>wpIn_skip (h g a w hx hX r)
variable {y:Code}
theorem A4 {z:Code} (h:ARX c x gen (.code y::.code z::k) .normal σ):ARX c x gen (.code (.seq y z)::k) .normal σ:=by
 intro g a w hx hX r;refine wpIn_seq (aA0 (h g a w hx hX r) ?_);intro e a' w' hp;cases e<;>exact hp
theorem cR8 {z:Code} {t:Operand} {b:Bool} (ht:av c.env σ.tm t=.bool b) (h1:b=true->ARX c x gen (.code y::k) .normal σ)
  (h2:b=false->ARX c x gen (.code z::k) .normal σ):ARX c x gen (.code (.cond t y z)::k) .normal σ:=by
 intro g a w hx hX r;have hr:=r.av t;rw [ht] at hr;have hc:a.eval t=.bool b:=by cases hh:a.eval t<;>rw [hh] at hr<;>cases hr;rfl
 refine wpIn_cond_split hc (fun hb=>?_) (fun hb=>?_)
 ·exact h1 hb g a w hx hX r
 ·exact h2 hb g a w hx hX r
theorem x6 (h:ARX c x gen (.code y::.block id::k) .normal σ):ARX c x gen (.code (.block id y)::k) .normal σ:=by
 intro g a w hx hX r;refine wpIn_block (aA0 (h g a w hx hX r) ?_);intro e a' w' hp;cases e<;>exact hp
theorem N2 (h:ARX c x gen k (.exit id) σ):ARX c x gen (.code (.exit id)::k) .normal σ:=fun g a w hx hX r=>wpIn_exit (h g a w hx hX r)
theorem K6 (h:ARX c x gen k .ret σ):ARX c x gen (.code .ret::k) .normal σ:=fun g a w hx hX r=>wpIn_ret (h g a w hx hX r)
theorem s7 (h:ARX c x gen k .normal σ):ARX c x gen (.block id::k) .normal σ:=fun g a w hx hX r=>h g a w hx hX r
theorem C7 (h:ARX c x gen k .normal σ):ARX c x gen (.block id::k) (.exit id) σ:=fun g a w hx hX r=>by
 simp only [Z2,p7];exact h g a w hx hX r
theorem F9 {id':Nat} (hne:id'≠id) (h:ARX c x gen k (.exit id') σ):ARX c x gen (.block id::k) (.exit id') σ:=fun g a w hx hX r=>by
 simp only [Z2,y9 hne];exact h g a w hx hX r
theorem E3 (h:ARX c x gen k (.exit id) σ):ARX c x gen (.code y::k) (.exit id) σ:=fun g a w hx hX r=>h g a w hx hX r
theorem al0 {gen':Nat} (h:∀ gn,(∀ id,σ.h id≠none->id.gen<gn)->ARX c x gn k e σ):ARX c x gen' k e σ :=
 fun g a w hx hX r=>h g.top (fun id hid=>r.1.rel.top id hid) g a w hx hX r
theorem o6 {draw:Bool} (ok:XOk c.P x) (hm:c.P.follows .mixedOrders=true) (hok:O2 c.n (.region id ops draw)=true)
  (h:O1 c.P c.env ops draw gen id ops.toList 0 [] (fun σ'=>ARX c x gen k .normal σ') σ):ARX c x gen (.code (.region id ops draw)::k) .normal σ:=by
 intro g a w hx hX r;simp only [O2,A3,bp0,Bool.not_eq_true'] at hok;obtain ⟨hd,hdr⟩:=hok;obtain ⟨l,σe,h1,h2,h3,h4⟩:=aH2 ops.toList 0 [] σ [] (fun j=>by simp) b_ b_ h;have hl:l.map (·.1)=List.range ops.size:=by rw [h1];simp
 have hk:∀ g' a' w',Ext g w g' w'->T6 x.ds c.env c.n g' w' a' σe->Z2 c.P x.F x.E k .normal a' w':=fun g' a' w' hx' r'=>h3 g' a' w' (hx.trans hx') (ok.X _ _ _ _ hx' hX) r';cases draw with
 | false =>
  refine wpIn_region ?_;rw [<- hl];exact aN9 ok.fn ok.dp ok.cl hd l h2 r hk
 | true =>
  have hdk:aO0 ops=true:=by simpa using hdr
  exact aU3 ok.fn ok.dp ok.cl hd hdk hm hl (h4 rfl).1 h2 r hk
end
def xF (c:Ctx):XC:=⟨Fence.wide,[],fun _ _=>True,bodyPostM Fence.wide 0 c.P c.fn c.R⟩
theorem cF5 (c:Ctx):XOk c.P (xF c):=⟨fun _=>trivial,rfl,fun k args w R h=>callsIn_wide.2 h,fun _ _ _ _ _ _=>trivial⟩
theorem aH5 (h:bodyPost c.P c.fn c.R e a w):bodyPostM Fence.wide 0 c.P c.fn c.R e a w:=by
 cases e with
 | normal=>obtain ⟨hd,v,h1,h2⟩:=h;grind [bodyPostM,LeavesInM,LeavesIn]
 | ret=>obtain ⟨hd,v,h1,h2⟩:=h;grind [bodyPostM,LeavesInM,LeavesIn]
 | panic ch=>obtain ⟨hd,h2⟩:=h;grind [bodyPostM,LeavesInM,LeavesIn]
 | outgrown=>exact h
 | exit id=>exact h.elim
 | goto l=>exact h.elim
theorem U4 {P:Program} {F:Fence} {E:Exit->Act->World->Prop} {e:Exit} (he:e=.ret\/(∃ ch,e=.panic ch)\/e=.outgrown) {a:Act} {w:World} (h:E e a w):∀ k:List It,Z2 P F E k e a w
 | []=>h
 | .code y::k=>by
  rcases he with rfl|⟨ch,rfl⟩|rfl
  ·exact U4 (.inl rfl) h k
  ·exact U4 (.inr (.inl ⟨ch,rfl⟩)) h k
  ·exact U4 (.inr (.inr rfl)) h k
 | .block id::k=>by
  rcases he with rfl|⟨ch,rfl⟩|rfl
  ·exact U4 (.inl rfl) h k
  ·exact U4 (.inr (.inl ⟨ch,rfl⟩)) h k
  ·exact U4 (.inr (.inr rfl)) h k
 | .inv J::k=>by
  rcases he with rfl|⟨ch,rfl⟩|rfl
  ·exact U4 (.inl rfl) h k
  ·exact U4 (.inr (.inl ⟨ch,rfl⟩)) h k
  ·exact U4 (.inr (.inr rfl)) h k
theorem bT5 {c:Ctx} {gen:Nat} {J:St->Prop} {k:List It} (hk:∀ σ',J σ'->ARX c (xF c) gen k .normal σ') :
  ∀ (ps:List Code) (e:Exit) (a:Act) (w:World),aB9 c (ps.map .code++[.inv J]) e a w->Z2 c.P (xF c).F (xF c).E (ps.map .code++k) e a w
 | [],e,a,w,h=>by
  cases e with
  | normal=>obtain ⟨g,σ,h1,h2,h3⟩:=h;exact hk σ h3 g a w h1 trivial (T6.of h2)
  | ret=>exact U4 (.inl rfl) (aH5 (show bodyPost c.P c.fn c.R .ret a w from h)) k
  | panic ch=>exact U4 (.inr (.inl ⟨ch,rfl⟩)) (aH5 (show bodyPost c.P c.fn c.R (.panic ch) a w from h)) k
  | outgrown=>exact U4 (.inr (.inr rfl)) (aH5 (show bodyPost c.P c.fn c.R .outgrown a w from h)) k
  | exit id=>exact (show bodyPost c.P c.fn c.R (.exit id) a w from h).elim
  | goto l=>exact (show bodyPost c.P c.fn c.R (.goto l) a w from h).elim
 | p::ps,e,a,w,h=>by
  cases e with
  | normal=>exact aA0 (wpIn_wide.2 (show p.wp c.P _ a w from h)) (fun e a w=>bT5 hk ps e a w)
  | _=>exact bT5 hk ps _ a w h
theorem aj7 {J:St->Prop} (ps:List Code) (hok:T9 c.n (ps.map .code++[.inv J])=true) (hm:c.P.follows .mixedOrders=true)
  (h:AR c gen (ps.map .code++[.inv J]) .normal σ) (hk:∀ σ',J σ'->ARX c (xF c) gen k .normal σ'):ARX c (xF c) gen (ps.map .code++k) .normal σ :=
 fun g a w hx _ r=>bT5 hk ps .normal a w (h hok hm g a w hx r.st)
theorem M8 {env:Nat->Option (List V)} {f:FuncId} {fn:Func} {body:Code} {args:List V} {h:H} {h':H}
  (hf : P.funcs[f]? = some fn) (hb : fn.body = some body) (ai1 : (fn.name == "runtime.NumGoroutine") = false)
  (walk:∀ (g:G) (w:World) (gen:Nat),Rel env g w h->(∀ id,h id≠none->id.gen<gen) ->
   ARX ⟨P,env,fn.ntmps,fn,g,w,h,v,h'⟩ (xF ⟨P,env,fn.ntmps,fn,g,w,h,v,h'⟩) gen [.code body] .normal ⟨aj8 args,h⟩):Ret P env f args h v h':=by
 refine ⟨⟨fn,hf,by rw [hb];rfl,ai1⟩,fun g w vs hr hv=>?_⟩;have hw:=walk g w g.top hr (fun id hid=>hr.top id hid);refine callsIn_wide.1 (callsIn_of_wp_marks (n:=0) hf hb trivial ?_);have hst:M1 env fn.ntmps g w { tmps:=vs++Array.replicate (fn.ntmps - vs.size) undef,defers:=[] } ⟨aj8 args,h⟩:=by
  refine ⟨hr,fun t=>?_,by simp;omega,rfl⟩;simp only [aj8];cases ha:args[t]? with
  | none=>exact .undef _
  | some v =>
   obtain ⟨c0,h1,h2⟩:=hv.at ha;have hlt:t<vs.size:=(Z3.1 h1).1;have:(vs++Array.replicate (fn.ntmps - vs.size) undef).getD t undef=c0:=by
    simp [aL6 hlt,h1]
   rw [this];exact h2
 have:=hw g _ w (Ext.refl g w) trivial (T6.of hst);refine aA0 (show body.wpIn _ _ _ _ _ _ from this) ?_;intro e a' w' hp;cases e<;>exact hp
structure L8 (B:Nat) (W W':World):Prop where
 size:W.heap.size<=W'.heap.size
 os:W'.os=W.os
 tape:W'.tape=W.tape
 output:W'.output=W.output
 same:∀ b,b<B->W'.heap[b]? = W.heap[b]?
 cell:∀ b o,b<W.heap.size->W'.cell? ⟨b,o,none⟩=W.cell? ⟨b,o,none⟩
 aU5:∀ (b:Nat) (vs:Array Value) (ty:TypeId),W.heap[b]? = some (Go.Obj.cells vs ty (0,0))->W'.heap[b]? = some (Go.Obj.cells vs ty (0,0))
 keepM:∀ (b:Nat) (es:Array MapEntry) (cl:Nat),W.heap[b]? = some (Go.Obj.map es cl)->W'.heap[b]? = some (Go.Obj.map es cl)
theorem ac1 {W:World} {o:Go.Obj} (hB:B<=W.heap.size):L8 B W (W.alloc o):=by
 have hold:∀ b,b<W.heap.size->(W.alloc o).heap[b]? = W.heap[b]? := fun b hb=>bd8 W o b hb;refine ⟨b_,rfl,rfl,rfl,fun b hb=>hold b a_,fun b off hb=>?_,fun b vs ty h=>?_,fun b es cl h=>?_⟩
 all_goals grind [World.cell?]
variable {l:Nat}
theorem ac2 {W:World} {o o':Go.Obj} (hB:B<=l) (h:W.heap[l]? = some o) (ho:opn o=false) (ho':opn o'=false):L8 B W (W.putObj l o'):=by
 refine ⟨b_,rfl,rfl,rfl,fun b hb=>World.putObj_heap_other a_,fun b off hb=>?_,fun b vs ty hb=>?_,fun b es cl hb=>?_⟩
 all_goals grind [World.cell?,World.putObj_heap_same,opn,World.putObj_heap_other]
def G.wrs (g:G) (f:Nat->Bool):G:={ g with wr:=f }
theorem RV.wrs {g:G} {c:Value} (h:RV g w c v) (f:Nat->Bool):RV (g.wrs f) w c v :=
 RV.freeze (g:=g) (g':=g.wrs f) (S:=fun id=>g.dom id=true) (fun b=>w7 _) (fun _=>rfl) (fun id hid=>⟨hid,rfl,rfl⟩) h h.inV
def G.up (g:G) (B:Nat):G:=g.wrs fun b=>g.wr b||decide (B<=b)
variable {W':World}
theorem L8.ext {g gi:G} {W:World} (t:L8 B W W') (hB:w.heap.size<=B) (hl:∀ b,w.heap.size<=b->g.lim b=0) (x:Ext g w gi W):Ext g w (gi.up B) W':=by
 refine ⟨t.os.trans x.os,t.tape.trans x.tape,t.output.trans x.output,S1 x.size t.size,x.lim,fun b o h=>?_,⟨fun b hb hw=>?_,fun b ok vs0 ty0 hb hn=>?_⟩,x.dom,x.top⟩
 ·by_cases hs:b<W.heap.size
  ·rw [t.cell b o hs];exact x.cells b o h
  ·have hw:w.heap.size<=b:=by have:=x.size;omega
   grind
 ·obtain ⟨h1,h2⟩:=x.wr.1 b hb hw
  refine ⟨(t.same b a_).trans h1,?_⟩;show (gi.wr b||decide (B<=b))=false;rw [h2];simp;omega
 ·obtain ⟨h1,h2⟩:=x.wr.2 b ok vs0 ty0 hb hn
  refine ⟨?_,h2⟩;have hb':=(Z3.1 hb).1;have e:=t.same b a_;rcases h1 with h1|⟨o1,vs,ty,u1,u2,u3⟩
  ·exact .inl (e.trans h1)
  ·exact .inr ⟨o1,vs,ty,u1,u2,e.trans u3⟩
theorem L8.here {gi:G} {W:World} (t:L8 B W W') (hl:∀ b,W.heap.size<=b->gi.lim b=0):Ext (gi.up B) W (gi.up B) W':=by
 refine ⟨t.os,t.tape,t.output,t.size,fun _=>w7 _,fun b o h=>?_,⟨fun b hb hw=>?_,fun b ok vs0 ty0 hb hn=>⟨.inl ((t.aU5 _ _ _ hb).trans hb.symm),hn⟩⟩,fun id h=>⟨h,rfl,.inl rfl⟩,w7 _⟩
 ·by_cases hs:b<W.heap.size
  ·exact t.cell b o hs
  ·have:(gi.up B).lim b=gi.lim b:=rfl
   grind
 ·refine ⟨t.same b ?_,hw⟩
  have hw':(gi.wr b||decide (B<=b))=false:=hw;simp at hw';omega
theorem Rel.wrs {env:Nat->Option (List V)} {g:G} {h:H} (r:Rel env g w h) (f:Nat->Bool) (hf:∀ b o,w.heap[b]? = some o->opn o=true->g.wr b=true->f b=true):Rel env (g.wrs f) w h:=by
 refine ⟨r.dom,r.top,fun id cs e=>?_,r.inj,fun id n k e=>?_,r.apart,r.U9,fun id l e=>?_,r.B3,fun k cs e=>(r.glob k cs e).wrs f⟩
 ·obtain ⟨vs,⟨ty,h1⟩,h2,h3,h4,h5⟩:=r.box id cs e
  exact ⟨vs,⟨ty,h1⟩,h2,fun i c v x y=>(h3 i c v x y).wrs f,h4,hf _ _ h1 rfl h5.1,h5.2⟩
 ·obtain ⟨h1,h2,h3,h4⟩:=r.tok id n k e
  refine ⟨h1,h2,fun hlt=>?_,h4⟩;obtain ⟨b,off,vs,s1,⟨ty,s2⟩,s3,s4,s5⟩:=h3 hlt;exact ⟨b,off,vs,s1,⟨ty,s2⟩,s3,s4,hf _ _ s2 rfl s5.1,s5.2⟩
 ·obtain ⟨m1,m2,m3⟩:=r.map id l e
  have m0:=m1;obtain ⟨es,cl,_,_,_,q1,_⟩:=m0;exact ⟨m1,hf _ _ q1 rfl m2,m3⟩
theorem L8.rel {env:Nat->Option (List V)} {gi:G} {W:World} {h:H} (t:L8 B W W') (r0:Rel env gi W h):Rel env (gi.up B) W' h:=by
 have r:Rel env (gi.up B) W h:=r0.wrs _ (fun b o _ _ hw=>by rw [hw];rfl);have hx:Ext (gi.up B) W (gi.up B) W':=t.here r0.B3;refine ⟨r.dom,r.top,fun id cs e=>?_,r.inj,fun id n k e=>?_,r.apart,r.U9,r.bp3 fun id l e=>⟨e,fun m=>⟨rfl,?_,fun a=>a⟩⟩,fun b hb=>r.B3 b (S1 t.size hb),fun k cs e=>(r.glob k cs e).mono hx⟩
 ·obtain ⟨vs,⟨ty,h1⟩,h2,h3,h4,h5⟩:=r.box id cs e
  exact ⟨vs,⟨ty,t.aU5 _ _ _ h1⟩,h2,fun i c v x y=>(h3 i c v x y).mono hx,h4,h5⟩
 ·obtain ⟨h1,h2,h3,h4⟩:=r.tok id n k e
  refine ⟨h1,h2,fun hlt=>?_,h4⟩;obtain ⟨b,off,vs,s1,⟨ty,s2⟩,s3,s4,s5⟩:=h3 hlt;exact ⟨b,off,vs,s1,⟨ty,t.aU5 _ _ _ s2⟩,s3,s4,s5⟩
 ·obtain ⟨es,cl,_,_,_,q1,_⟩:=m
  rw [t.keepM _ _ _ q1];exact q1.symm
def G.dn (g:G) (w:World):G:=g.wrs fun b=>g.wr b&&(match w.heap[b]? with|some o=>opn o|none=>true)
theorem Rel.dn {env:Nat->Option (List V)} {g:G} {h:H} (r:Rel env g w h):Rel env (g.dn w) w h :=
 r.wrs _ (fun b o hb ho hw=>by rw [hw,hb];exact ho)
theorem Ext.dn {g gi:G} {W:World} (x:Ext g w gi W):Ext g w (gi.dn W) W:=by
 refine ⟨x.os,x.tape,x.output,x.size,x.lim,x.cells,⟨fun b hb hw=>?_,x.wr.2⟩,x.dom,x.top⟩;obtain ⟨h1,h2⟩:=x.wr.1 b hb hw;exact ⟨h1,by show (gi.wr b&&_)=false;rw [h2];rfl⟩
theorem ai6 {g g':G} (x:Ext (g.dn w) w g' w') {b:Nat} {o:Go.Obj} (h:w.heap[b]? = some o) (ho:opn o=false):w'.heap[b]? = some o/\g'.wr b=false:=by
 have hw:(g.dn w).wr b=false:=by
  show (g.wr b&&(match w.heap[b]? with|some o=>opn o|none=>true))=false;rw [h];simp [ho]
 obtain ⟨h1,h2⟩:=x.wr.1 b (Z3.1 h).1 hw
 grind
def bc2 (D:Nat):Deferred:={ target:=.collected D,args:=#[] }
def XD (c:Ctx) (D:Nat) (g:G) (w:World):Prop:=c.w0.heap.size<=D/\g.wr D=false/\w.heap[D]? = some (.deferred (some []))
def xD (c:Ctx) (D:Nat):XC:=⟨Fence.wide,[bc2 D],XD c D,bodyPostM Fence.wide 0 c.P c.fn c.R⟩
theorem bM5 (c:Ctx) (D:Nat):XOk c.P (xD c D):=⟨fun _=>trivial,rfl,fun k args w R h=>callsIn_wide.2 h,fun g w g' w' x ⟨h1,h2,h3⟩=>by
 obtain ⟨a1,a2⟩:=x.wr.1 D (Z3.1 h3).1 h2;exact ⟨h1,a2,a1.trans h3⟩⟩
variable {D:Nat}
theorem ag4 (hm:c.P.follows .mixedOrders=true) (hl0:∀ b,c.w0.heap.size<=b->c.g0.lim b=0) (h:AR c gen [] .ret σ):ARX c (xD c D) gen [] .ret σ:=by
 intro g a w hx ⟨h1,h2,h3⟩ r;have t:L8 D w (w.putObj D (.deferred none)):=ac2 (w7 _) h3 rfl rfl;have hx':Ext c.g0 c.w0 (g.up D) (w.putObj D (.deferred none)):=t.ext h1 hl0 hx;have hr:Rel c.env (g.up D) (w.putObj D (.deferred none)) σ.h:=t.rel r.1.rel;have hst:M1 c.env c.n (g.up D) (w.putObj D (.deferred none)) { a with defers:=[] } σ :=
  ⟨hr,fun t'=>((r.1.tm t').wrs _).mono (t.here r.1.rel.B3),r.1.size,rfl⟩
 obtain ⟨_,v,q1,q2⟩:=h rfl hm _ _ _ hx' hst;show LeavesInM Fence.wide 0 c.P c.fn a.tmps c.R a.defers .returning w;rw [r.2];refine ⟨b_,.inl ⟨D,_,rfl,run_takeDeferred h3,?_⟩⟩;exact ⟨v,q1,q2⟩
structure cj4 (P:Program) (gf:Nat):Prop where
 call:ac4 P gf
 go:∀ (l pb po:Nat) (a:Option Addr) (len cap:Nat) (elm:Nat->Value) (K:Nat->World->Prop) (Kx:World->Prop),len * 8<=140737488351232 ->
  (len≠0->∃ b off,a=some ⟨b,off,none⟩) ->
  (∀ i W,i<=len->K i W->W.cell? ⟨pb,po,none⟩=some (.slice a len cap)/\∀ b off,a=some ⟨b,off,none⟩->∀ j,j<len->W.cell? ⟨b,off+j,none⟩=some (elm j)) ->
  (∀ (i:Nat) W,i<len->K (i+1) W->YieldAt Fence.wide (0 - 1) P l #[.int .i64 (i:Int),elm i] W fun e W'=>(e=.returned (.bool true)/\K i W')\/(e=.returned (.bool false)/\Kx W')) ->
  ∀ W,K len W->CallsIn Fence.wide 0 P gf #[.func (.yield l) #[] #[],.pointer (some ⟨pb,po,none⟩)] W fun e W'=>(∃ v,e=.returned v)/\(K 0 W'\/Kx W')
theorem cP5 {g:G} {c:Value} {es:List (List V)} (h:RV g w c (.sl cc es)):RV g w c (.sl .any es):=by
 cases h with
 | sl a cap _ _ k cell hk aa3 F5 hr hc=>exact .sl a cap .any es k cell hk aa3 F5 hr trivial
variable {f gf:Nat}
theorem aY5 {env:Nat->Option (List V)} {ty:TypeId} {es:List (List V)} (hf:ac4 P f)
  (h:∀ a len cap w,Calls P f #[.slice a len cap] w fun e w'=>e=.returned (.func (.func gf) #[] #[.pointer (some ⟨w.heap.size,0,none⟩)])/\w'=w.alloc (.cells #[.slice a len cap] ty)) :
  Pure P env f [.sl cc es] (.fn (.func gf) [] [.el [.sl .any es] 0]):=by
 intro hh;refine ⟨hf,fun g w vs r hv=>?_⟩;obtain ⟨c0,h1,h2⟩:=hv.at (show ([V.sl cc es]:List V)[0]? = some _ from rfl);have hvs:vs=#[c0]:=by
  have:=hv.1;apply Array.ext
  ·simpa using this
  ·grind
 subst hvs;have h2':=cP5 h2;cases h2 with
 | sl a cap _ _ k cell hk aa3 F5 hr hc =>
  refine (h a es.length cap w).mono ?_;rintro e w' ⟨rfl,rfl⟩;obtain ⟨g',hx,hr',hl⟩:=bc4 r #[Value.slice a es.length cap] ty;refine ⟨_,g',rfl,hx,hr',.fn _ _ _ _ _ b_ b_ (fun i c v h _=>by simp at h) (fun i c v hc hv=>?_)⟩
  match i with
  | 0 =>
   simp at hc hv;subst hc;subst hv;refine .el w.heap.size 0 _ 0 (fun _=>.slice a es.length cap) (by rw [hl];simp) (fun i hi=>?_) (fun i v hv=>?_)
   ·simp_all
   ·match i with
    | 0=>simp at hv;subst hv;exact h2'.mono hx
    | i+1=>simp at hv
  | i+1=>simp at hc
theorem cg0 {env:Nat->Option (List V)} {ty:TypeId} (hf:ac4 P f)
  (h:∀ (vs:Array Value),vs.size=cs.length->∀ w,Calls P f #[.agg vs] w fun e w'=>e=.returned (.func (.func gf) #[] #[.pointer (some ⟨w.heap.size,0,none⟩)])/\w'=w.alloc (.cells vs ty)) :
  Pure P env f [.agg cs] (.fn (.func gf) [] [.el cs 0]):=by
 intro hh;refine ⟨hf,fun g w vs r hv=>?_⟩;obtain ⟨c0,h1,h2⟩:=hv.at (show ([V.agg cs]:List V)[0]? = some _ from rfl);have hvs:vs=#[c0]:=by
  have:=hv.1;apply Array.ext
  ·simpa using this
  ·grind
 subst hvs;cases h2 with
 | agg us _ hs hr =>
  refine (h us hs w).mono ?_;rintro e w' ⟨rfl,rfl⟩;obtain ⟨g',hx,hr',hl⟩:=bc4 r us ty;refine ⟨_,g',rfl,hx,hr',.fn _ _ _ _ _ b_ b_ (fun i c v h _=>by simp at h) (fun i c v hc hv=>?_)⟩
  match i with
  | 0 =>
   simp at hc hv;subst hc;subst hv;refine .el w.heap.size 0 _ 0 (fun i=>us[i]?.getD undef) a_ (fun i hi=>?_) (fun i v hv=>?_)
   ·simp_all
   ·have hlt:=(F2.1 hv).1
    have hu:us[i]? = some us[i]:=aW1 (by rw [hs];exact hlt);rw [hu];exact (hr i _ v hu hv).mono hx
  | i+1=>simp at hc
theorem bI1:∀ l:List V,(l.map fun v=>[v]).flatten=l
 | []=>rfl
 | v::l=>by rw [E0,bo6,bI1 l];rfl
def XR (g:G) (w:World) (D:Nat) (r:Loop) (g':G) (w':World):Prop :=
 Ext g w g' w'/\g'.wr D=false/\g'.wr (D+1)=false/\w'.heap[D]? = some (.deferred (some []))/\w'.heap[D+1]? = some (.loop r)
theorem XR.ext {g:G} {r:Loop} {g1:G} {w1:World} {g2:G} {w2:World} (x:Ext g1 w1 g2 w2) (h:XR g w D r g1 w1):XR g w D r g2 w2:=by
 obtain ⟨h0,h1,h2,h3,h4⟩:=h;obtain ⟨a1,a2⟩:=x.wr.1 D (Z3.1 h3).1 h1;obtain ⟨b1,b2⟩:=x.wr.1 (D+1) (Z3.1 h4).1 h2;exact ⟨h0.trans x,a2,b2,a1.trans h3,b1.trans h4⟩
theorem XR.of {g:G} {r:Loop} {g1:G} {w1:World} (x:Ext g w g1 w1) (h3:w1.heap[D]? = some (.deferred (some []))) (h4:w1.heap[D+1]? = some (.loop r)):XR g w D r (g1.dn w1) w1:=by
 refine ⟨x.dn,?_,?_,h3,h4⟩
 ·exact (ai6 (Ext.refl _ _) h3 rfl).2
 ·exact (ai6 (Ext.refl _ _) h4 rfl).2
def cw1 (c:Ctx) (g:G) (w:World) (D:Nat) (r:Loop) (E:Exit->Act->World->Prop):XC:=⟨Fence.wide.inRound (D+1),[],XR g w D r,E⟩
theorem bM6 (c:Ctx) (g:G) (w:World) (D:Nat) (r:Loop) (E:Exit->Act->World->Prop):XOk c.P (cw1 c g w D r E) :=
 ⟨fun _=>trivial,rfl,fun k args w R h=>(show CallsIn Fence.wide (0 - 1) c.P k args w R from callsIn_wide.2 h),fun _ _ _ _ x h=>h.ext x⟩
def dT8 (c:Ctx) (xb:XC) (g:G) (w:World) (D:Nat) (r:Loop) (gn:Nat) (body:Code):Exit->Act->World->Prop :=
 fun e a w'=>e=.normal/\∃ g' σ',Ext c.g0 c.w0 g' w'/\XR g w D r g' w'/\T6 [] c.env c.n g' w' a σ'/\ARX c xb gn [.code body] .normal σ'
def dT9 (c:Ctx) (g:G) (w:World) (D:Nat) (r:Loop) (J:H->Prop) (Jx:Option Nat->H->Prop):Exit->Act->World->Prop :=
 fun e a w'=>∃ g' h',XR g w D r g' w'/\Rel c.env g' w' h'/\(match e with | .normal=>J h' | .exit id=>Jx (some id) h' | .ret=>Jx none h'|_=>False)
def bm0:Option Nat->Code
 | some id=>.exit id
 | none=>.ret
def ao1:Option Nat->Exit
 | some id=>.exit id
 | none=>.ret
theorem H3 {x:XC} (h:ARX c x gen [] .ret σ):ARX c x gen k .ret σ :=
 fun g a w hx hX r=>U4 (.inl rfl) (show x.E .ret a w from h g a w hx hX r) k
def ec7 (P:Program) (gf:Nat) (lb:Array Value) (g:G) (w:World) (n:Nat) (ac3:Nat->List Value):Prop :=
 ∀ (l:Nat) (K:Nat->World->Prop) (Kx:World->Prop),(∀ i W,K i W->∃ gi,Ext g w gi W)->(∀ i W o,K i W->K i (W.alloc o))->(∀ i W,K i W->K i W.drew) ->
  (∀ (i:Nat) W,i<n->K (i+1) W->YieldAt Fence.wide (0 - 1) P l (ac3 i).toArray W fun e W'=>(e=.returned (.bool true)/\K i W')\/(e=.returned (.bool false)/\Kx W')) ->
  ∀ W,K n W->CallsIn Fence.wide 0 P gf (#[.func (.yield l) #[] #[]]++lb) W fun e W'=>(∃ v,e=.returned v)/\(K 0 W'\/Kx W')
def aQ3 (tm:Nat->V):List Nat->List V->(Nat->V)
 | p::ps,v::vs=>aQ3 (upd tm (some p) v) ps vs
 | _,_=>tm
theorem M1.dO8 {env:Nat->Option (List V)} {n:Nat} {g:G}:∀ (ps:List Nat) (xs:List Value) (vs:List V) {a:Act} {tm:Nat->V} {h:H},M1 env n g w a ⟨tm,h⟩->(∀ p∈ps,p<n)->xs.length=ps.length ->
  (∀ (j:Nat) x v,xs[j]? = some x->vs[j]? = some v->RV g w x v)->vs.length=ps.length->M1 env n g w { a with tmps:=(ps.zip xs).foldl (fun tmps (t,a)=>tmps.setIfInBounds t a) a.tmps } ⟨aQ3 tm ps vs,h⟩
 | [],_,_,a,tm,h,r,_,_,_,_=>r
 | p::ps,[],_,a,tm,h,r,_,hl,_,_=>by simp at hl
 | p::ps,x::xs,[],a,tm,h,r,_,_,_,hl=>by simp at hl
 | p::ps,x::xs,v::vs,a,tm,h,r,hp,hl,hv,hl2=>by
  have r1:=r.put (d:=some p) (Ext.refl _ _) (by simp_all) r.rel (hv 0 x v rfl rfl);have:=M1.dO8 ps xs vs r1 (fun q hq=>hp q (by simp [hq])) (by simpa using hl) (fun j y u hy hu=>hv (j+1) y u (by simpa using hy) (by simpa using hu)) (by simpa using hl2);exact this
theorem db4 {g:G}:Ext g w g w.drew :=
 ⟨rfl,rfl,rfl,w7 _,fun _=>w7 _,fun _ _ _=>rfl,⟨fun _ _ h=>⟨rfl,h⟩,fun _ _ _ _ _ h=>⟨.inl rfl,h⟩⟩,fun _ h=>⟨h,rfl,.inl rfl⟩,w7 _⟩
variable {assign:Code}
theorem cj0 {n:Nat} {ps:List Nat} {vv:Nat->List V} {body:Code} (bb3:ac4 c.P gf)
  (hps:∀ p∈ps,p<c.n) (hvv:∀ i,i<n->(vv i).length=ps.length)
  (hit:∀ g w x,RV g w x (σ.tm f)->∃ lb ac3,x=.func (.func gf) #[] lb/\(∀ i,i<n->(ac3 i).length=ps.length/\∀ (j:Nat) x v,(ac3 i)[j]? = some x->(vv i)[j]? = some v->RV g w x v)/\ec7 c.P gf lb g w n ac3)
  (J:Nat->H->Prop) (Jx:Option Nat->H->Prop) (h0:J n σ.h)
  (au3:∀ (xa xb:XC) (gn i:Nat) (hi:H),XOk c.P xa->XOk c.P xb->gen<=gn->i<n->J (i+1) hi ->
   (∀ σ' gn',ARX c xb gn' [.code body] .normal σ'->ARX c xa gn' [] .normal σ')->(∀ gn' σ',J i σ'.h->ARX c xb gn' [] .normal σ')->(∀ gn' id σ',Jx id σ'.h->ARX c xb gn' [] (ao1 id) σ') ->
   ARX c xa gn [.code assign] .normal ⟨aQ3 σ.tm ps (vv i),hi⟩)
  (aP1:∀ D h',J 0 h'->ARX c (xD c D) gen k .normal ⟨σ.tm,h'⟩)
  (aP4:∀ D id h',Jx id h'->ARX c (xD c D) gen k (ao1 id) ⟨σ.tm,h'⟩) :
  ARX c (xF c) gen (.code (.rangeFunc (.tmp f) ps.toArray assign body)::k) .normal σ:=by
 intro g a w hx _ r0;have r:=r0.st;obtain ⟨fn0,hc1,hc2,hc3⟩:=bb3
 have dd6 : ¬ (fn0.name = "runtime.NumGoroutine") := by simpa using hc3
 have dd5:fn0.body≠none:=by intro e;simp [e] at hc2
 obtain ⟨lb,ac3,hev,de5,hgo⟩:=hit g w _ (r.tm f);have bE6:a.defers=[]:=r.defers;have bJ0:∀ b,w.heap.size<=b->g.lim b=0:=r.rel.B3;refine wpIn_rangeFunc ?_;intro fn hfn;obtain ⟨D,hD⟩:∃ D,w.heap.size=D:=⟨_,rfl⟩;obtain ⟨rec,ae8⟩:∃ rec:LoopState->Option Code->Loop,rec=fun st pe=>{ state:=st,pending:=pe,fn,tmps:=a.tmps,params:=ps.toArray,assign,body,defers:=D }:=⟨_,rfl⟩;obtain ⟨W1,hW1⟩:∃ W1,(w.alloc (.deferred (some []))).alloc (.loop (rec .ready none))=W1:=⟨_,rfl⟩;obtain ⟨K,hK⟩:∃ K:Nat->World->Prop,K=fun i W=>∃ gi hi,Ext g w gi W/\Rel c.env gi W hi/\J i hi/\W.heap[D]? = some (.deferred (some []))/\W.heap[D+1]? = some (.loop (rec .ready none)):=⟨_,rfl⟩;obtain ⟨Kx,hKx⟩:∃ Kx:World->Prop,Kx=fun W=>∃ id gi hi,Ext g w gi W/\Rel c.env gi W hi/\Jx id hi/\W.heap[D]? = some (.deferred (some []))/\W.heap[D+1]? = some (.loop (rec .done (some (bm0 id)))):=⟨_,rfl⟩;have hK1:K n W1:=by
  have t1:L8 D w (w.alloc (.deferred (some []))):=ac1 a_;have x1:=t1.ext a_ bJ0 (Ext.refl g w);have q1:=t1.rel r.rel;have t2:L8 D (w.alloc (.deferred (some []))) W1:=by rw [<- hW1];exact ac1 (by simp;omega)
  have x2:=t2.ext a_ bJ0 x1;have q2:=t2.rel q1;rw [hK];refine ⟨_,_,x2,q2,h0,?_,?_⟩
  ·grind [Go.RowKit.Below.heap_alloc,World.alloc_heap_new]
  ·grind [World.alloc_heap_new,World.size_alloc]
 refine ⟨D+1,[bc2 D],W1,{ target:=.fn (.func gf) lb,args:=#[.func (.yield (D+1)) #[] #[]] },W1,gf,
  #[.func (.yield (D+1)) #[] #[]]++lb,W1,?_,?_,fun _ _=>trivial,?_,fun h=>by simp [xF,Fence.wide] at h,?_⟩
 ·rw [<- hW1,ae8,<- hD];exact run_enterLoop_outer _ _ _ _ _
 ·have he:a.eval (.tmp f)=.func (.func gf) #[] lb:=hev
  simp only [resolve,he];simp [go_sem,Deferred.ofValue,Act.eval]
 ·simp [invoke,callFunc,hc1,dd5,dd6]
 ·refine (hgo (D+1) K Kx ?_ ?_ ?_ ?_ W1 hK1).mono ?_
  ·grind
  ·intro i W o hKi
   rw [hK] at hKi ⊢;obtain ⟨gi,hh,x,q,hJ,hdf,hlp⟩:=hKi;have hsz:=(Z3.1 hlp).1;have t:L8 D W (W.alloc o):=ac1 a_;exact ⟨_,hh,t.ext a_ bJ0 x,t.rel q,hJ,(bd8 W o _ (Z3.1 hdf).1).trans hdf,(bd8 W o _ hsz).trans hlp⟩
  ·intro i W hKi
   rw [hK] at hKi ⊢;obtain ⟨gi,hh,x,q,hJ,hdf,hlp⟩:=hKi;exact ⟨gi,hh,x.trans db4,q.drew,hJ,hdf,hlp⟩
  ·
   intro i W hi hKi;rw [hK] at hKi;obtain ⟨gi,hh,x,q,hJ,hdf,hlp⟩:=hKi;obtain ⟨hv1,hv2⟩:=de5 i hi;have hy:=run_yield (P:=c.P) (args:=(ac3 i).toArray) hlp (by grind);refine ⟨(rec .ready none).fn,_,(rec .ready none).assign,(rec .ready none).body,hy,roundIn_of_wpIn trivial ?_⟩;clear hy;obtain ⟨xb,hxb⟩:∃ xb,xb=cw1 c g w D { rec .ready none with state:=.busy } (dT9 c g w D { rec .ready none with state:=.busy } (J i) Jx):=⟨_,rfl⟩;have ef0:XOk c.P xb:=by rw [hxb];exact bM6 _ _ _ _ _ _
   have h1:=au3 (cw1 c g w D (rec .ready none) (dT8 c xb g w D (rec .ready none) gen body)) xb gen i hh (bM6 _ _ _ _ _ _) ef0 (w7 _) hi hJ
    (fun σ' gn' h g' a' w' hx' hX' r'=>⟨rfl,g',σ',hx',hX',r',h⟩)
    (fun gn' σ' h g' a' w' hx' hX' r'=>by
     rw [hxb] at hX' ⊢;exact ⟨g',σ'.h,hX',r'.1.rel,h⟩)
    (fun gn' id σ' h g' a' w' hx' hX' r'=>by
     rw [hxb] at hX' ⊢;cases id<;>exact ⟨g',σ'.h,hX',r'.1.rel,h⟩)
   have hX0:XR g w D (rec .ready none) (gi.dn W) W:=XR.of x hdf hlp;have hst:T6 [] c.env c.n (gi.dn W) W { tmps:=(ps.zip (ac3 i)).foldl (fun tmps (t,a)=>tmps.setIfInBounds t a) a.tmps,defers:=[] } ⟨aQ3 σ.tm ps (vv i),hh⟩:=by
    have s0:M1 c.env c.n (gi.dn W) W a ⟨σ.tm,hh⟩:=⟨q.dn,fun t=>(r.tm t).mono hX0.1,r.size,bE6⟩;have s1:=M1.dO8 ps (ac3 i) (vv i) s0 hps hv1 (fun j x v hx hv=>(hv2 j x v hx hv).mono hX0.1) (hvv i hi);rw [bE6] at s1;exact T6.of s1
   have h2:=h1 _ _ W (hx.trans hX0.1) hX0 hst;have etm:(((rec .ready none).params.zip (ac3 i).toArray).foldl (fun tmps (t,a)=>tmps.setIfInBounds t a) (rec .ready none).tmps)=(ps.zip (ac3 i)).foldl (fun tmps (t,a)=>tmps.setIfInBounds t a) a.tmps:=by
    rw [ae8];simp
   have eas:(rec .ready none).assign=assign:=by rw [ae8]
   have ebo:(rec .ready none).body=body:=by rw [ae8]
   rw [etm,eas,ebo];refine aA0 (show assign.wpIn (Fence.wide.inRound (D+1)) 0 c.P _ _ _ from h2) ?_;intro e a1 w1 hp;have hp':dT8 c xb g w D (rec .ready none) gen body e a1 w1:=by cases e<;>exact hp
   obtain ⟨rfl,g1,σ1,hx1,hX1,r1,dd3⟩:=hp';obtain ⟨y0,y1,y2,y3,y4⟩:=hX1;refine ⟨_,run_beginRound y4 (by rw [ae8]),?_⟩;have hD1:D+1<w1.heap.size:=(Z3.1 y4).1;have t:L8 D w1 (w1.putObj (D+1) (.loop { rec .ready none with state:=.busy })):=ac2 a_ y4 rfl rfl;have x3:=t.ext a_ bJ0 y0;have q3:=t.rel r1.1.rel;have l3:(w1.putObj (D+1) (.loop { rec .ready none with state:=.busy })).heap[D+1]? = some (.loop { rec .ready none with state:=.busy }):=World.putObj_heap_same hD1;have d3:(w1.putObj (D+1) (.loop { rec .ready none with state:=.busy })).heap[D]? = some (.deferred (some [])):=(World.putObj_heap_other a_).trans y3;have X3:=XR.of x3 d3 l3;have dN0:T6 [] c.env c.n ((g1.up D).dn (w1.putObj (D+1) (.loop { rec .ready none with state:=.busy }))) (w1.putObj (D+1) (.loop { rec .ready none with state:=.busy })) a1 σ1:=by
    have r1':=r1.st;refine T6.of ⟨q3.dn,fun t'=>?_,r1'.size,r1'.defers⟩;exact (((r1'.tm t').wrs _).mono (t.here r1'.rel.B3)).mono (Ext.refl _ _).dn
   have h4:=dd3 _ a1 _ (hx.trans X3.1) (by rw [hxb];exact X3) (by rw [hxb];exact dN0);rw [hxb] at h4;refine aA0 (show body.wpIn (Fence.wide.inRound (D+1)) 0 c.P _ _ _ from h4) ?_;intro e a4 w4 hp4;have dv4:dT9 c g w D { rec .ready none with state:=.busy } (J i) Jx e a4 w4:=by cases e<;>exact hp4
   obtain ⟨g4,h4',⟨z0,z1,z2,z3,z4⟩,q4,hJ4⟩:=dv4;have hD4:D+1<w4.heap.size:=(Z3.1 z4).1;have fin:∀ (jump:Option Code) (rr:Loop),rr={ ({ rec .ready none with state:=.busy }:Loop) with state:=if jump.isNone then .ready else .done,pending:=jump } ->
     (Instr.endRound (D+1) jump).run c.P w4=.ok (.bool jump.isNone) (w4.putObj (D+1) (.loop rr))/\Ext g w (g4.up D) (w4.putObj (D+1) (.loop rr))/\Rel c.env (g4.up D) (w4.putObj (D+1) (.loop rr)) h4' /\
     (w4.putObj (D+1) (.loop rr)).heap[D]? = some (.deferred (some []))/\(w4.putObj (D+1) (.loop rr)).heap[D+1]? = some (.loop rr):=by
    intro jump rr hrr;have t4:L8 D w4 (w4.putObj (D+1) (.loop rr)):=ac2 a_ z4 rfl rfl;refine ⟨?_,t4.ext a_ bJ0 z0,t4.rel q4,(World.putObj_heap_other a_).trans z3,World.putObj_heap_same hD4⟩;rw [hrr];exact run_endRound jump z4
   cases e with
   | normal =>
    obtain ⟨f1,f2,f3,f4,f5⟩:=fin none (rec .ready none) (by rw [ae8];rfl);refine ⟨_,_,f1,.inl ⟨rfl,?_⟩⟩
    grind
   | exit id =>
    obtain ⟨f1,f2,f3,f4,f5⟩:=fin (some (.exit id)) (rec .done (some (.exit id))) (by rw [ae8];rfl);refine ⟨_,_,f1,.inr ⟨rfl,?_⟩⟩;rw [hKx];exact ⟨some id,_,_,f2,f3,hJ4,f4,f5⟩
   | ret =>
    obtain ⟨f1,f2,f3,f4,f5⟩:=fin (some .ret) (rec .done (some .ret)) (by rw [ae8];rfl);refine ⟨_,_,f1,.inr ⟨rfl,?_⟩⟩;rw [hKx];exact ⟨none,_,_,f2,f3,hJ4,f4,f5⟩
   | goto t=>exact hJ4.elim
   | panic ch=>exact hJ4.elim
   | outgrown=>exact hJ4.elim
  ·
   rintro e W2 ⟨⟨v,rfl⟩,aD0⟩;have hw0:c.w0.heap.size<=D:=by rw [<- hD];exact hx.size
   have tail:∀ (gi:G) (hi:H) (rr:Loop) ,Ext g w gi W2->Rel c.env gi W2 hi->W2.heap[D]? = some (.deferred (some []))->W2.heap[D+1]? = some (.loop rr)->rr.state≠.busy ->
     ∃ g5 w5,(Instr.endLoop (D+1)).run c.P W2=.ok rr.pending w5/\Ext c.g0 c.w0 g5 w5/\XD c D g5 w5/\T6 [bc2 D] c.env c.n g5 w5 { a with defers:=[bc2 D]++a.defers } ⟨σ.tm,hi⟩:=by
    intro gi hi rr x q hdf hlp hst;have hD2:D+1<W2.heap.size:=(Z3.1 hlp).1;have t5:L8 D W2 (W2.putObj (D+1) (.loop { rr with state:=.exhausted })):=ac2 a_ hlp rfl rfl;have x5:=(t5.ext a_ bJ0 x).dn;have q5:=(t5.rel q).dn;have d5:(W2.putObj (D+1) (.loop { rr with state:=.exhausted })).heap[D]? = some (.deferred (some [])):=(World.putObj_heap_other a_).trans hdf;refine ⟨_,_,run_endLoop hlp hst,hx.trans x5,⟨hw0,(ai6 (Ext.refl _ _) d5 rfl).2,d5⟩,⟨⟨q5,fun t'=>(r.tm t').mono x5,r.size,rfl⟩,by simp [bE6]⟩⟩
   rcases aD0 with aD0|aD0
   ·rw [hK] at aD0
    obtain ⟨gi,hi,x,q,hJ,hdf,hlp⟩:=aD0;obtain ⟨g5,w5,e1,e2,e3,e4⟩:=tail gi hi _ x q hdf hlp (by rw [ae8];simp);have e1':(Instr.endLoop (D+1)).run c.P W2=.ok none w5:=by rw [e1,ae8]
    exact ⟨none,w5,e1',aP1 D hi hJ g5 _ w5 e2 e3 e4⟩
   ·rw [hKx] at aD0
    obtain ⟨id,gi,hi,x,q,hJ,hdf,hlp⟩:=aD0;obtain ⟨g5,w5,e1,e2,e3,e4⟩:=tail gi hi _ x q hdf hlp (by rw [ae8];simp);have e1':(Instr.endLoop (D+1)).run c.P W2=.ok (some (bm0 id)) w5:=by rw [e1,ae8]
    refine ⟨some (bm0 id),w5,e1',?_⟩;have:=aP4 D id hi hJ g5 _ w5 e2 e3 e4;cases id with
    | some id=>exact wpIn_exit this
    | none=>exact wpIn_ret this
variable {vs:List (List V)}
theorem bG0 {g:G} {cv:Value} {K:Nat} (hcv:RV g w cv (.fn (.func gf) [] [.el [.sl .any vs] 0])) (hK:∀ e∈vs,e.length=K) :
  ∃ pb po ao cap,cv=.func (.func gf) #[] #[.pointer (some ⟨pb,po,none⟩)]/\po<g.lim pb/\w.cell? ⟨pb,po,none⟩=some (.slice ao vs.length cap) /\
    (vs.length≠0->∃ b off,ao=some ⟨b,off,none⟩) /\
    ∃ elm:Nat->Value,(∀ b off,ao=some ⟨b,off,none⟩->∀ j,j<vs.length * K->off+j<g.lim b/\w.cell? ⟨b,off+j,none⟩=some (elm j))/\∀ j v,vs.flatten[j]? = some v->RV g w (elm j) v:=by
 cases hcv with
 | fn _ fs cs _ _ h1 h2 _ r2 =>
  have e1:fs=#[]:=by simpa using h1
  subst e1;obtain ⟨c1,rfl⟩:∃ c1,cs=#[c1]:=by
   have h2':cs.size=1:=h2;refine ⟨cs[0],?_⟩
   grind
  have hq:=r2 0 c1 _ rfl rfl;cases hq with
  | el b off cs o cell hl F5 hr =>
   have hz:=F5 0 b_;have hrz:=hr 0 _ rfl;generalize hcz:cell 0=cz at hz hrz;cases hrz with
   | sl ao cap _ _ kk bl0 hk aa3 cB1 hr2 hc =>
    have hk1:vs≠[]->kk=K:=by
     intro hne;cases vs with
     | nil=>exact absurd rfl hne
     | cons v l=>rw [<- hk v b_,hK v b_]
    refine ⟨b,off+0,ao,cap,b_,by simp at hl;omega,by simpa using hz,?_,bl0,?_,fun j v h=>hr2 j v h⟩
    ·intro hne
     have cM5:vs≠[]:=by intro e;subst e;simp at hne
     grind
    ·intro b2 off2 e j hj
     have cM5:vs≠[]:=by intro e;subst e;simp at hj
     grind
theorem bW0 {p1 p2:Nat} {vs:List V} {body:Code} (hb:cj4 c.P gf)
  (hf:σ.tm f=.fn (.func gf) [] [.el [.sl .any (vs.map fun v=>[v])] 0]) (hlen:vs.length<=1000000) (hp1:p1<c.n) (hp2:p2<c.n)
  (J:Nat->H->Prop) (Jx:Option Nat->H->Prop) (h0:J vs.length σ.h)
  (au3:∀ (xa xb:XC) (gn i:Nat) (v:V) (hi:H),XOk c.P xa->XOk c.P xb->gen<=gn->i<vs.length->vs[i]? = some v->J (i+1) hi ->
   (∀ σ' gn',ARX c xb gn' [.code body] .normal σ'->ARX c xa gn' [] .normal σ')->(∀ gn' σ',J i σ'.h->ARX c xb gn' [] .normal σ')->(∀ gn' id σ',Jx id σ'.h->ARX c xb gn' [] (ao1 id) σ') ->
   ARX c xa gn [.code assign] .normal ⟨upd (upd σ.tm (some p1) (.int .i64 i)) (some p2) v,hi⟩)
  (aP1:∀ D h',J 0 h'->ARX c (xD c D) gen k .normal ⟨σ.tm,h'⟩)
  (aP4:∀ D id h',Jx id h'->ARX c (xD c D) gen k (ao1 id) ⟨σ.tm,h'⟩) :
  ARX c (xF c) gen (.code (.rangeFunc (.tmp f) #[p1,p2] assign body)::k) .normal σ:=by
 refine cj0 (ps:=[p1,p2]) (n:=vs.length) (vv:=fun i=>[.int .i64 i,vs.getD i .undef]) hb.call (by simp [hp1,hp2]) (fun i hi=>rfl) ?_ J Jx h0
  (fun xa xb gn i hi oa ob hg hlt hJ h1 h2 h3=>?_) aP1 aP4
 ·intro g w cv hfv
  rw [hf] at hfv;obtain ⟨pb,po,ao,cap,hev,S9,hpc,hne,elm,hel,dV9⟩:=bG0 hfv (K:=1) b_;rw [bI1] at dV9;rw [ao2] at hpc hne hel;simp only [Nat.mul_one] at hel;refine ⟨_,fun i=>[.int .i64 (i:Int),elm i],hev,fun i hi=>⟨rfl,fun j x v hx hv=>?_⟩,?_⟩
  ·match j with
   | 0=>simp at hx hv;subst hx;subst hv;exact .int _ _
   | 1 =>
    grind
   | j+2=>simp at hx
  ·intro l K Kx dd7 _ _ hY W hK
   refine hb.go l pb po ao vs.length cap elm K Kx a_ hne (fun i W hi hKi=>?_) hY W hK;obtain ⟨gi,x⟩:=dd7 i W hKi;refine ⟨(x.cells _ _ S9).trans hpc,fun b off e j hj=>?_⟩;obtain ⟨h1,h2⟩:=hel b off e j hj;exact (x.cells _ _ h1).trans h2
 ·have hv:vs[i]? = some vs[i]:=W4 hlt
  grind [aQ3]
structure cS7 (P:Program) (gf:Nat):Prop where
 call:ac4 P gf
 go:∀ (l pb po:Nat) (a:Option Addr) (cap:Nat) (K:Nat->World->Prop) (Kx:World->Prop),(∀ i W o,K i W->K i (W.alloc o))->(∀ i W,K i W->K i W.drew) ->
  (∀ i W,K i W->W.cell? ⟨pb,po,none⟩=some (.int .i64 1)/\W.cell? ⟨pb,po+1,none⟩=some (.slice a 0 cap)) ->
  (∀ W,K 1 W->YieldAt Fence.wide (0 - 1) P l #[.agg #[.int .i64 1,.slice a 0 cap]] W fun e W'=>(e=.returned (.bool true)/\K 0 W')\/(e=.returned (.bool false)/\Kx W')) ->
  ∀ W,K 1 W->CallsIn Fence.wide 0 P gf #[.func (.yield l) #[] #[],.pointer (some ⟨pb,po,none⟩)] W fun e W'=>(∃ v,e=.returned v)/\(K 0 W'\/Kx W')
theorem cR9 {p:Nat} {body:Code} (hb:cS7 c.P gf)
  (hf:σ.tm f=.fn (.func gf) [] [.el [.int .i64 1,.sl .any []] 0]) (hp:p<c.n)
  (J:Nat->H->Prop) (Jx:Option Nat->H->Prop) (h0:J 1 σ.h)
  (au3:∀ (xa xb:XC) (gn:Nat) (hi:H),XOk c.P xa->XOk c.P xb->gen<=gn->J 1 hi ->
   (∀ σ' gn',ARX c xb gn' [.code body] .normal σ'->ARX c xa gn' [] .normal σ')->(∀ gn' σ',J 0 σ'.h->ARX c xb gn' [] .normal σ')->(∀ gn' id σ',Jx id σ'.h->ARX c xb gn' [] (ao1 id) σ') ->
   ARX c xa gn [.code assign] .normal ⟨upd σ.tm (some p) (.agg [.int .i64 1,.sl .any []]),hi⟩)
  (aP1:∀ D h',J 0 h'->ARX c (xD c D) gen k .normal ⟨σ.tm,h'⟩)
  (aP4:∀ D id h',Jx id h'->ARX c (xD c D) gen k (ao1 id) ⟨σ.tm,h'⟩) :
  ARX c (xF c) gen (.code (.rangeFunc (.tmp f) #[p] assign body)::k) .normal σ:=by
 refine cj0 (ps:=[p]) (n:=1) (vv:=fun i=>[.agg [.int .i64 1,.sl .any []]]) hb.call (by simp [hp]) (fun i hi=>rfl) ?_ J Jx h0
  (fun xa xb gn i hi oa ob hg hlt hJ h1 h2 h3=>by
   obtain rfl:i=0:=by omega
   exact au3 xa xb gn hi oa ob hg hJ h1 h2 h3) aP1 aP4
 intro g w cv hfv;rw [hf] at hfv;cases hfv with
 | fn _ fs cs _ _ h1 h2 _ r2 =>
  have e1:fs=#[]:=by simpa using h1
  subst e1;obtain ⟨c1,rfl⟩:∃ c1,cs=#[c1]:=by
   have h2':cs.size=1:=h2;refine ⟨cs[0],?_⟩
   grind
  have hq:=r2 0 c1 _ rfl rfl;cases hq with
  | el b off cs o cell hl F5 hr =>
   have hz:=F5 0 b_;have hz1:=F5 1 b_;have hrz:=hr 0 _ rfl;have bS0:=hr 1 _ rfl;generalize cell 0=c0 at hz hrz;generalize cell 1=c1 at hz1 bS0;cases hrz;cases bS0 with
   | sl ao cap _ _ kk bl0 hk aa3 cB1 hr2 hc =>
    refine ⟨_,fun _=>[.agg #[.int .i64 1,.slice ao 0 cap]],rfl,fun i hi=>⟨rfl,fun j x v hx hv=>?_⟩,?_⟩
    ·match j with
     | 0 =>
      simp at hx hv;subst hx;subst hv;refine .agg _ _ rfl fun j x v hx hv=>?_
      grind
     | j+1=>simp at hx
    ·intro l K Kx dd7 hal hdr hY W hK
     simp only [J1,S0] at hl;refine hb.go l b (off+0) ao cap K Kx hal hdr (fun i W hKi=>?_) (fun W hK=>hY 0 W a_ hK) W hK;obtain ⟨gi,x⟩:=dd7 i W hKi;exact ⟨(x.cells _ _ a_).trans hz,(x.cells _ _ a_).trans hz1⟩
def ac6:Code->List Code
 | .seq a b=>ac6 a++ac6 b
 | c=>[c]
variable {b:Code}
@[go_sem] theorem ag9 {a:Code}:ac6 (.seq a b)=ac6 a++ac6 b:=by rw [ac6]
@[go_sem] theorem W8 {draw:Bool}:ac6 (.region id ops draw)=[.region id ops draw]:=by rw [ac6]<;>simp
@[go_sem] theorem aa5:ac6 (.block id b)=[.block id b]:=by rw [ac6]<;>simp
@[go_sem] theorem ak0:ac6 .ret=[.ret]:=by rw [ac6]<;>simp
@[go_sem] theorem aj2 {t:Operand} {a:Code}:ac6 (.cond t a b)=[.cond t a b]:=by rw [ac6]<;>simp
@[go_sem] theorem dL4:ac6 .skip=[.skip]:=by rw [ac6]<;>simp
@[go_sem] theorem dL2:ac6 (.exit id)=[.exit id]:=by rw [ac6]<;>simp
@[go_sem] theorem dL3:ac6 (.loop b)=[.loop b]:=by rw [ac6]<;>simp
@[go_sem] theorem cR6 {g:Operand} {ps:Array Tmp} {a:Code}:ac6 (.rangeFunc g ps a b)=[.rangeFunc g ps a b]:=by rw [ac6]<;>simp
theorem bz5 {P:Program} {F:Fence} {E:Exit->Act->World->Prop} {k:List It}:∀ (l:List Code) (e:Exit) (a:Act) (w:World),e≠.normal->Z2 P F E (l.map .code++k) e a w->Z2 P F E k e a w
 | [],_,_,_,_,h=>h
 | c::l,e,a,w,he,h=>by
  refine bz5 l e a w he ?_;cases e<;>first|exact h|exact absurd rfl he
variable {E:Exit->Act->World->Prop}
theorem ct0 {F:Fence}:∀ (c:Code) (k:List It) (a:Act) (w:World),Z2 P F E ((ac6 c).map .code++k) .normal a w->c.wpIn F 0 P (Z2 P F E k) a w:=by
 intro c
 induction c with
 | seq x y ihx ihy =>
  intro k a w h;rw [ag9,U0,aC4] at h;refine wpIn_seq (aA0 (ihx _ a w h) ?_);intro e a' w' hp;cases e with
  | normal=>exact ihy k a' w' hp
  | _=>exact bz5 _ _ a' w' b_ hp
 | _=>intro k a w h;rw [ac6] at h<;>first|exact h|(intro _ _ e;cases e)
theorem ae9 {x:XC} {y:Code} (h:ARX c x gen ((ac6 y).map .code++k) .normal σ):ARX c x gen (.code y::k) .normal σ :=
 fun g a w hx hX r=>ct0 y k a w (h g a w hx hX r)
@[congr] theorem dQ6 {x:XC} {σ':St} (h:σ=σ'):ARX c x gen k e σ=ARX c x gen k e σ':=by rw [h]
theorem u7 {x:XC} {y z:Code} {t:Operand} (h:aL0 (av c.env σ.tm t) (ARX c x gen (.code y::k) .normal σ) (ARX c x gen (.code z::k) .normal σ)) :
  ARX c x gen (.code (.cond t y z)::k) .normal σ:=by
 generalize hv:av c.env σ.tm t=v at h;cases v with
 | bool b=>exact cR8 hv h.1 h.2
 | _=>exact h.elim
theorem u_ {x:XC} {gn:Nat} {G:Prop} (hh:G) (h:PLift G->ARX c x gn k e σ:=by
   intro zz
   repeat' (first
    |(refine ⟨?_,?_⟩;focus ((repeat' (first|refine ⟨?_,?_⟩|refine .inr ?_));all_goals kernel_rfl))
    |exact hin _|exact agb l_|exact agf l_
    | (first|refine A4 ?_|refine o6 (by first|assumption|exact hx _ _|exact hx' _ _|exact hx1 _ _|exact hx2 _ _|exact xa _ _|exact xb _ _|exact xa' _ _|exact xb' _ _) follows (by kernel_rfl) ?_|refine u7 ?_|refine x6 ?_|refine N2 ?_|refine E1 ?_|refine K6 ?_|refine s7 ?_|refine F9 (by decide) ?_|refine C7 ?_|refine E3 ?_|refine spt rfl ?_|refine spf rfl ?_|refine cp l_ ?_)<;>try simp only [go_sem, *])
   all_goals exact zz.down):ARX c x gn k e σ:=h ⟨hh⟩
theorem ei7 {x:XC} {gn:Nat} (h:ARX c x gn k e σ:=by exact u_ trivial):ARX c x gn k e σ:=h
structure cx4 (P:Program) (gf:Nat):Prop where
 call:ac4 P gf
 go:∀ (l pb po:Nat) (a:Option Addr) (len cap:Nat) (elm:Nat->Value) (K:Nat->World->Prop) (Kx:World->Prop),len * 8<=140737488351232 ->
  (len≠0->∃ b off,a=some ⟨b,off,none⟩) ->
  (∀ i W,i<=len->K i W->W.cell? ⟨pb,po,none⟩=some (.slice a len cap)/\∀ b off,a=some ⟨b,off,none⟩->∀ j,j<len * 5->W.cell? ⟨b,off+j,none⟩=some (elm j)) ->
  (∀ (i:Nat) W,i<len->K (i+1) W->YieldAt Fence.wide (0 - 1) P l #[.int .i64 (i:Int),.agg #[elm (i * 5),elm (i * 5+1),elm (i * 5+2),elm (i * 5+3),elm (i * 5+4)]] W fun e W'=>(e=.returned (.bool true)/\K i W')\/(e=.returned (.bool false)/\Kx W')) ->
  ∀ W,K len W->CallsIn Fence.wide 0 P gf #[.func (.yield l) #[] #[],.pointer (some ⟨pb,po,none⟩)] W fun e W'=>(∃ v,e=.returned v)/\(K 0 W'\/Kx W')
theorem cb3:∀ (l:List (List V)),(∀ e∈l,e.length=5)->∀ (i:Nat) (e:List V),l[i]? = some e->∀ m,m<5->l.flatten[i * 5+m]? = e[m]?
 | [],_,i,e,h,m,hm=>by simp at h
 | x::l,hl,0,e,h,m,hm=>by
  grind
 | x::l,hl,i+1,e,h,m,hm=>by
  have:=cb3 l (fun y hy=>hl y (by simp [hy])) i e (by simpa using h) m hm
  grind
theorem cF7 {p1 p2:Nat} {body:Code} (hb:cx4 c.P gf)
  (hf:σ.tm f=.fn (.func gf) [] [.el [.sl .any vs] 0]) (h5:∀ e∈vs,e.length=5) (hlen:vs.length<=1000000) (hp1:p1<c.n) (hp2:p2<c.n)
  (J:Nat->H->Prop) (Jx:Option Nat->H->Prop) (h0:J vs.length σ.h)
  (au3:∀ (xa xb:XC) (gn i:Nat) (v:List V) (hi:H),XOk c.P xa->XOk c.P xb->gen<=gn->i<vs.length->vs[i]? = some v->J (i+1) hi ->
   (∀ σ' gn',ARX c xb gn' [.code body] .normal σ'->ARX c xa gn' [] .normal σ')->(∀ gn' σ',J i σ'.h->ARX c xb gn' [] .normal σ')->(∀ gn' id σ',Jx id σ'.h->ARX c xb gn' [] (ao1 id) σ') ->
   ARX c xa gn [.code assign] .normal ⟨upd (upd σ.tm (some p1) (.int .i64 i)) (some p2) (.agg v),hi⟩)
  (aP1:∀ D h',J 0 h'->ARX c (xD c D) gen k .normal ⟨σ.tm,h'⟩)
  (aP4:∀ D id h',Jx id h'->ARX c (xD c D) gen k (ao1 id) ⟨σ.tm,h'⟩) :
  ARX c (xF c) gen (.code (.rangeFunc (.tmp f) #[p1,p2] assign body)::k) .normal σ:=by
 refine cj0 (ps:=[p1,p2]) (n:=vs.length) (vv:=fun i=>[.int .i64 i,.agg (vs.getD i [])]) hb.call (by simp [hp1,hp2]) (fun i hi=>rfl) ?_ J Jx h0
  (fun xa xb gn i hi oa ob hg hlt hJ h1 h2 h3=>?_) aP1 aP4
 ·intro g w cv hfv
  rw [hf] at hfv;obtain ⟨pb,po,ao,cap,hev,S9,hpc,hne,elm,hel,dV9⟩:=bG0 hfv h5;refine ⟨_,fun i=>[.int .i64 (i:Int),.agg #[elm (i * 5),elm (i * 5+1),elm (i * 5+2),elm (i * 5+3),elm (i * 5+4)]],hev,fun i hi=>⟨rfl,fun j x v hx hv=>?_⟩,?_⟩
  ·match j with
   | 0=>simp at hx hv;subst hx;subst hv;exact .int _ _
   | 1 =>
    have he:vs[i]? = some vs[i]:=W4 hi;have h5i:=h5 _ (bo8 hi);simp [he] at hx hv;subst hx;subst hv;refine .agg _ _ (by rw [h5i];rfl) fun m x v hx hv=>?_;have hm:m<5:=by
     have:=(Z3.1 hx).1;simpa using this
    rw [<- cb3 vs h5 i _ he m hm] at hv
    grind
   | j+2=>simp at hx
  ·intro l K Kx dd7 _ _ hY W hK
   refine hb.go l pb po ao vs.length cap elm K Kx a_ hne (fun i W hi hKi=>?_) hY W hK;obtain ⟨gi,x⟩:=dd7 i W hKi;refine ⟨(x.cells _ _ S9).trans hpc,fun b off e j hj=>?_⟩;obtain ⟨h1,h2⟩:=hel b off e j hj;exact (x.cells _ _ h1).trans h2
 ·have hv:vs[i]? = some vs[i]:=W4 hlt
  grind [aQ3]
theorem be4 (hm:c.P.follows .mixedOrders=true) (h:AR c gen [] .ret σ):ARX c (xF c) gen [] .ret σ :=
 fun g a w hx _ r=>aH5 (show bodyPost c.P c.fn c.R .ret a w from h rfl hm g a w hx r.st)
def G.free (g:G):G:=g.wrs fun _=>true
theorem as7 {g g':G} (x:Ext g w g' w'):Ext g.free w g' w' :=
 ⟨x.os,x.tape,x.output,x.size,x.lim,x.cells,⟨fun b _ h=>by simp [G.free,G.wrs] at h,x.wr.2⟩,x.dom,x.top⟩
theorem ba8 {g0 g g':G} {w0:World} (x:Ext g0 w0 g w) (hf:∀ b,g0.wr b=true) (y:Ext g.free w g' w'):Ext g0 w0 g' w' :=
 let z:Ext g0 w0 g.free w:=⟨x.os,x.tape,x.output,x.size,x.lim,x.cells,⟨fun b _ h=>(by rw [hf] at h;cases h),x.wr.2⟩,x.dom,x.top⟩
 z.trans y
theorem bq5 {g:G}:∀ b,g.free.wr b=true:=fun _=>rfl
theorem I5 {g:G}:Ext g w (g.dn w) w:=(Ext.refl g w).dn
theorem L8.bE1 {g gi:G} {W:World} (t:L8 B W W') (hl:∀ b,w.heap.size<=b->g.lim b=0) (x:Ext g.free w gi W):Ext g.free w (gi.up B) W':=by
 refine ⟨t.os.trans x.os,t.tape.trans x.tape,t.output.trans x.output,S1 x.size t.size,x.lim,fun b o h=>?_,⟨fun b hb hw=>?_,fun b ok vs0 ty0 hb hn=>?_⟩,x.dom,x.top⟩
 ·by_cases hs:b<W.heap.size
  ·rw [t.cell b o hs];exact x.cells b o h
  ·have hw:w.heap.size<=b:=by have:=x.size;omega
   have:g.free.lim b=g.lim b:=rfl
   grind
 ·grind [G.free,G.wrs]
 ·obtain ⟨h1,h2⟩:=x.wr.2 b ok vs0 ty0 hb hn
  refine ⟨?_,h2⟩;rcases h1 with h1|⟨o1,vs,ty,u1,u2,u3⟩
  ·exact .inl ((t.aU5 _ _ _ (h1.trans hb)).trans hb.symm)
  ·exact .inr ⟨o1,vs,ty,u1,u2,t.aU5 _ _ _ u3⟩
def KO (L:Nat->Prop) (W0:World) (g:G) (w:World):Prop:=∀ b o,¬ L b->W0.heap[b]? = some o->opn o=false->w.heap[b]? = some o/\g.wr b=false
variable {L:Nat->Prop} {W0:World}
theorem KO.ext {g g':G} (x:Ext g w g' w') (k:KO L W0 g w):KO L W0 g' w':=fun b o h1 h2 h3=>by
 obtain ⟨k1,k2⟩:=k b o h1 h2 h3;obtain ⟨x1,x2⟩:=x.wr.1 b (Z3.1 k1).1 k2
 grind
theorem KO.turn {g:G} (hB:W0.heap.size<=B) (t:L8 B w w') (k:KO L W0 g w):KO L W0 (g.up B) w':=fun b o h1 h2 h3=>by
 obtain ⟨k1,k2⟩:=k b o h1 h2 h3;have hb:=(Z3.1 h2).1;refine ⟨(t.same b a_).trans k1,?_⟩;show (g.wr b||decide (B<=b))=false;rw [k2];simp;omega
theorem KO.back {L':Nat->Prop} {g g':G} (hL:∀ b,L' b->L b) (k:KO L W0 g w) (h:∀ b o,¬ L' b->w.heap[b]? = some o->opn o=false->w'.heap[b]? = some o):KO L W0 (g'.dn w') w':=fun b o h1 h2 h3=>by
 obtain ⟨k1,k2⟩:=k b o h1 h2 h3
 grind [ai6,Ext.refl]
theorem KO.here {g:G}:KO L w (g.dn w) w:=fun b o _ h2 h3=>⟨h2,(ai6 (Ext.refl _ _) h2 h3).2⟩
structure YC where
 F:Fence
 ds:List Deferred
 L:G->World->Prop
 E:Exit->Act->World->Prop
 Lo:Nat->Prop
 bd:Nat
def YC.at (y:YC) (X:G->World->Prop):XC:=⟨y.F,y.ds,fun g w=>X g w/\y.L g w,y.E⟩
structure YOk (c:Ctx) (y:YC):Prop where
 fn:∀ f,y.F.fn f
 dp:y.F.depth=none
 cl:∀ k args w R,Calls c.P k args w R->CallsIn y.F (0 - 1) c.P k args w R
 ci:∀ {n k args w R},CallsIn Fence.wide n c.P k args w R->CallsIn y.F n c.P k args w R
 ri:∀ {n l f tmps a b w R},RoundIn Fence.wide n c.P l f tmps a b w R->RoundIn y.F n c.P l f tmps a b w R
 ext:∀ g w g' w',Ext g w g' w'->y.L g w->y.L g' w'
 turn:∀ g W W' B,y.bd<=B->L8 B W W'->(∀ b,W.heap.size<=b->g.lim b=0)->y.L g W->y.L (g.up B) W'
 back:∀ g w g' w',(∀ b,c.g0.wr b=true)->y.L g w->Ext g.free w g' w'->(∀ b o,¬ y.Lo b->w.heap[b]? = some o->opn o=false->w'.heap[b]? = some o)->y.L (g'.dn w') w'
 size:∀ g w,y.L g w->y.bd<=w.heap.size
 lo:∀ b,y.Lo b->b<y.bd
structure XSt (bd:Nat) (X:G->World->Prop):Prop where
 ext:∀ g w g' w',Ext g w g' w'->X g w->X g' w'
 turn:∀ g W W' B,bd<=B->L8 B W W'->(∀ b,W.heap.size<=b->g.lim b=0)->X g W->X (g.up B) W'
theorem YOk.x {c:Ctx} {y:YC} (h:YOk c y) {X:G->World->Prop} {bd:Nat} (hX:XSt bd X):XOk c.P (y.at X) :=
 ⟨h.fn,h.dp,h.cl,fun g w g' w' x hh=>⟨hX.ext _ _ _ _ x hh.1,h.ext _ _ _ _ x hh.2⟩⟩
structure Cons where
 l:Nat
 bd:Nat
 L:Nat->Prop
 S:Id->Prop
 base:Id->Prop
 Y:Nat->G->World->H->Prop
 Z:G->World->H->Prop
structure aA7 (C:Cons) (g:G) (W:World) (h:H) (g':G) (W':World) (h':H):Prop where
 ext:Ext g.free W g' W'
 same:∀ id,¬ C.S id->h id≠none->h' id=h id
 obj:∀ b o,¬ C.L b->W.heap[b]? = some o->opn o=false->W'.heap[b]? = some o
structure ao6 (P:Program) (env:Nat->Option (List V)) (C:Cons) (vs:List (List V)):Prop where
 sub:∀ id,C.S id->C.base id
 lo:∀ b,C.L b->b<C.bd
 Yext:∀ i g w g' w' h,Ext g w g' w'->C.Y i g w h->C.Y i g' w' h
 Yh:∀ i g w h h',(∀ id,C.base id->h' id=h id)->C.Y i g w h->C.Y i g w h'
 Yt:∀ i g W W' h B,C.bd<=B->L8 B W W'->(∀ b,W.heap.size<=b->g.lim b=0)->C.Y i g W h->C.Y i (g.up B) W' h
 Ybd:∀ i g w h,C.Y i g w h->C.bd<=w.heap.size
 Zext:∀ g w g' w' h,Ext g w g' w'->C.Z g w h->C.Z g' w' h
 Zh:∀ g w h h',(∀ id,C.base id->h' id=h id)->C.Z g w h->C.Z g w h'
 Zt:∀ g W W' h B,C.bd<=B->L8 B W W'->(∀ b,W.heap.size<=b->g.lim b=0)->C.Z g W h->C.Z (g.up B) W' h
 round:∀ i vv (xs:List Value) g W h,vs[i]? = some vv->C.Y i g W h->Rel env g W h->xs.length=vv.length->(∀ (j:Nat) x v,xs[j]? = some x->vv[j]? = some v->RV g W x v) ->
  YieldAt Fence.wide (0 - 1) P C.l xs.toArray W fun e W'=>∃ g' h',aA7 C g W h g' W' h'/\Rel env g' W' h'/\((e=.returned (.bool true)/\C.Y (i+1) g' W' h')\/(e=.returned (.bool false)/\C.Z g' W' h'))
def Iter (P:Program) (env:Nat->Option (List V)) (fv:V) (vs:List (List V)):Prop :=
 ∀ g w x,RV g w x fv->∃ gf lb,x=.func (.func gf) #[] lb/\ac4 P gf /\
  ∀ (C:Cons),ao6 P env C vs->∀ g1 W1 h1,Ext g w g1 W1->Rel env g1 W1 h1->C.Y 0 g1 W1 h1->(∀ id,C.base id->h1 id≠none) ->
   CallsIn Fence.wide 0 P gf (#[.func (.yield C.l) #[] #[]]++lb) W1 fun e W'=>(∃ v,e=.returned v)/\∃ g' h',aA7 C g1 W1 h1 g' W' h'/\Rel env g' W' h'/\(C.Y vs.length g' W' h'\/C.Z g' W' h')
def di1 (y:YC) (W:World) (G0:G) (g:G) (w:World):Prop:=y.L g w/\Ext G0.free W g w/\KO y.Lo W g w
def cE2 (y:YC) (W:World) (G0:G) (l:Nat) (r:Loop) (g:G) (w:World):Prop :=
 y.L g w/\Ext G0.free W g w/\KO (fun b=>b=l\/y.Lo b) W g w/\w.heap[l]? = some (.loop r)/\g.wr l=false
def di0 (c:Ctx) (y:YC) (W:World) (G0:G) (l:Nat) (E:Exit->Act->World->Prop):YC:=⟨Fence.wide.inRound l,[],di1 y W G0,E,y.Lo,W.heap.size⟩
def ct3 (c:Ctx) (y:YC) (W:World) (G0:G) (l:Nat) (r:Loop) (E:Exit->Act->World->Prop):YC:=⟨Fence.wide.inRound l,[],cE2 y W G0 l r,E,y.Lo,W.heap.size⟩
variable {y:YC}
theorem cP0 (hy:YOk c y) {W:World} {G0:G} (hG:∀ b,W.heap.size<=b->G0.lim b=0) (hbd:y.bd<=W.heap.size):YOk c (di0 c y W G0 l E) :=
 ⟨fun _=>trivial,rfl,fun k args w R h=>(show CallsIn Fence.wide (0 - 1) c.P k args w R from callsIn_wide.2 h),fun h=>h,fun h=>h,
  fun g w g' w' x ⟨h1,h2,h3⟩=>⟨hy.ext _ _ _ _ x h1,h2.trans x,h3.ext x⟩,
  fun g W1 W2 B hB t hl ⟨h1,h2,h3⟩=>⟨hy.turn _ _ _ _ (S1 hbd hB) t hl h1,t.bE1 hG h2,h3.turn hB t⟩,
  fun g w g' w' hf ⟨h1,h2,h3⟩ x ho=>⟨hy.back _ _ _ _ hf h1 x ho,(ba8 h2 bq5 x).trans I5,h3.back (fun _ e=>e) ho⟩,
  fun g w ⟨_,h2,_⟩=>h2.size,fun b hb=>aA3 (hy.lo b hb) hbd⟩
theorem cP1 (hy:YOk c y) {W:World} {G0:G} {r:Loop} (hG:∀ b,W.heap.size<=b->G0.lim b=0) (hbd:y.bd<=W.heap.size) (hl:l<W.heap.size) (hlo:¬ y.Lo l):YOk c (ct3 c y W G0 l r E) :=
 ⟨fun _=>trivial,rfl,fun k args w R h=>(show CallsIn Fence.wide (0 - 1) c.P k args w R from callsIn_wide.2 h),fun h=>h,fun h=>h,
  fun g w g' w' x ⟨h1,h2,h3,h4,h5⟩=>by
   obtain ⟨x1,x2⟩:=x.wr.1 l (Z3.1 h4).1 h5;exact ⟨hy.ext _ _ _ _ x h1,h2.trans x,h3.ext x,x1.trans h4,x2⟩,
  fun g W1 W2 B hB t hz ⟨h1,h2,h3,h4,h5⟩=>by
   have hB':W.heap.size<=B:=hB;exact ⟨hy.turn _ _ _ _ (S1 hbd hB) t hz h1,t.bE1 hG h2,h3.turn hB t,(t.same l a_).trans h4,by show (g.wr l||decide (B<=l))=false;rw [h5];simp;omega⟩,
  fun g w g' w' hf ⟨h1,h2,h3,h4,h5⟩ x ho=>by
   have e:=ho l _ hlo h4 rfl;exact ⟨hy.back _ _ _ _ hf h1 x ho,(ba8 h2 bq5 x).trans I5,h3.back (fun _ e=>.inr e) ho,e,(ai6 (Ext.refl _ _) e rfl).2⟩,
  fun g w ⟨_,h2,_⟩=>h2.size,fun b hb=>aA3 (hy.lo b hb) hbd⟩
section
variable {c:Ctx} {y:YC} (hy:YOk c y) {σ:St} {ps:List Nat} {vs:List (List V)} {assign body:Code} {gen:Nat}
 (hps:∀ p∈ps,p<c.n) (hvv:∀ v∈vs,v.length=ps.length)
 (S:Id->Prop) (hS:∀ id,S id->σ.h id≠none)
 (J:Nat->(G->World->Prop)->H->Prop) (Jx:Option Nat->(G->World->Prop)->H->Prop)
 (hJX:∀ i X h,J i X h->XSt y.bd X) (bw7:∀ i X h,Jx i X h->XSt y.bd X)
 (hJh:∀ i X h h',(∀ id,σ.h id≠none->h' id=h id)->J i X h->J i X h') (cM0:∀ i X h h',(∀ id,σ.h id≠none->h' id=h id)->Jx i X h->Jx i X h')
 (S9:∀ b,c.w0.heap.size<=b->c.g0.lim b=0)
 (au3:∀ (ya yb:YC) (gn i:Nat) (vv:List V) (hi:H) (X:G->World->Prop),YOk c ya->YOk c yb->(∃ l,ya.F=Fence.wide.inRound l/\yb.F=Fence.wide.inRound l/\∀ g w,yb.L g w->∃ r,w.heap[l]? = some (.loop r)) ->
   ya.ds=[]->yb.ds=[]->ya.Lo=y.Lo->yb.Lo=y.Lo->XSt y.bd X->ya.bd=yb.bd->y.bd<=ya.bd->gen<=gn->vs[i]? = some vv->J i X hi->(∀ id,σ.h id≠none->hi id≠none) ->
   (∀ X' σ' gn',XSt y.bd X'->ARX c (yb.at X') gn' [.code body] .normal σ'->ARX c (ya.at X') gn' [] .normal σ') ->
   (∀ X' gn' σ',J (i+1) X' σ'.h->(∀ id,¬ S id->hi id≠none->σ'.h id=hi id)->ARX c (yb.at X') gn' [] .normal σ') ->
   (∀ X' gn' id σ',Jx id X' σ'.h->(∀ id,¬ S id->hi id≠none->σ'.h id=hi id)->ARX c (yb.at X') gn' [] (ao1 id) σ') ->
   ARX c (ya.at X) gn [.code assign] .normal ⟨aQ3 σ.tm ps vv,hi⟩)
include hy hps hvv hS hJX bw7 hJh cM0 S9 au3
theorem bJ5 {g:G} {W1:World} {rec:LoopState->Option Code->Loop} (hx:Ext c.g0 c.w0 g w) {X0:G->World->Prop} (hX:X0 g w) (hL:y.L g w) (r:M1 c.env c.n g w a σ)
  (h0:J 0 X0 σ.h) {lb:Array Value}
  (hgo:∀ (C:Cons),ao6 c.P c.env C vs->∀ g1 W1 h1,Ext g w g1 W1->Rel c.env g1 W1 h1->C.Y 0 g1 W1 h1->(∀ id,C.base id->h1 id≠none) ->
   CallsIn Fence.wide 0 c.P gf (#[.func (.yield C.l) #[] #[]]++lb) W1 fun e W'=>(∃ v,e=.returned v)/\∃ g' h',aA7 C g1 W1 h1 g' W' h'/\Rel c.env g' W' h'/\(C.Y vs.length g' W' h'\/C.Z g' W' h'))
  (ht:L8 w.heap.size w W1) (hl:W1.heap[l]? = some (.loop (rec .ready none))) (hwl:w.heap.size<=l)
  (ae8:∃ fn df,rec=fun st pe=>{ state:=st,pending:=pe,fn,tmps:=a.tmps,params:=ps.toArray,assign,body,defers:=df }) :
  CallsIn Fence.wide 0 c.P gf (#[.func (.yield l) #[] #[]]++lb) W1 fun e W2=>(∃ v,e=.returned v)/\∃ g' h' X',X' g' W2/\y.L g' W2/\Ext c.g0 c.w0 g' W2/\Ext g.free w g' W2/\Rel c.env g' W2 h' /\
   (∀ id,¬ S id->σ.h id≠none->h' id=σ.h id)/\(∀ b o,¬ (b=l\/y.Lo b)->W1.heap[b]? = some o->opn o=false->W2.heap[b]? = some o) /\
   ((J vs.length X' h'/\W2.heap[l]? = some (.loop (rec .ready none)))\/∃ id,Jx id X' h'/\W2.heap[l]? = some (.loop (rec .done (some (bm0 id))))):=by
 obtain ⟨fn,df,ae8⟩:=ae8;have hbl:y.bd<=l:=S1 (hy.size g w hL) hwl;have hcl:c.w0.heap.size<=l:=S1 hx.size hwl;have bb4:∀ b,w.heap.size<=b->g.lim b=0:=r.rel.B3;have hnl:¬ y.Lo l:=fun h=>by have:=hy.lo l h;omega
 have bE6:a.defers=[]:=r.defers;obtain ⟨C,hC⟩:∃ C:Cons,C=⟨l,l+1,fun b=>b=l\/y.Lo b,S,fun id=>σ.h id≠none,
   fun i G W H=>∃ X',J i X' H/\X' G W/\y.L G W/\Ext c.g0 c.w0 G W/\Ext g.free w G W/\W.heap[l]? = some (.loop (rec .ready none))/\G.wr l=false,
   fun G W H=>∃ X' id,Jx id X' H/\X' G W/\y.L G W/\Ext c.g0 c.w0 G W/\Ext g.free w G W/\W.heap[l]? = some (.loop (rec .done (some (bm0 id))))/\G.wr l=false⟩:=⟨_,rfl⟩
 have wrl:∀ {G:G} {B:Nat},G.wr l=false->l+1<=B->(G.up B).wr l=false:=fun {G B} h hB=>by
  show (G.wr l||decide (B<=l))=false;rw [h];simp;omega
 have hok:ao6 c.P c.env C vs:=by
  subst hC;refine ⟨hS,fun b h=>?_,?_,?_,?_,?_,?_,?_,?_,?_⟩
  ·rcases h with rfl|h
   ·show b<b+1;omega
   ·have:=hy.lo b h;show b<l+1;omega
  ·rintro i G W G' W' H x ⟨X',j1,j2,j3,j4,j5,j6,j7⟩
   obtain ⟨x1,x2⟩:=x.wr.1 l (Z3.1 j6).1 j7;exact ⟨X',j1,(hJX _ _ _ j1).ext _ _ _ _ x j2,hy.ext _ _ _ _ x j3,j4.trans x,j5.trans x,x1.trans j6,x2⟩
  ·rintro i G W H H' e ⟨X',j1,j⟩
   exact ⟨X',hJh _ _ _ _ e j1,j⟩
  ·rintro i G W W' H B hB t hz ⟨X',j1,j2,j3,j4,j5,j6,j7⟩
   have hB':l+1<=B:=hB;exact ⟨X',j1,(hJX _ _ _ j1).turn _ _ _ _ a_ t hz j2,hy.turn _ _ _ _ a_ t hz j3,t.ext a_ S9 j4,t.bE1 bb4 j5,(t.same l a_).trans j6,wrl j7 hB'⟩
  ·grind
  ·rintro G W G' W' H x ⟨X',id,j1,j2,j3,j4,j5,j6,j7⟩
   obtain ⟨x1,x2⟩:=x.wr.1 l (Z3.1 j6).1 j7;exact ⟨X',id,j1,(bw7 _ _ _ j1).ext _ _ _ _ x j2,hy.ext _ _ _ _ x j3,j4.trans x,j5.trans x,x1.trans j6,x2⟩
  ·rintro G W H H' e ⟨X',id,j1,j⟩
   exact ⟨X',id,cM0 _ _ _ _ e j1,j⟩
  ·rintro G W W' H B hB t hz ⟨X',id,j1,j2,j3,j4,j5,j6,j7⟩
   have hB':l+1<=B:=hB;exact ⟨X',id,j1,(bw7 _ _ _ j1).turn _ _ _ _ a_ t hz j2,hy.turn _ _ _ _ a_ t hz j3,t.ext a_ S9 j4,t.bE1 bb4 j5,(t.same l a_).trans j6,wrl j7 hB'⟩
  ·
   rintro i vv xs G W hh hi ⟨X',j1,j2,j3,j4,j5,j6,j7⟩ q hlen hrv;have hvl:=hvv vv (Q7 hi);have hyl:=run_yield (P:=c.P) (args:=xs.toArray) j6 (by rw [ae8];simp;omega);have hsz:l<W.heap.size:=(Z3.1 j6).1;refine ⟨(rec .ready none).fn,_,(rec .ready none).assign,(rec .ready none).body,hyl,roundIn_of_wpIn trivial ?_⟩;obtain ⟨busy,cA9⟩:∃ busy:Loop,busy={ rec .ready none with state:=.busy }:=⟨_,rfl⟩;obtain ⟨Eb,hEb⟩:∃ Eb:Exit->Act->World->Prop,Eb=fun e a w'=>∃ g' h' X'',X'' g' w'/\cE2 y W G l busy g' w'/\Ext c.g0 c.w0 g' w'/\Rel c.env g' w' h'/\(∀ id,¬ S id->hh id≠none->h' id=hh id) /\
    (match e with | .normal=>J (i+1) X'' h' | .exit id=>Jx (some id) X'' h' | .ret=>Jx none X'' h'|_=>False):=⟨_,rfl⟩
   obtain ⟨Ea,hEa⟩:∃ Ea:Exit->Act->World->Prop,Ea=fun e a w'=>e=.normal/\∃ g' σ' X'' gn',XSt y.bd X''/\X'' g' w'/\di1 y W G g' w'/\Ext c.g0 c.w0 g' w'/\T6 [] c.env c.n g' w' a σ' /\
    ARX c ((ct3 c y W G l busy Eb).at X'') gn' [.code body] .normal σ':=⟨_,rfl⟩
   have hbn:∀ id,σ.h id≠none->hh id≠none:=fun id hid=>(q.dom id).1 (j5.dom id ((r.rel.dom id).2 hid)).1;have h1:=au3 (di0 c y W G l Ea) (ct3 c y W G l busy Eb) gen i vv hh X' (cP0 hy q.B3 a_) (cP1 hy q.B3 a_ hsz hnl) ⟨l,rfl,rfl,fun g w h=>⟨_,h.2.2.2.1⟩⟩
    rfl rfl rfl rfl (hJX _ _ _ j1) rfl (by show y.bd<=W.heap.size;omega) (w7 _) hi j1 hbn
    (fun X'' σ' gn' hXS h g' a' w' hx' hX' r'=>by
     rw [hEa];exact ⟨rfl,g',σ',X'',gn',hXS,hX'.1,hX'.2,hx',r',h⟩)
    (fun X'' gn' σ' hJ hs g' a' w' hx' hX' r'=>by
     rw [hEb];exact ⟨g',σ'.h,X'',hX'.1,hX'.2,hx',r'.1.rel,hs,hJ⟩)
    (fun X'' gn' id σ' hJ hs g' a' w' hx' hX' r'=>by
     rw [hEb];cases id<;>exact ⟨g',σ'.h,X'',hX'.1,hX'.2,hx',r'.1.rel,hs,hJ⟩)
   have hst:T6 [] c.env c.n (G.dn W) W { tmps:=(ps.zip xs).foldl (fun tmps (t,a)=>tmps.setIfInBounds t a) a.tmps,defers:=[] } ⟨aQ3 σ.tm ps vv,hh⟩:=by
    have s0:M1 c.env c.n (G.dn W) W a ⟨σ.tm,hh⟩:=⟨q.dn,fun t=>((r.tm t).wrs _).mono (j5.trans I5),r.size,bE6⟩;have s1:=M1.dO8 ps xs vv s0 hps a_ (fun j x v hx hv=>(hrv j x v hx hv).mono I5) hvl;rw [bE6] at s1;exact T6.of s1
   have h2:=h1 _ _ W (j4.trans I5) ⟨(hJX _ _ _ j1).ext _ _ _ _ I5 j2,hy.ext _ _ _ _ I5 j3,as7 I5,KO.here⟩ hst;have etm:(((rec .ready none).params.zip xs.toArray).foldl (fun tmps (t,a)=>tmps.setIfInBounds t a) (rec .ready none).tmps)=(ps.zip xs).foldl (fun tmps (t,a)=>tmps.setIfInBounds t a) a.tmps:=by
    rw [ae8];simp
   have eas:(rec .ready none).assign=assign:=by rw [ae8]
   have ebo:(rec .ready none).body=body:=by rw [ae8]
   rw [etm,eas,ebo];refine aA0 (show assign.wpIn (Fence.wide.inRound l) 0 c.P _ _ _ from h2) ?_;intro e a1 w1 hp;have hp':Ea e a1 w1:=by cases e<;>exact hp
   rw [hEa] at hp';obtain ⟨rfl,g1,σ1,X1,gn',hXS,hX1,⟨k1,k2,k3⟩,hx1,r1,dd3⟩:=hp';have e1:w1.heap[l]? = some (.loop (rec .ready none)):=(k3 l _ hnl j6 rfl).1;refine ⟨_,run_beginRound e1 (by rw [ae8]),?_⟩;rw [<- cA9];have t:L8 l w1 (w1.putObj l (.loop busy)):=ac2 (w7 _) e1 rfl rfl;have hl1:l<w1.heap.size:=(Z3.1 e1).1;have l3:(w1.putObj l (.loop busy)).heap[l]? = some (.loop busy):=World.putObj_heap_same hl1;have r1':=r1.st;have dN0:T6 [] c.env c.n ((g1.up l).dn (w1.putObj l (.loop busy))) (w1.putObj l (.loop busy)) a1 σ1 :=
    T6.of ⟨(t.rel r1'.rel).dn,fun t'=>(((r1'.tm t').wrs _).mono (t.here r1'.rel.B3)).mono I5,r1'.size,r1'.defers⟩
   have h4:=dd3 _ a1 _ ((t.ext hcl S9 hx1).trans I5) ⟨hXS.ext _ _ _ _ I5 (hXS.turn _ _ _ _ hbl t r1'.rel.B3 hX1),hy.ext _ _ _ _ I5 (hy.turn _ _ _ _ hbl t r1'.rel.B3 k1),(t.bE1 q.B3 k2).trans I5,
    (fun b o hb h2 h3=>by
     have hb':b≠l/\¬ y.Lo b:=⟨fun e=>hb (.inl e),fun e=>hb (.inr e)⟩;have:(w1.putObj l (.loop busy)).heap[b]? = some o:=(World.putObj_heap_other hb'.1).trans (k3 b o hb'.2 h2 h3).1
     grind [ai6,Ext.refl]),l3,(ai6 (Ext.refl _ _) l3 rfl).2⟩ dN0
   refine aA0 (show body.wpIn (Fence.wide.inRound l) 0 c.P _ _ _ from h4) ?_;intro e a4 w4 hp4;have dv4:Eb e a4 w4:=by cases e<;>exact hp4
   rw [hEb] at dv4;obtain ⟨g4,h4',X4,y0,⟨z1,z2,z3,z4,z5⟩,zx,q4,hs4,hJ4⟩:=dv4;have hl4:l<w4.heap.size:=(Z3.1 z4).1;have fin:∀ (jump:Option Code) (rr:Loop),rr={ busy with state:=if jump.isNone then .ready else .done,pending:=jump }->XSt y.bd X4 ->
     (Instr.endRound l jump).run c.P w4=.ok (.bool jump.isNone) (w4.putObj l (.loop rr)) /\
     aA7 ⟨l,l+1,fun b=>b=l\/y.Lo b,S,fun id=>σ.h id≠none,
      fun i G W H=>∃ X',J i X' H/\X' G W/\y.L G W/\Ext c.g0 c.w0 G W/\Ext g.free w G W/\W.heap[l]? = some (.loop (rec .ready none))/\G.wr l=false,
      fun G W H=>∃ X' id,Jx id X' H/\X' G W/\y.L G W/\Ext c.g0 c.w0 G W/\Ext g.free w G W/\W.heap[l]? = some (.loop (rec .done (some (bm0 id))))/\G.wr l=false⟩ G W hh ((g4.up l).dn (w4.putObj l (.loop rr))) (w4.putObj l (.loop rr)) h4' /\
     Rel c.env ((g4.up l).dn (w4.putObj l (.loop rr))) (w4.putObj l (.loop rr)) h4' /\
     X4 ((g4.up l).dn (w4.putObj l (.loop rr))) (w4.putObj l (.loop rr))/\y.L ((g4.up l).dn (w4.putObj l (.loop rr))) (w4.putObj l (.loop rr)) /\
     Ext c.g0 c.w0 ((g4.up l).dn (w4.putObj l (.loop rr))) (w4.putObj l (.loop rr))/\Ext g.free w ((g4.up l).dn (w4.putObj l (.loop rr))) (w4.putObj l (.loop rr)) /\
     (w4.putObj l (.loop rr)).heap[l]? = some (.loop rr)/\((g4.up l).dn (w4.putObj l (.loop rr))).wr l=false:=by
    intro jump rr hrr dV4;have t4:L8 l w4 (w4.putObj l (.loop rr)):=ac2 (w7 _) z4 rfl rfl;have l5:(w4.putObj l (.loop rr)).heap[l]? = some (.loop rr):=World.putObj_heap_same hl4;have x5:Ext G.free W ((g4.up l).dn (w4.putObj l (.loop rr))) (w4.putObj l (.loop rr)):=(t4.bE1 q.B3 z2).trans I5;refine ⟨?_,⟨x5,hs4,fun b o hb h2 h3=>?_⟩,(t4.rel q4).dn,dV4.ext _ _ _ _ I5 (dV4.turn _ _ _ _ hbl t4 q4.B3 y0),hy.ext _ _ _ _ I5 (hy.turn _ _ _ _ hbl t4 q4.B3 z1),
     (t4.ext hcl S9 zx).trans I5,ba8 j5 bq5 x5,l5,(ai6 (Ext.refl _ _) l5 rfl).2⟩
    ·grind [run_endRound]
    ·have hb':b≠l:=fun e=>hb (.inl e)
     exact (World.putObj_heap_other hb').trans (z3 b o hb h2 h3).1
   cases e with
   | normal =>
    obtain ⟨f1,f2,f3,f4,f5,f6,f7,f8,f9⟩:=fin none (rec .ready none) (by rw [cA9,ae8];rfl) (hJX _ _ _ hJ4);exact ⟨_,_,f1,_,h4',f2,f3,.inl ⟨rfl,X4,hJ4,f4,f5,f6,f7,f8,f9⟩⟩
   | exit id =>
    obtain ⟨f1,f2,f3,f4,f5,f6,f7,f8,f9⟩:=fin (some (.exit id)) (rec .done (some (.exit id))) (by rw [cA9,ae8];rfl) (bw7 _ _ _ hJ4);exact ⟨_,_,f1,_,h4',f2,f3,.inr ⟨rfl,X4,some id,hJ4,f4,f5,f6,f7,f8,f9⟩⟩
   | ret =>
    obtain ⟨f1,f2,f3,f4,f5,f6,f7,f8,f9⟩:=fin (some .ret) (rec .done (some .ret)) (by rw [cA9,ae8];rfl) (bw7 _ _ _ hJ4);exact ⟨_,_,f1,_,h4',f2,f3,.inr ⟨rfl,X4,none,hJ4,f4,f5,f6,f7,f8,f9⟩⟩
   | goto t=>exact hJ4.elim
   | panic ch=>exact hJ4.elim
   | outgrown=>exact hJ4.elim
 have dV3:=hJX _ _ _ h0;have hbw:y.bd<=w.heap.size:=hy.size g w hL;have t:=ht;have q1:Rel c.env ((g.up w.heap.size).dn W1) W1 σ.h:=(t.rel r.rel).dn;have x1:Ext g w ((g.up w.heap.size).dn W1) W1:=(t.ext (w7 _) bb4 (Ext.refl g w)).trans I5;have hY0:C.Y 0 ((g.up w.heap.size).dn W1) W1 σ.h:=by
  subst hC;exact ⟨X0,h0,dV3.ext _ _ _ _ I5 (dV3.turn _ _ _ _ hbw t bb4 hX),hy.ext _ _ _ _ I5 (hy.turn _ _ _ _ hbw t bb4 hL),hx.trans x1,as7 x1,hl,(ai6 (Ext.refl _ _) hl rfl).2⟩
 have:=hgo C hok _ W1 σ.h x1 q1 hY0 (by simp [*]);subst hC;refine this.mono ?_;rintro e W2 ⟨hv,g',h',⟨a1,a2,a3⟩,q2,aD0⟩;refine ⟨hv,g',h',?_⟩;rcases aD0 with ⟨X',j1,j2,j3,j4,j5,j6,j7⟩|⟨X',id,j1,j2,j3,j4,j5,j6,j7⟩
 ·exact ⟨X',j2,j3,j4,j5,q2,a2,a3,.inl ⟨j1,j6⟩⟩
 ·exact ⟨X',j2,j3,j4,j5,q2,a2,a3,.inr ⟨id,j1,j6⟩⟩
end
end GoAbs
set_option maxHeartbeats 400000
namespace GoAbs
open Go
def YC.mk1 (y:YC) (D:Nat):YC:=⟨y.F,[bc2 D],fun g w=>y.L g w/\w.heap[D]? = some (.deferred (some []))/\g.wr D=false,y.E,y.Lo,D+1⟩
variable {c:Ctx}
theorem df7 {y:YC} (hy:YOk c y) {D:Nat} (hD:y.bd<=D):YOk c (y.mk1 D) :=
 ⟨hy.fn,hy.dp,hy.cl,hy.ci,hy.ri,
  fun g w g' w' x ⟨h1,h2,h3⟩=>by
   obtain ⟨x1,x2⟩:=x.wr.1 D (Z3.1 h2).1 h3;exact ⟨hy.ext _ _ _ _ x h1,x1.trans h2,x2⟩,
  fun g W W' B hB t hz ⟨h1,h2,h3⟩=>by
   have hB':D+1<=B:=hB;exact ⟨hy.turn _ _ _ _ a_ t hz h1,(t.same D a_).trans h2,by show (g.wr D||decide (B<=D))=false;rw [h3];simp;omega⟩,
  fun g w g' w' hf ⟨h1,h2,h3⟩ x ho=>by
   have e:=ho D _ (fun h=>by have:=hy.lo D h;omega) h2 rfl;exact ⟨hy.back _ _ _ _ hf h1 x ho,e,(ai6 (Ext.refl _ _) e rfl).2⟩,
  fun g w ⟨_,h2,_⟩=>(Z3.1 h2).1,
  fun b hb=>by have:=hy.lo b hb;show b<D+1;omega⟩
section
variable {c:Ctx} {y:YC} (hy:YOk c y) {σ:St} {ps:List Nat} {vs:List (List V)} {assign body:Code} {gen:Nat}
 (hps:∀ p∈ps,p<c.n) (hvv:∀ v∈vs,v.length=ps.length)
 (S:Id->Prop) (hS:∀ id,S id->σ.h id≠none)
 (J:Nat->(G->World->Prop)->H->Prop) (Jx:Option Nat->(G->World->Prop)->H->Prop)
 (hJX:∀ i X h,J i X h->XSt y.bd X) (bw7:∀ i X h,Jx i X h->XSt y.bd X)
 (hJh:∀ i X h h',(∀ id,σ.h id≠none->h' id=h id)->J i X h->J i X h') (cM0:∀ i X h h',(∀ id,σ.h id≠none->h' id=h id)->Jx i X h->Jx i X h')
 (S9:∀ b,c.w0.heap.size<=b->c.g0.lim b=0)
 (au3:∀ (ya yb:YC) (gn i:Nat) (vv:List V) (hi:H) (X:G->World->Prop),YOk c ya->YOk c yb->(∃ l,ya.F=Fence.wide.inRound l/\yb.F=Fence.wide.inRound l/\∀ g w,yb.L g w->∃ r,w.heap[l]? = some (.loop r)) ->
   ya.ds=[]->yb.ds=[]->ya.Lo=y.Lo->yb.Lo=y.Lo->XSt y.bd X->ya.bd=yb.bd->y.bd<=ya.bd->gen<=gn->vs[i]? = some vv->J i X hi->(∀ id,σ.h id≠none->hi id≠none) ->
   (∀ X' σ' gn',XSt y.bd X'->ARX c (yb.at X') gn' [.code body] .normal σ'->ARX c (ya.at X') gn' [] .normal σ') ->
   (∀ X' gn' σ',J (i+1) X' σ'.h->(∀ id,¬ S id->hi id≠none->σ'.h id=hi id)->ARX c (yb.at X') gn' [] .normal σ') ->
   (∀ X' gn' id σ',Jx id X' σ'.h->(∀ id,¬ S id->hi id≠none->σ'.h id=hi id)->ARX c (yb.at X') gn' [] (ao1 id) σ') ->
   ARX c (ya.at X) gn [.code assign] .normal ⟨aQ3 σ.tm ps vv,hi⟩)
 {f:Nat} {k:List It} (hit:Iter c.P c.env (σ.tm f) vs) {X0:G->World->Prop} (h0:J 0 X0 σ.h)
include hy hps hvv hS hJX bw7 hJh cM0 S9 au3 hit h0
theorem aD3 (hF:y.F=Fence.wide) (hds:y.ds=[])
  (aP1:∀ D X' h',y.bd<=D->YOk c (y.mk1 D)->J vs.length X' h'->(∀ id,¬ S id->σ.h id≠none->h' id=σ.h id)->ARX c ((y.mk1 D).at X') gen k .normal ⟨σ.tm,h'⟩)
  (aP4:∀ D id X' h',y.bd<=D->YOk c (y.mk1 D)->Jx id X' h'->(∀ id,¬ S id->σ.h id≠none->h' id=σ.h id)->ARX c ((y.mk1 D).at X') gen k (ao1 id) ⟨σ.tm,h'⟩) :
  ARX c (y.at X0) gen (.code (.rangeFunc (.tmp f) ps.toArray assign body)::k) .normal σ:=by
 intro g a w hx hX r0;obtain ⟨hX,hL⟩:=hX;have r:M1 c.env c.n g w a σ:=by
  have:T6 [] c.env c.n g w a σ:=by rw [<- hds];exact r0
  exact this.st
 obtain ⟨gf,lb,hev,⟨fn0,hc1,hc2,hc3⟩,hgo⟩:=hit g w _ (r.tm f)
 have dd6 : ¬ (fn0.name = "runtime.NumGoroutine") := by simpa using hc3
 have dd5:fn0.body≠none:=by intro e;simp [e] at hc2
 have bE6:a.defers=[]:=r.defers;have bb4:∀ b,w.heap.size<=b->g.lim b=0:=r.rel.B3;show (Code.rangeFunc (.tmp f) ps.toArray assign body).wpIn y.F 0 c.P (Z2 c.P y.F y.E k) a w;refine wpIn_rangeFunc ?_;intro fn hfn;obtain ⟨D,hD⟩:∃ D,w.heap.size=D:=⟨_,rfl⟩;obtain ⟨rec,ae8⟩:∃ rec:LoopState->Option Code->Loop,rec=fun st pe=>{ state:=st,pending:=pe,fn,tmps:=a.tmps,params:=ps.toArray,assign,body,defers:=D }:=⟨_,rfl⟩;obtain ⟨W1,hW1⟩:∃ W1,(w.alloc (.deferred (some []))).alloc (.loop (rec .ready none))=W1:=⟨_,rfl⟩;have hbD:y.bd<=D:=by rw [<- hD];exact hy.size g w hL
 have hcD:c.w0.heap.size<=D:=by rw [<- hD];exact hx.size
 have hdW:W1.heap[D]? = some (.deferred (some [])):=by
  rw [<- hW1];refine (bd8 _ _ _ (by simp;omega)).trans ?_;rw [<- hD];exact World.alloc_heap_new w _
 have hlW:W1.heap[D+1]? = some (.loop (rec .ready none)):=by
  rw [<- hW1];have:=World.alloc_heap_new (w.alloc (.deferred (some []))) (.loop (rec .ready none));rwa [bC2,hD] at this
 have tW:L8 w.heap.size w W1:=by
  rw [<- hW1];have t1:L8 w.heap.size w (w.alloc (.deferred (some []))):=ac1 (w7 _);have t2:L8 w.heap.size (w.alloc (.deferred (some []))) ((w.alloc (.deferred (some []))).alloc (.loop (rec .ready none))):=ac1 b_;exact ⟨S1 t1.size t2.size,t2.os.trans t1.os,t2.tape.trans t1.tape,t2.output.trans t1.output,fun b hb=>(t2.same b hb).trans (t1.same b hb),
   fun b o hb=>(t2.cell b o (by simp;omega)).trans (t1.cell b o hb),fun b vs ty h=>t2.aU5 _ _ _ (t1.aU5 _ _ _ h),fun b es cl h=>t2.keepM _ _ _ (t1.keepM _ _ _ h)⟩
 have core:=bJ5 hy hps hvv S hS J Jx hJX bw7 hJh cM0 S9 au3 hx hX hL r h0 hgo tW hlW a_ ⟨fn,D,ae8⟩;refine ⟨D+1,[bc2 D],W1,{ target:=.fn (.func gf) lb,args:=#[.func (.yield (D+1)) #[] #[]] },W1,gf,
  #[.func (.yield (D+1)) #[] #[]]++lb,W1,?_,?_,fun _ _=>hy.fn _,?_,?_,?_⟩
 ·rw [<- hW1,ae8,<- hD,hF];exact run_enterLoop_outer _ _ _ _ _
 ·have he:a.eval (.tmp f)=.func (.func gf) #[] lb:=hev
  simp only [resolve,he];simp [go_sem,Deferred.ofValue,Act.eval]
 ·simp [invoke,callFunc,hc1,dd5,dd6]
 ·intro h;rw [hy.dp] at h;simp at h
 ·refine hy.ci (n:=0) (core.mono ?_)
  rintro e W2 ⟨⟨v,rfl⟩,gi,hi,X',e1,e2,e3,e4,q,hs,hob,aD0⟩;have hdf:W2.heap[D]? = some (.deferred (some [])):=hob D _ (by rintro (h|h);omega;have:=hy.lo D h;omega) hdW rfl;have tail:∀ rr:Loop,W2.heap[D+1]? = some (.loop rr)->rr.state≠.busy->XSt y.bd X' ->
    ∃ g5 w5,(Instr.endLoop (D+1)).run c.P W2=.ok rr.pending w5/\Ext c.g0 c.w0 g5 w5/\((y.mk1 D).at X').X g5 w5/\T6 [bc2 D] c.env c.n g5 w5 { a with defers:=[bc2 D]++a.defers } ⟨σ.tm,hi⟩:=by
   intro rr hlp hst hXS;have t5:L8 (D+1) W2 (W2.putObj (D+1) (.loop { rr with state:=.exhausted })):=ac2 (w7 _) hlp rfl rfl;have d5:(W2.putObj (D+1) (.loop { rr with state:=.exhausted })).heap[D]? = some (.deferred (some [])):=(World.putObj_heap_other a_).trans hdf;refine ⟨_,_,run_endLoop hlp hst,(t5.ext a_ S9 e3).trans I5,⟨hXS.ext _ _ _ _ I5 (hXS.turn _ _ _ _ a_ t5 q.B3 e1),hy.ext _ _ _ _ I5 (hy.turn _ _ _ _ a_ t5 q.B3 e2),d5,(ai6 (Ext.refl _ _) d5 rfl).2⟩,
    ⟨⟨(t5.rel q).dn,fun t'=>((r.tm t').wrs _).mono ((t5.bE1 bb4 e4).trans I5),r.size,rfl⟩,by simp [bE6]⟩⟩
  rcases aD0 with ⟨hJ,hlp⟩|⟨id,hJ,hlp⟩
  ·obtain ⟨g5,w5,f1,f2,f3,f4⟩:=tail _ hlp (by rw [ae8];simp) (hJX _ _ _ hJ)
   exact ⟨none,w5,by rw [f1,ae8],aP1 D X' hi hbD (df7 hy hbD) hJ hs g5 _ w5 f2 f3 f4⟩
  ·obtain ⟨g5,w5,f1,f2,f3,f4⟩:=tail _ hlp (by rw [ae8];simp) (bw7 _ _ _ hJ)
   refine ⟨some (bm0 id),w5,by rw [f1,ae8],?_⟩;have:=aP4 D id X' hi hbD (df7 hy hbD) hJ hs g5 _ w5 f2 f3 f4;cases id with
   | some id=>exact wpIn_exit this
   | none=>exact wpIn_ret this
theorem bF3 {l0:Nat} (hF:y.F.round=some l0) (hl0:∀ g w,y.L g w->∃ r,w.heap[l0]? = some (.loop r)) (hds:y.ds=[])
  (aP1:∀ X' h',J vs.length X' h'->(∀ id,¬ S id->σ.h id≠none->h' id=σ.h id)->ARX c (y.at X') gen k .normal ⟨σ.tm,h'⟩)
  (aP4:∀ id X' h',Jx id X' h'->(∀ id,¬ S id->σ.h id≠none->h' id=σ.h id)->ARX c (y.at X') gen k (ao1 id) ⟨σ.tm,h'⟩) :
  ARX c (y.at X0) gen (.code (.rangeFunc (.tmp f) ps.toArray assign body)::k) .normal σ:=by
 intro g a w hx hX r0;obtain ⟨hX,hL⟩:=hX;have r:M1 c.env c.n g w a σ:=by
  have:T6 [] c.env c.n g w a σ:=by rw [<- hds];exact r0
  exact this.st
 obtain ⟨gf,lb,hev,⟨fn0,hc1,hc2,hc3⟩,hgo⟩:=hit g w _ (r.tm f)
 have dd6 : ¬ (fn0.name = "runtime.NumGoroutine") := by simpa using hc3
 have dd5:fn0.body≠none:=by intro e;simp [e] at hc2
 have bE6:a.defers=[]:=r.defers;have bb4:∀ b,w.heap.size<=b->g.lim b=0:=r.rel.B3;obtain ⟨r1,hr1⟩:=hl0 g w hL;show (Code.rangeFunc (.tmp f) ps.toArray assign body).wpIn y.F 0 c.P (Z2 c.P y.F y.E k) a w;refine wpIn_rangeFunc ?_;intro fn hfn;obtain ⟨D,hD⟩:∃ D,w.heap.size=D:=⟨_,rfl⟩;obtain ⟨rec,ae8⟩:∃ rec:LoopState->Option Code->Loop,rec=fun st pe=>{ state:=st,pending:=pe,fn,tmps:=a.tmps,params:=ps.toArray,assign,body,defers:=r1.defers }:=⟨_,rfl⟩;obtain ⟨W1,hW1⟩:∃ W1,w.alloc (.loop (rec .ready none))=W1:=⟨_,rfl⟩;have hbD:y.bd<=D:=by rw [<- hD];exact hy.size g w hL
 have hcD:c.w0.heap.size<=D:=by rw [<- hD];exact hx.size
 have hlW:W1.heap[D]? = some (.loop (rec .ready none)):=by
  rw [<- hW1,<- hD];exact World.alloc_heap_new w _
 have tW:L8 w.heap.size w W1:=by rw [<- hW1];exact ac1 (w7 _)
 have core:=bJ5 hy hps hvv S hS J Jx hJX bw7 hJh cM0 S9 au3 hx hX hL r h0 hgo tW hlW a_ ⟨fn,r1.defers,ae8⟩;refine ⟨D,[],W1,{ target:=.fn (.func gf) lb,args:=#[.func (.yield D) #[] #[]] },W1,gf,
  #[.func (.yield D) #[] #[]]++lb,W1,?_,?_,fun _ _=>hy.fn _,?_,?_,?_⟩
 ·grind [run_enterLoop_inner]
 ·have he:a.eval (.tmp f)=.func (.func gf) #[] lb:=hev
  simp only [resolve,he];simp [go_sem,Deferred.ofValue,Act.eval]
 ·simp [invoke,callFunc,hc1,dd5,dd6]
 ·intro h;rw [hy.dp] at h;simp at h
 ·refine hy.ci (n:=0) (core.mono ?_)
  rintro e W2 ⟨⟨v,rfl⟩,gi,hi,X',e1,e2,e3,e4,q,hs,hob,aD0⟩;have tail:∀ rr:Loop,W2.heap[D]? = some (.loop rr)->rr.state≠.busy->XSt y.bd X' ->
    ∃ g5 w5,(Instr.endLoop D).run c.P W2=.ok rr.pending w5/\Ext c.g0 c.w0 g5 w5/\(y.at X').X g5 w5/\T6 y.ds c.env c.n g5 w5 { a with defers:=[]++a.defers } ⟨σ.tm,hi⟩:=by
   intro rr hlp hst hXS;have t5:L8 D W2 (W2.putObj D (.loop { rr with state:=.exhausted })):=ac2 (w7 _) hlp rfl rfl;refine ⟨_,_,run_endLoop hlp hst,(t5.ext a_ S9 e3).trans I5,⟨hXS.ext _ _ _ _ I5 (hXS.turn _ _ _ _ a_ t5 q.B3 e1),hy.ext _ _ _ _ I5 (hy.turn _ _ _ _ a_ t5 q.B3 e2)⟩,
    ⟨⟨(t5.rel q).dn,fun t'=>((r.tm t').wrs _).mono ((t5.bE1 bb4 e4).trans I5),r.size,rfl⟩,by simp [bE6,hds]⟩⟩
  rcases aD0 with ⟨hJ,hlp⟩|⟨id,hJ,hlp⟩
  ·obtain ⟨g5,w5,f1,f2,f3,f4⟩:=tail _ hlp (by rw [ae8];simp) (hJX _ _ _ hJ)
   exact ⟨none,w5,by rw [f1,ae8],aP1 X' hi hJ hs g5 _ w5 f2 f3 f4⟩
  ·obtain ⟨g5,w5,f1,f2,f3,f4⟩:=tail _ hlp (by rw [ae8];simp) (bw7 _ _ _ hJ)
   refine ⟨some (bm0 id),w5,by rw [f1,ae8],?_⟩;have:=aP4 id X' hi hJ hs g5 _ w5 f2 f3 f4;cases id with
   | some id=>exact wpIn_exit this
   | none=>exact wpIn_ret this
end
variable {P:Program} {o:Oper} {c0:Call} {xf:Operand} {a:Act} {w:World}
theorem cw2 {F:Fence} (hF:∀ f,F.fn f) (hdp:F.depth=none) (ri:∀ {n l f tmps a b w R},RoundIn Fence.wide n P l f tmps a b w R->RoundIn F n P l f tmps a b w R) (hop:o.op=.call c0) (aP0:c0.callee=.value xf)
  {l:Nat} (hev:a.eval xf=.func (.yield l) #[] #[]) {R:Ending->World->Prop} (hy:YieldAt Fence.wide (0 - 1) P l (c0.args.map a.eval) w R) {next:Act->World->Prop} {Q:Exit->Act->World->Prop}
  (h:∀ e w',R e w'->∃ v,e=.returned v/\next (a.put o.dst v) w'):o.wpIn F 0 P a w next Q:=by
 have hnd:∀ c,o.op≠.defer c:=by intro c hc;rw [hop] at hc;cases hc
 refine ⟨fun f _=>hF f,?_⟩;rw [Oper.semAt_plain F _ _ hnd];obtain ⟨fn,tmps,assign,body,F5,hR⟩:=hy;have hr:(execOp a.eval o).run P w=.ok (.round l fn tmps assign body) w:=by
  simp [execOp,hop,resolve,aP0,hev,Deferred.ofValue,invoke,F5]
 simp only [hr,Oper.uponIn_round];refine ⟨fun h=>by rw [hdp] at h;simp at h,(ri hR).mono ?_⟩
 grind
theorem du2 {F:Fence} (hF:∀ f,F.fn f) (hdp:F.depth=none) (ci:∀ {n k args w R},CallsIn Fence.wide n P k args w R->CallsIn F n P k args w R) (hop:o.op=.call c0) (aP0:c0.callee=.value xf)
  {kf:Nat} {fs cs:Array Value} (hev:a.eval xf=.func (.func kf) fs cs) (hk:ac4 P kf) {R:Ending->World->Prop} (hy:CallsIn Fence.wide (0 - 1) P kf (fs++c0.args.map a.eval++cs) w R) {next:Act->World->Prop} {Q:Exit->Act->World->Prop}
  (h:∀ e w',R e w'->∃ v,e=.returned v/\next (a.put o.dst v) w'):o.wpIn F 0 P a w next Q:=by
 have hnd:∀ c,o.op≠.defer c:=by intro c hc;rw [hop] at hc;cases hc
 refine ⟨fun f _=>hF f,?_⟩;rw [Oper.semAt_plain F _ _ hnd];obtain ⟨fn,f1,f2,f3⟩:=hk
 have f3' : ¬ (fn.name = "runtime.NumGoroutine") := by simpa using f3
 have f2':fn.body≠none:=by intro e;simp [e] at f2
 have hr:(execOp a.eval o).run P w=.ok (.enter kf (fs++c0.args.map a.eval++cs)) w:=by
  simp [execOp,hop,resolve,aP0,hev,Deferred.ofValue,invoke,callFunc,f1,f3',f2']
 simp only [hr,Oper.uponIn_enter];refine ⟨fun h=>by rw [hdp] at h;simp at h,(ci hy).mono ?_⟩
 grind
theorem bl1 {F:Fence} (hF:∀ f,F.fn f) (hdp:F.depth=none) {m:Nat} {ds:List Deferred} {P:Program} (hcl:∀ k args w R,Calls P k args w R->CallsIn F (m - 1) P k args w R)
  {env:Nat->Option (List V)} {ops:Array Oper} {gen reg n:Nat} (hn:aL1 n ops=true) (l2:List Nat):∀ (l:List (Nat × Option Eff)) {σ σe:St} (h:as0 P env ops gen reg l σ σe) {g:G} {w:World} {a:Act} (r:T6 ds env n g w a σ)
  {Q:Exit->Act->World->Prop} (hk:∀ g' a' w',Ext g w g' w'->T6 ds env n g' w' a' σe->wpOpsIn F m P ops Q l2 a' w'),wpOpsIn F m P ops Q (l.map (·.1)++l2) a w
 | [],_,_,.nil _,g,w,a,r,Q,hk=>hk g a w (Ext.refl g w) r
 | x::l,_,_,.cons _ _ _ σ1 _ hs t,g,w,a,r,Q,hk=>by
  exact aX5 hF hdp hcl hn hs r fun g' a' w' hx r'=>bl1 hF hdp hcl hn l2 l t r' fun g2 a2 w2 hx2 r2=>hk g2 a2 w2 (hx.trans hx2) r2
variable {gen id:Nat} {k:List It} {ops:Array Oper} {σ:St}
theorem cg5 {x:XC} (ok:XOk c.P x) (hd:aL1 c.n ops=true) (j:Nat)
  (h:O1 c.P c.env ops false gen id (ops.toList.drop (j+1)) (j+1) [] (fun σ'=>ARX c x gen k .normal σ') σ) {g:G} (hx:Ext c.g0 c.w0 g w) (hX:x.X g w) (r:T6 x.ds c.env c.n g w a σ) :
  wpOpsIn x.F 0 c.P ops (Z2 c.P x.F x.E k) ((List.range (ops.size - (j+1))).map (j+1+·)) a w:=by
 obtain ⟨l,σe,h1,h2,h3⟩:=as4 (ops.toList.drop (j+1)) (j+1) [] σ (fun i o h=>by grind) h;have e:l.map (·.1)=(List.range (ops.size - (j+1))).map (j+1+·):=by rw [h1];simp
 rw [<- e];exact aN9 ok.fn ok.dp ok.cl hd l h2 r (fun g' a' w' hx' r'=>h3 g' a' w' (hx.trans hx') (ok.X _ _ _ _ hx' hX) r')
theorem bF4 {x:XC} (ok:XOk c.P x) (hok:O2 c.n (.region id ops false)=true) (j:Nat) (aE3:ops[j]? = some o) (hg:o.guard=none)
  (h:O1 c.P c.env ops false gen id (ops.toList.take j) 0 [] (fun σ1=>∀ g a w,Ext c.g0 c.w0 g w->x.X g w->T6 x.ds c.env c.n g w a σ1 ->
   o.wpIn x.F 0 c.P a w (fun a' w'=>wpOpsIn x.F 0 c.P ops (Z2 c.P x.F x.E k) ((List.range (ops.size - (j+1))).map (j+1+·)) a' w') (Z2 c.P x.F x.E k)) σ) :
  ARX c x gen (.code (.region id ops false)::k) .normal σ:=by
 intro g a w hx hX r;simp only [O2,A3] at hok;obtain ⟨hd,_⟩:=hok;have hj:j<ops.size:=(Z3.1 aE3).1;obtain ⟨l1,σ1,h1,h2,h3⟩:=as4 (ops.toList.take j) 0 [] σ (fun i o h=>by
  grind) h
 have hl1:l1.map (·.1)=List.range j:=by
  rw [h1,ae6];rw [aZ0 (by grind)];simp
 refine wpIn_region ?_;have bx2:List.range ops.size=List.range j++(j::(List.range (ops.size - (j+1))).map (j+1+·)):=by
  apply List.ext_getElem?;intro i;by_cases hi:i<j
  ·rw [aA2 (by simpa using hi),bC6 a_,bC6 hi]
  ·rw [aA1 (by simpa using hi)]
   simp only [bC1];rcases Nat.eq_or_lt_of_le (bC3 hi) with e|hlt
   ·subst e;simp [hj]
   ·obtain ⟨m,rfl⟩:∃ m,i=j+1+m:=⟨i - (j+1),a_⟩
    rw [show j+1+m - j=m+1 by omega,bN2];by_cases hm:m<ops.size - (j+1)
    all_goals grind [List.getElem?_range]
 rw [bx2,<- hl1];refine bl1 ok.fn ok.dp ok.cl hd _ l1 h2 r fun g' a' w' hx' r'=>?_;rw [wpOpsIn_cons];unfold wpOpIn;rw [aE3];have hw:Region.wanted o (yielded ops a'.tmps)=true:=by unfold Region.wanted;rw [hg]
 simp only [hw,p7];exact h3 g' a' w' (hx.trans hx') (ok.X _ _ _ _ hx' hX) r'
variable {C:Cons} {vs:List (List V)}
theorem ao6.xY {env:Nat->Option (List V)} (h:ao6 P env C vs) {bd:Nat} (hb:C.bd<=bd) (i:Nat) (hs:H):XSt bd (fun g w=>C.Y i g w hs) :=
 ⟨fun g w g' w' x=>h.Yext i g w g' w' hs x,fun g W W' B hB t hz=>h.Yt i g W W' hs B (S1 hb hB) t hz⟩
theorem ao6.xZ {env:Nat->Option (List V)} (h:ao6 P env C vs) {bd:Nat} (hb:C.bd<=bd) (hs:H):XSt bd (fun g w=>C.Z g w hs) :=
 ⟨fun g w g' w' x=>h.Zext g w g' w' hs x,fun g W W' B hB t hz=>h.Zt g W W' hs B (S1 hb hB) t hz⟩
def cT3 (c:Ctx) (y:YC) (C:Cons) (gen:Nat) (k:List It) (id:Nat) (ops:Array Oper) (j d i:Nat) (σ1:St):Prop :=
 ∀ h',(∀ id,¬ C.S id->σ1.h id≠none->h' id=σ1.h id) ->
  O1 c.P c.env ops false gen id (ops.toList.drop (j+1)) (j+1) [] (fun σ'=>ARX c (y.at (fun g w=>C.Y (i+1) g w h')) gen k .normal σ') ⟨upd σ1.tm (some d) (.bool true),h'⟩ /\
  O1 c.P c.env ops false gen id (ops.toList.drop (j+1)) (j+1) [] (fun σ'=>ARX c (y.at (fun g w=>C.Z g w h')) gen k .normal σ') ⟨upd σ1.tm (some d) (.bool false),h'⟩
section
variable {c:Ctx} {y:YC} (hy:YOk c y) (M4:∀ b,c.g0.wr b=true) {C:Cons} {vs:List (List V)} (hC:ao6 c.P c.env C vs) (hLo:∀ b,C.L b->y.Lo b) (hbd:C.bd<=y.bd)
include hy M4 hC hLo hbd
variable {d i:Nat}
theorem bB5 {j:Nat} {σ1:St} (hd:aL1 c.n ops=true) (hdn:d<c.n) (hN:cT3 c y C gen k id ops j d i σ1) {g:G} (hx:Ext c.g0 c.w0 g w) (hL:y.L g w) (r:T6 y.ds c.env c.n g w a σ1)
  {e:Ending} {W':World} {g':G} {h':H} (hA:aA7 C g w σ1.h g' W' h') (q:Rel c.env g' W' h') (he:(e=.returned (.bool true)/\C.Y (i+1) g' W' h')\/(e=.returned (.bool false)/\C.Z g' W' h')) :
  ∃ v,e=.returned v/\wpOpsIn y.F 0 c.P ops (Z2 c.P y.F y.E k) ((List.range (ops.size - (j+1))).map (j+1+·)) (a.put (some d) v) W':=by
 obtain ⟨x1,x2,x3⟩:=hA;obtain ⟨n1,n2⟩:=hN h' x2;have hx':Ext c.g0 c.w0 (g'.dn W') W':=(ba8 hx M4 x1).trans I5;have hL':y.L (g'.dn W') W':=hy.back _ _ _ _ M4 hL x1 (fun b o hb=>x3 b o (fun h=>hb (hLo b h)));have rf:T6 y.ds c.env c.n g.free w a σ1:=⟨⟨r.1.rel.wrs _ (fun _ _ _ _ _=>rfl),fun t=>(r.1.tm t).wrs _,r.1.size,r.1.defers⟩,r.2⟩;have rp:∀ b:Bool,T6 y.ds c.env c.n (g'.dn W') W' (a.put (some d) (.bool b)) ⟨upd σ1.tm (some d) (.bool b),h'⟩:=fun b =>
  rf.put (x1.trans I5) (by grind) q.dn (.bool b)
 rcases he with ⟨rfl,hY⟩|⟨rfl,hZ⟩
 ·exact ⟨_,rfl,cg5 (hy.x (hC.xY hbd _ _)) hd j n1 hx' ⟨hC.Yext _ _ _ _ _ _ I5 hY,hL'⟩ (rp true)⟩
 ·exact ⟨_,rfl,cg5 (hy.x (hC.xZ hbd _)) hd j n2 hx' ⟨hC.Zext _ _ _ _ _ I5 hZ,hL'⟩ (rp false)⟩
theorem ao4 {hs:H} {vv:List V} (hv:vs[i]? = some vv) (hok:O2 c.n (.region id ops false)=true) (j:Nat) (aE3:ops[j]? = some o) (hg:o.guard=none)
  (bh1:o.dst=some d) (hop:o.op=.call c0) (aP0:c0.callee=.value xf)
  (h:O1 c.P c.env ops false gen id (ops.toList.take j) 0 [] (fun σ1=>av c.env σ1.tm xf=.fn (.yield C.l) [] []/\B1 (c0.args.toList.map (av c.env σ1.tm))=vv/\(∀ id,C.base id->σ1.h id=hs id)/\cT3 c y C gen k id ops j d i σ1) σ) :
  ARX c (y.at (fun g w=>C.Y i g w hs)) gen (.code (.region id ops false)::k) .normal σ:=by
 refine bF4 (hy.x (hC.xY hbd i hs)) hok j aE3 hg ?_;refine ap1 (fun σ1 hh g a w hx hX r=>?_) _ _ _ _ h;obtain ⟨hX,hL⟩:=hX;obtain ⟨e1,e2,e3,hN⟩:=hh;simp only [O2,A3] at hok;have hdn:d<c.n:=as6 hok.1 aE3 d bh1;have hfx:=r.av xf;rw [e1] at hfx;have hev:a.eval xf=.func (.yield C.l) #[] #[]:=by
  generalize a.eval xf=v at hfx;cases hfx with
  | fn _ fs cs _ _ l1 l2 _ _ =>
   grind
 have hB:RVL g w (c0.args.map a.eval) (c0.args.toList.map (av c.env σ1.tm)):=bd4 (fun x=>r.av x) c0.args;have hB2:=hB.J5;rw [e2] at hB2;have hY:C.Y i g w σ1.h:=hC.Yh _ _ _ _ _ e3 hX;have hrd:=hC.round i vv (c0.args.map a.eval).toList g w σ1.h hv hY r.1.rel (by have:=hB2.1;simpa using this) (fun j x v hx hv=>hB2.2 j x v (by simpa using hx) hv);refine cw2 (F:=y.F) hy.fn hy.dp hy.ri hop aP0 hev hrd ?_;rintro e W' ⟨g',h',hA,q,he⟩;rw [bh1];exact bB5 hy M4 hC hLo hbd hok.1 hdn hN hx hL r hA q he
end
def dG9 (P:Program) (env:Nat->Option (List V)) (C:Cons) (vs:List (List V)) (kf:Nat) (as vv:List V) (pre:H->Prop):Prop :=
 ac4 P kf/\∀ i g W h xs,vs[i]? = some vv->C.Y i g W h->Rel env g W h->(∀ b,C.L b->b<W.heap.size)->pre h->RVL g W xs as ->
  CallsIn Fence.wide 0 P kf xs W fun e W'=>∃ g' h',aA7 C g W h g' W' h'/\Rel env g' W' h'/\((e=.returned (.bool true)/\C.Y (i+1) g' W' h')\/(e=.returned (.bool false)/\C.Z g' W' h'))
section
variable {c:Ctx} {y:YC} (hy:YOk c y) (M4:∀ b,c.g0.wr b=true) {C:Cons} {vs:List (List V)} (hC:ao6 c.P c.env C vs) (hLo:∀ b,C.L b->y.Lo b) (hbd:C.bd<=y.bd)
include hy M4 hC hLo hbd
theorem be5 {i:Nat} {hs:H} {vv as:List V} {kf:Nat} {pre:H->Prop} (hK:dG9 c.P c.env C vs kf as vv pre) (hv:vs[i]? = some vv) (hok:O2 c.n (.region id ops false)=true) (j:Nat) {d:Nat}
  (aE3:ops[j]? = some o) (hg:o.guard=none) (bh1:o.dst=some d) (hop:o.op=.call c0) (aP0:c0.callee=.value xf)
  (h:O1 c.P c.env ops false gen id (ops.toList.take j) 0 [] (fun σ1=>∃ first captured,av c.env σ1.tm xf=.fn (.func kf) first captured/\B1 (first++c0.args.toList.map (av c.env σ1.tm)++captured)=as/\pre σ1.h/\(∀ id,C.base id->σ1.h id=hs id)/\cT3 c y C gen k id ops j d i σ1) σ) :
  ARX c (y.at (fun g w=>C.Y i g w hs)) gen (.code (.region id ops false)::k) .normal σ:=by
 refine bF4 (hy.x (hC.xY hbd i hs)) hok j aE3 hg ?_;refine ap1 (fun σ1 hh g a w hx hX r=>?_) _ _ _ _ h;obtain ⟨hX,hL⟩:=hX;obtain ⟨first,captured,e1,e2,hp,e3,hN⟩:=hh;simp only [O2,A3] at hok;have hdn:d<c.n:=as6 hok.1 aE3 d bh1;have hfx:=r.av xf;rw [e1] at hfx;have hB:RVL g w (c0.args.map a.eval) (c0.args.toList.map (av c.env σ1.tm)):=bd4 (fun x=>r.av x) c0.args;have app:∀ {x1 x2:Array Value} {y1 y2:List V},RVL g w x1 y1->RVL g w x2 y2->RVL g w (x1++x2) (y1++y2):=by
  intro x1 x2 y1 y2 h1 h2;refine ⟨by simp [h1.1,h2.1],fun i c v hc hv=>?_⟩;by_cases hi:i<y1.length
  ·rw [aL6 (by rw [h1.1];exact hi)] at hc
   rw [aA2 hi] at hv;exact h1.2 i c v hc hv
  ·rw [bU9 (by rw [h1.1];omega),h1.1] at hc
   rw [aA1 a_] at hv;exact h2.2 _ c v hc hv
 obtain ⟨fs,cs,hev,hF⟩:∃ fs cs,a.eval xf=.func (.func kf) fs cs/\RVL g w (fs++c0.args.map a.eval++cs) as:=by
  generalize a.eval xf=v at hfx;cases hfx with
  | fn _ fs cs _ _ l1 l2 r1 r2 =>
   refine ⟨fs,cs,rfl,?_⟩;rw [<- e2];exact (app (app ⟨l1,r1⟩ hB) ⟨l2,r2⟩).J5
 have hY:C.Y i g w σ1.h:=hC.Yh _ _ _ _ _ e3 hX;have bb3:=hK.2 i g w σ1.h _ hv hY r.1.rel (fun b hb=>by have:=hC.lo b hb;have:=hC.Ybd _ _ _ _ hY;omega) hp hF;refine du2 (F:=y.F) hy.fn hy.dp hy.ci hop aP0 hev hK.1 bb3 ?_;rintro e W' ⟨g',h',hA,q,he⟩;rw [bh1];exact bB5 hy M4 hC hLo hbd hok.1 hdn hN hx hL r hA q he
end
theorem aM6 {y:YC} {body:Code} (N:Nat) (I:Nat->(G->World->Prop)->St->Prop) {X:G->World->Prop} (h0:I 0 X σ)
  (round:∀ (y':YC) (gn m:Nat) (X:G->World->Prop) (σ:St),y'.F=y.F->y'.ds=y.ds->y'.Lo=y.Lo->y'.bd=y.bd->(YOk c y->YOk c y')->m<=N->I m X σ ->
   (∀ X' σ' gn,m<N->I (m+1) X' σ'->ARX c (y'.at X') gn [] .normal σ')->(∀ X' e σ' gn,(e=.ret\/∃ id,e=.exit id)->ARX c (y.at X') gn k e σ'->ARX c (y'.at X') gn [] e σ') ->
   ARX c (y'.at X) gn [.code body] .normal σ):ARX c (y.at X) gen (.code (.loop body)::k) .normal σ:=by
 have key:∀ (j m:Nat) (X:G->World->Prop) (σ:St),m+j=N->I m X σ->∀ g a w,Ext c.g0 c.w0 g w->(y.at X).X g w->T6 y.ds c.env c.n g w a σ->Code.roundsIn y.F 0 c.P body (Z2 c.P y.F y.E k) (j+1) a w:=by
  intro j
  induction j with
  | zero =>
   intro m X σ hm hI g a w hx hX r;exact round ⟨y.F,y.ds,y.L,Exit.then (Code.roundsIn y.F 0 c.P body (Z2 c.P y.F y.E k) 0) (Z2 c.P y.F y.E k),y.Lo,y.bd⟩ gen m X σ rfl rfl rfl rfl (fun h=>⟨h.fn,h.dp,h.cl,h.ci,h.ri,h.ext,h.turn,h.back,h.size,h.lo⟩) a_ hI
    (fun X' σ' gn hlt _=>absurd hlt a_) (fun X' e σ' gn he h g' a' w' hx' hX' r'=>by rcases he with rfl|⟨id,rfl⟩<;>exact h g' a' w' hx' hX' r') g a w hx hX r
  | succ j ih =>
   intro m X σ hm hI g a w hx hX r;exact round ⟨y.F,y.ds,y.L,Exit.then (Code.roundsIn y.F 0 c.P body (Z2 c.P y.F y.E k) (j+1)) (Z2 c.P y.F y.E k),y.Lo,y.bd⟩ gen m X σ rfl rfl rfl rfl (fun h=>⟨h.fn,h.dp,h.cl,h.ci,h.ri,h.ext,h.turn,h.back,h.size,h.lo⟩) a_ hI
    (fun X' σ' gn hlt hI' g' a' w' hx' hX' r'=>ih (m+1) X' σ' a_ hI' g' a' w' hx' hX' r') (fun X' e σ' gn he h g' a' w' hx' hX' r'=>by rcases he with rfl|⟨id,rfl⟩<;>exact h g' a' w' hx' hX' r') g a w hx hX r
 exact fun g a w hx hX r=>wpIn_loop_rounds (N+1) (key N 0 X σ a_ h0 g a w hx hX r)
def ai2 (env:Nat->Option (List V)) (C:Cons) (n:Nat) (g0:G) (w0:World) (h0:H) (e:Ending) (W':World):Prop :=
 (∃ v,e=.returned v)/\∃ g' h',aA7 C g0 w0 h0 g' W' h'/\Rel env g' W' h'/\(C.Y n g' W' h'\/C.Z g' W' h')
def yI (c:Ctx) (C:Cons) (R:Ending->World->Prop):YC:=⟨Fence.wide,[],fun g w=>KO C.L c.w0 g w/\c.w0.heap.size<=w.heap.size,bodyPostM Fence.wide 0 c.P c.fn R,C.L,c.w0.heap.size⟩
theorem bo2 {R:Ending->World->Prop} (hL:∀ b,C.L b->b<c.w0.heap.size):YOk c (yI c C R) :=
 ⟨fun _=>trivial,rfl,fun k args w R h=>callsIn_wide.2 h,fun h=>h,fun h=>h,fun g w g' w' x ⟨h1,h2⟩=>⟨h1.ext x,S1 h2 x.size⟩,
  fun g W W' B hB t hz ⟨h1,h2⟩=>⟨h1.turn hB t,S1 h2 t.size⟩,fun g w g' w' hf ⟨h1,h2⟩ x ho=>⟨h1.back (fun _ e=>e) ho,S1 h2 x.size⟩,fun g w h=>h.2,hL⟩
theorem ab3 {env : Nat → Option (List V)} {gf : Nat} {fn : Func} {body : Code} {caps : List V} (hf : P.funcs[gf]? = some fn) (hb : fn.body = some body) (ai1 : (fn.name == "runtime.NumGoroutine") = false)
  (walk:∀ (C:Cons) (g0:G) (w0:World) (h:H) (gen:Nat),ao6 P env C vs->(∀ id,C.base id->h id≠none)->(∀ id,h id≠none->id.gen<gen)->(∀ b,g0.wr b=true)->(∀ b,w0.heap.size<=b->g0.lim b=0)->C.bd<=w0.heap.size ->
   ARX ⟨P,env,fn.ntmps,fn,g0,w0,h,.undef,h⟩ ((yI ⟨P,env,fn.ntmps,fn,g0,w0,h,.undef,h⟩ C (ai2 env C vs.length g0 w0 h)).at (fun g w=>C.Y 0 g w h)) gen [.code body] .normal ⟨aj8 (.fn (.yield C.l) [] []::caps),h⟩) :
  Iter P env (.fn (.func gf) [] caps) vs:=by
 intro g w x hx;cases hx with
 | fn _ fs cs _ _ l1 l2 _ r2 =>
 have e1:fs=#[]:=by simpa using l1
 subst e1;refine ⟨gf,cs,rfl,⟨fn,hf,by rw [hb];rfl,ai1⟩,fun C hC g1 W1 h1 x1 q1 hY O4=>?_⟩;have hbd:=hC.Ybd _ _ _ _ hY;refine (callsIn_of_wp_marks (n:=0) (R:=ai2 env C vs.length g1.free W1 h1) hf hb trivial ?_).mono (fun e W' ⟨hv,g',h',⟨a1,a2,a3⟩,q,r⟩=>⟨hv,g',h',⟨a1,a2,a3⟩,q,r⟩);have hcs:RVL (g1.dn W1) W1 (#[.func (.yield C.l) #[] #[]]++cs) (.fn (.yield C.l) [] []::caps):=by
  refine ⟨by simp [l2];omega,fun i c v hc hv=>?_⟩
  match i with
  | 0 =>
   rw [aL6 b_] at hc;simp at hc hv;subst hc;subst hv;exact .fn _ _ _ _ _ b_ b_ b_ b_
  | i+1 =>
   rw [bU9 b_] at hc;exact ((r2 i c v (by simpa using hc) (by simpa using hv)).mono x1).mono I5
 have hst:M1 env fn.ntmps (g1.dn W1) W1 { tmps:=(#[Value.func (.yield C.l) #[] #[]]++cs)++Array.replicate (fn.ntmps - (#[Value.func (.yield C.l) #[] #[]]++cs).size) undef,defers:=[] } ⟨aj8 (.fn (.yield C.l) [] []::caps),h1⟩:=by
  generalize (#[Value.func (.yield C.l) #[] #[]]++cs:Array Value)=xs at hcs ⊢;generalize (V.fn (.yield C.l) [] []::caps)=args at hcs ⊢;refine ⟨q1.dn,fun t=>?_,by simp;omega,rfl⟩;simp only [aj8];cases ha:args[t]? with
  | none=>exact .undef _
  | some v =>
   obtain ⟨c0,h1,h2⟩:=hcs.at ha;have hlt:t<xs.size:=(Z3.1 h1).1;have:(xs++Array.replicate (fn.ntmps - xs.size) undef).getD t undef=c0:=by
    simp [aL6 hlt,h1]
   rw [this];exact h2
 have:=walk C g1.free W1 h1 g1.top hC O4 (fun id hid=>q1.top id hid) (fun _=>rfl) q1.B3 hbd (g1.dn W1) _ W1 (as7 I5) ⟨hC.Yext _ _ _ _ _ _ I5 hY,KO.here,w7 _⟩ (T6.of hst);refine aA0 (show body.wpIn _ _ _ _ _ _ from this) ?_;intro e a' w' hp;cases e<;>exact hp
variable {e:Exit}
theorem al1 {vs:List (List V)} {n:Nat} {X:G->World->Prop} (he:e=.ret\/e=.normal) (n8:c.fn.results=#[]) (M4:∀ b,c.g0.wr b=true) (hX:∀ g w,X g w->C.Y n g w σ.h\/C.Z g w σ.h) (hs:∀ id,¬ C.S id->c.h0 id≠none->σ.h id=c.h0 id) :
  ARX c ((yI c C (ai2 c.env C n c.g0 c.w0 c.h0)).at X) gen [] e σ:=by
 have key:∀ g a w,Ext c.g0 c.w0 g w->((yI c C (ai2 c.env C n c.g0 c.w0 c.h0)).at X).X g w->T6 [] c.env c.n g w a σ->LeavesInM Fence.wide 0 c.P c.fn a.tmps (ai2 c.env C n c.g0 c.w0 c.h0) a.defers .returning w:=by
  intro g a w hx ⟨h1,h2,h3⟩ r;rw [r.2];exact ⟨_,aL9 n8 _ _ _,⟨_,rfl⟩,g,σ.h,⟨as7 hx,hs,fun b o hb ho hc=>(h2 b o hb ho hc).1⟩,r.1.rel,hX g w h1⟩
 rcases he with rfl|rfl
 ·exact fun g a w hx h r=>key g a w hx h r
 ·exact fun g a w hx h r=>key g a w hx h r
theorem ao3 (hC:ao6 c.P c.env C vs) {n D:Nat} {X:G->World->Prop} (he:e=.ret\/e=.normal) (n8:c.fn.results=#[]) (M4:∀ b,c.g0.wr b=true) (S9:∀ b,c.w0.heap.size<=b->c.g0.lim b=0) (hbd:C.bd<=c.w0.heap.size)
  (hD:c.w0.heap.size<=D) (hX:∀ g w,X g w->C.Y n g w σ.h\/C.Z g w σ.h) (hs:∀ id,¬ C.S id->c.h0 id≠none->σ.h id=c.h0 id) :
  ARX c (((yI c C (ai2 c.env C n c.g0 c.w0 c.h0)).mk1 D).at X) gen [] e σ:=by
 have key:∀ g a w,Ext c.g0 c.w0 g w->(((yI c C (ai2 c.env C n c.g0 c.w0 c.h0)).mk1 D).at X).X g w->T6 [bc2 D] c.env c.n g w a σ->LeavesInM Fence.wide 0 c.P c.fn a.tmps (ai2 c.env C n c.g0 c.w0 c.h0) a.defers .returning w:=by
  intro g a w hx ⟨h1,⟨h2,h3⟩,h4,h5⟩ r;rw [r.2];have t:L8 D w (w.putObj D (.deferred none)):=ac2 (w7 _) h4 rfl rfl;refine ⟨b_,.inl ⟨D,_,rfl,run_takeDeferred h4,?_⟩⟩;refine ⟨_,aL9 n8 _ _ _,⟨_,rfl⟩,g.up D,σ.h,⟨t.bE1 S9 (as7 hx),hs,fun b o hb ho hc=>((h2.turn hD t) b o hb ho hc).1⟩,t.rel r.1.rel,?_⟩;rcases hX g w h1 with h|h
  ·exact .inl (hC.Yt _ _ _ _ _ _ a_ t r.1.rel.B3 h)
  ·exact .inr (hC.Zt _ _ _ _ _ a_ t r.1.rel.B3 h)
 rcases he with rfl|rfl
 ·exact fun g a w hx h r=>key g a w hx h r
 ·exact fun g a w hx h r=>key g a w hx h r
def FzP (id:Id) (cs:List V) (v v':V):Prop:=v'=.undef\/v'=v\/∃ off,v=.ptr id off/\v'=.el cs off
theorem N3 (id:Id) (L:List (Nat × V)) (B:List (Id × List V × List V)) {cs:List V} {h':H} {tm':Nat->V}
  (hh':h'=B.foldr (fun b h=>p8 h b.1 (.box b.2.2)) c.h0) (bS1:tm'=L.foldr (fun p tm=>upd tm (some p.1) p.2) (fun _=>.undef))
  (R6:Rel c.env c.g0 c.w0 c.h0) (hb:σ.h id=some (.box cs)) 
  (h0:c.h0 id=none) (cM6:∀ b∈B,b.1≠id) (hag:m8 c.h0 σ.h)
  (cd2:InL (fun j=>h' j≠none) cs)
  (hB:∀ b∈B,c.h0 b.1=none/\σ.h b.1=some (.box b.2.1)/\b.2.1.length=b.2.2.length/\(∀ p∈b.2.1.zip b.2.2,FzP id cs p.1 p.2)/\InL (fun j=>h' j≠none) b.2.2)
  (hL:∀ p∈L,FzP id cs (σ.tm p.1) p.2/\InV (fun j=>h' j≠none) p.2)
  (h:AR c gen k e ⟨tm',h'⟩):AR c gen k e σ:=by
 refine aW8 (R:=fun v v'=>∃ off,v=.ptr id off/\v'=.el cs off) id cs.length L B (fun {g g' w cv v v'} q eg hl hS h1 h2 h3=>?_) hh' bS1 R6 hb (w7 _) h0 cM6 (fun _ h=>h) (fun j hj=>.inl ⟨(hag j hj).symm,fun _ h=>h⟩) (fun b hb=>(hB b hb).2) hL h;obtain ⟨off,rfl,rfl⟩:=h2;obtain ⟨vs,⟨ty,b1⟩,b2,b3,b4,b5⟩:=q.box id cs hb;have hmv:∀ {c:Value} {v:V},RV g w c v->InV (fun j=>h' j≠none) v->RV g' w c v:=fun h1 h2=>h1.freeze hl (fun _=>by rw [eg]) hS h2;cases h1;have:RV g' w (.pointer (some ⟨g.loc id,0+off,none⟩)) (.el cs off):=by
  refine .el _ 0 cs off (fun i=>vs[i]?.getD undef) ?_ (fun i hi=>?_) (fun i v hv=>?_)
  ·rw [eg];simp
  ·have:i<vs.size:=by omega
   simp [World.cell?,b1,this]
  ·obtain ⟨c0,hc1,hc2⟩:=(show bW6 g w vs cs from ⟨b2,b3⟩).at hv
   simp only [hc1,aa7];exact hmv hc2 (M7 cd2 hv)
 grind
mutual
def pUp (b:Int):Tm->Int->Tm
 | .mk k i t l,c=>.mk k (if k==1&&decide (i>=c) then i+b else i) t (ea5 b l (c+m9 k))
def ea5 (b:Int):List Tm->Int->List Tm
 | [],_=>[]
 | t::l,c=>pUp b t c::ea5 b l c
end
mutual
def pIn (s:Tm):Tm->Int->Tm
 | .mk k i t l,e=>if k==1 then (if i==e then pUp e s 0 else if decide (i>e) then a9 (i - 1) else .mk k i t l)
  else .mk k i t (ea4 s l (e+m9 k))
def ea4 (s:Tm):List Tm->Int->List Tm
 | [],_=>[]
 | t::l,e=>pIn s t e::ea4 s l e
end
end GoAbs
