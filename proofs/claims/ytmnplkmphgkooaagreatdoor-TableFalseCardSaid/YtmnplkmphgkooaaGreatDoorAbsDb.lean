/-
 The abstract layer: plain laws, further ones.
-/
import Derived.Test.YtmnplkmphgkooaaGreatDoorAbsD
import Derived.Test.YtmnplkmphgkooaaGreatDoorAbsC
import Derived.Test.YtmnplkmphgkooaaGreatDoorAbsB
import Derived.RangeFuncNested
import Derived.RangeFuncLeaves
import Derived.RangeFuncCalls
import Derived.OrdersIn
import Derived.OwnWalkIn
import Derived.RangeFuncBox
set_option linter.unusedSimpArgs false
set_option linter.unusedVariables false
set_option linter.unusedSectionVars false
namespace GoAbs
open Go
theorem fleast_parts2 {k M:Int} {a b:Fm} (h:(fmTwo k a b).least M=true):a.least M=true∧b.least M=true:=by
 rw [fmTwo,Fm.least] at h;simpa [Tm.leastL_nil,Fm.leastL_cons,Fm.leastL_nil] using h
theorem fleast_part {k M:Int} {s:Ty} {a:Fm} (h:(fmQ k s a).least M=true):a.least M=true:=by
 rw [fmQ,Fm.least] at h;simpa [Tm.leastL_nil,Fm.leastL_cons,Fm.leastL_nil] using h
theorem fleast_eq {M:Int} {x y:Tm}:(fmEq x y).least M=true↔x.least M=true∧y.least M=true:=by
 rw [fmEq,Fm.least];simp [Tm.leastL_nil,Tm.leastL_cons,Fm.leastL_nil]
inductive ResW (B:Nat):Res→Prop
 | mk (n:Nat) (l:List Nat) (p:List Res) (b:Tm) (e:List Res) (hn:n≤B) (hl:∀ x∈l,x≤B) (hll:l.length≤B)
   (hp:∀ x∈p,ResW B x) (hb:TmW b) (hel:e.length≤B) (he:∀ x∈e,ResW B x):ResW B (.mk n l p b e)
theorem ResW.up {B B':Nat} (hB:B≤B') {r:Res} (h:ResW B r):ResW B' r:=by
 induction h with
 | mk n l p b e h2 h3 h4 _ h6 h7 _ i1 i2=>exact .mk n l p b e (by omega) (fun x hx=>by have:=h3 x hx;omega) (by omega) i1 h6 (by omega) i2
section
variable {B:Nat} {r:Res}
theorem ResW.n1 (h:ResW B r):r.num≤B:=by cases h;assumption
theorem ResW.ls (h:ResW B r):∀ x∈r.list,x≤B:=by cases h;assumption
theorem ResW.ll (h:ResW B r):r.list.length≤B:=by cases h;assumption
theorem ResW.ps (h:ResW B r):∀ x∈r.pair,ResW B x:=by cases h;assumption
theorem ResW.bd (h:ResW B r):TmW r.body:=by cases h;assumption
theorem ResW.el (h:ResW B r):r.env.length≤B:=by cases h;assumption
theorem ResW.es (h:ResW B r):∀ x∈r.env,ResW B x:=by cases h;assumption
end
theorem ResW.num {B:Nat} {n:Nat} (h:n≤B):ResW B (numR n):=.mk _ _ _ _ _ h (by simp) (by simp) (by simp) zeroT_W (by simp) (by simp)
theorem ResW.zero {B:Nat}:ResW B zeroR:=ResW.num (by omega)
theorem ResW.list {B:Nat} {l:List Nat} (h:∀ x∈l,x≤B) (hl:l.length≤B):ResW B (listR l):=.mk _ _ _ _ _ (by omega) h hl (by simp) zeroT_W (by simp) (by simp)
theorem ResW.pair {B:Nat} {l:List Res} (h:∀ x∈l,ResW B x):ResW B (pairR l):=.mk _ _ _ _ _ (by omega) (by simp) (by simp) h zeroT_W (by simp) (by simp)
theorem ResW.clo {B:Nat} {b:Tm} {e:List Res} (hb:TmW b) (hl:e.length≤B) (h:∀ x∈e,ResW B x):ResW B (cloR b e):=.mk _ _ _ _ _ (by omega) (by simp) (by simp) (by simp) hb hl h
def EvW (K most:Nat) (E:Evl):Prop:=∀ c u t e r u' o,E u t e=some (r,u',o)→c≤u→u≤most→TmW t→e.length≤u+K - c→(∀ x∈e,ResW (u+K - c) x) →
 u≤u'∧u'≤most∧(o=false→u<u'∧ResW (u'+K - c - 1) r)
section
variable {K most:Nat} {E:Evl} (hE:EvW K most E)
include hE
theorem evCall_W {c u u':Nat} {f a r:Res} {o:Bool} (h:evCall E u f a=some (r,u',o)) (hc:c+1≤u) (hu:u≤most) (hf:ResW (u+K - c - 1) f) (ha:ResW (u+K - c - 1) a) :
  u≤u'∧u'≤most∧(o=false→u<u'∧ResW (u'+K - c - 1) r):=by
 refine hE c u _ _ _ _ _ h (by omega) hu hf.bd (by have:=hf.el;simp;omega) fun x hx=>?_
 rcases List.mem_append.1 hx with hx|hx
 ·exact (hf.es x hx).up (by omega)
 ·simp at hx;subst hx;exact ha.up (by omega)
theorem evArgs_W {c:Nat} {e:List Res}:∀ {l:List Tm} {u u':Nat} {l':List Res} {o:Bool},evArgs E e u l=some (l',u',o)→c≤u→u≤most→(∀ t∈l,TmW t)→e.length≤u+K - c→(∀ x∈e,ResW (u+K - c) x) →
  u≤u'∧u'≤most∧(o=false→(l≠[]→u<u')∧l'.length=l.length∧∀ x∈l',ResW (u'+K - c - 1) x):=by
 intro l
 induction l with
 | nil =>
  intro u u' l' o h hc hu ht hel he
  simp only [evArgs,Option.some.injEq,Prod.mk.injEq] at h
  obtain ⟨rfl,rfl,rfl⟩:=h
  exact ⟨Nat.le_refl _,hu,fun _=>⟨fun h=>(h rfl).elim,rfl,by simp⟩⟩
 | cons t l ih =>
  intro u u' l' o h hc hu ht hel he
  rw [evArgs] at h
  cases h1:E u t e with
  | none=>rw [h1] at h;cases h
  | some p =>
   obtain ⟨r,u1,o1⟩:=p
   obtain ⟨a1,a2,a3⟩:=hE c u t e r u1 o1 h1 hc hu (ht t (by simp)) hel he
   rw [h1] at h
   cases o1 with
   | true =>
    simp only [Option.some.injEq,Prod.mk.injEq] at h
    obtain ⟨rfl,rfl,rfl⟩:=h
    exact ⟨a1,a2,fun h=>by cases h⟩
   | false =>
    obtain ⟨a3,a4⟩:=a3 rfl
    simp only at h
    cases h2:evArgs E e u1 l with
    | none=>rw [h2] at h;cases h
    | some q =>
     obtain ⟨l1,u2,o2⟩:=q
     rw [h2] at h
     simp only [Option.some.injEq,Prod.mk.injEq] at h
     obtain ⟨rfl,rfl,rfl⟩:=h
     obtain ⟨b1,b2,b3⟩:=ih h2 (by omega) a2 (fun x hx=>ht x (by simp [hx])) (by omega) (fun x hx=>(he x hx).up (by omega))
     refine ⟨by omega,b2,fun ho=>?_⟩
     obtain ⟨_,b3,b4⟩:=b3 ho
     refine ⟨fun _=>by omega,by simp [b3],fun x hx=>?_⟩
     rcases List.mem_cons.1 hx with rfl|hx
     ·exact a4.up (by omega)
     ·exact b4 x hx
theorem evRec_W {c:Nat} {s:Res}:∀ {n k u u':Nat} {r r':Res} {o:Bool},evRec E s n k u r=some (r',u',o)→c+1≤u→u≤most→k+n≤u+K - c - 1→ResW (u+K - c - 1) s→ResW (u+K - c - 1) r →
  u≤u'∧u'≤most∧(o=false→ResW (u'+K - c - 1) r'):=by
 intro n
 induction n with
 | zero =>
  intro k u u' r r' o h hc hu hk hs hr
  simp only [evRec,Option.some.injEq,Prod.mk.injEq] at h
  obtain ⟨rfl,rfl,rfl⟩:=h
  exact ⟨Nat.le_refl _,hu,fun _=>hr⟩
 | succ n ih =>
  intro k u u' r r' o h hc hu hk hs hr
  rw [evRec] at h
  cases h1:evCall E u s (numR k) with
  | none=>rw [h1] at h;cases h
  | some p =>
   obtain ⟨f,u1,o1⟩:=p
   obtain ⟨a1,a2,a3⟩:=evCall_W hE h1 hc hu hs (ResW.num (by omega))
   rw [h1] at h
   cases o1 with
   | true =>
    simp only [Option.some.injEq,Prod.mk.injEq] at h
    obtain ⟨rfl,rfl,rfl⟩:=h
    exact ⟨a1,a2,fun h=>by cases h⟩
   | false =>
    obtain ⟨a3,a4⟩:=a3 rfl
    simp only at h
    cases h2:evCall E u1 f r with
    | none=>rw [h2] at h;cases h
    | some q =>
     obtain ⟨r1,u2,o2⟩:=q
     obtain ⟨b1,b2,b3⟩:=evCall_W hE h2 (by omega) a2 a4 (hr.up (by omega))
     rw [h2] at h
     cases o2 with
     | true =>
      simp only [Option.some.injEq,Prod.mk.injEq] at h
      obtain ⟨rfl,rfl,rfl⟩:=h
      exact ⟨by omega,b2,fun h=>by cases h⟩
     | false =>
      obtain ⟨b3,b4⟩:=b3 rfl
      simp only at h
      obtain ⟨c1,c2,c3⟩:=ih h (by omega) b2 (by omega) (hs.up (by omega)) b4
      exact ⟨by omega,c2,c3⟩
theorem evFold_W {c:Nat} {s:Res} {l:List Nat}:∀ {n u u':Nat} {r r':Res} {o:Bool},evFold E s l n u r=some (r',u',o)→c+1≤u→u≤most→n≤l.length→l.length≤u+K - c - 1 →
  (∀ x∈l,x≤u+K - c - 1)→ResW (u+K - c - 1) s→ResW (u+K - c - 1) r→u≤u'∧u'≤most∧(o=false→ResW (u'+K - c - 1) r'):=by
 intro n
 induction n with
 | zero =>
  intro u u' r r' o h hc hu hk hll hl hs hr
  simp only [evFold,Option.some.injEq,Prod.mk.injEq] at h
  obtain ⟨rfl,rfl,rfl⟩:=h
  exact ⟨Nat.le_refl _,hu,fun _=>hr⟩
 | succ n ih =>
  intro u u' r r' o h hc hu hk hll hl hs hr
  rw [evFold] at h
  have hx:l.getD n 0∈l:=by
   rw [List.getD_eq_getElem?_getD,List.getElem?_eq_getElem (by omega)];exact List.getElem_mem _
  cases h1:evCall E u s (numR (l.getD n 0)) with
  | none=>rw [h1] at h;cases h
  | some p =>
   obtain ⟨f,u1,o1⟩:=p
   obtain ⟨a1,a2,a3⟩:=evCall_W hE h1 hc hu hs (ResW.num (hl _ hx))
   rw [h1] at h
   cases o1 with
   | true =>
    simp only [Option.some.injEq,Prod.mk.injEq] at h
    obtain ⟨rfl,rfl,rfl⟩:=h
    exact ⟨a1,a2,fun h=>by cases h⟩
   | false =>
    obtain ⟨a3,a4⟩:=a3 rfl
    simp only at h
    have hw:ResW (u1+K - c - 1) (listR (l.drop (n+1))):=ResW.list (fun x hx=>by have:=hl x (List.mem_of_mem_drop hx);omega) (by simp;omega)
    cases h2:evCall E u1 f (listR (l.drop (n+1))) with
    | none=>rw [h2] at h;cases h
    | some q =>
     obtain ⟨f2,u2,o2⟩:=q
     obtain ⟨b1,b2,b3⟩:=evCall_W hE h2 (by omega) a2 a4 hw
     rw [h2] at h
     cases o2 with
     | true =>
      simp only [Option.some.injEq,Prod.mk.injEq] at h
      obtain ⟨rfl,rfl,rfl⟩:=h
      exact ⟨by omega,b2,fun h=>by cases h⟩
     | false =>
      obtain ⟨b3,b4⟩:=b3 rfl
      simp only at h
      cases h3:evCall E u2 f2 r with
      | none=>rw [h3] at h;cases h
      | some q =>
       obtain ⟨r3,u3,o3⟩:=q
       obtain ⟨d1,d2,d3⟩:=evCall_W hE h3 (by omega) b2 b4 (hr.up (by omega))
       rw [h3] at h
       cases o3 with
       | true =>
        simp only [Option.some.injEq,Prod.mk.injEq] at h
        obtain ⟨rfl,rfl,rfl⟩:=h
        exact ⟨by omega,d2,fun h=>by cases h⟩
       | false =>
        obtain ⟨d3,d4⟩:=d3 rfl
        simp only at h
        obtain ⟨c1,c2,c3⟩:=ih h (by omega) d2 (by omega) (by omega) (fun x hx=>by have:=hl x hx;omega) (hs.up (by omega)) d4
        exact ⟨by omega,c2,c3⟩
theorem evOf_W (hm:most≤1000000) {c:Nat} {k:Int} {u u':Nat} {l:List Res} {r:Res} {o:Bool} (h:evOf E k u l=some (r,u',o)) (hc:c+1≤u) (hu:u≤most)
  (hl:∀ x∈l,ResW (u+K - c - 2) x) (h2:l≠[]→c+2≤u):u≤u'∧u'≤most∧(o=false→ResW (u'+K - c - 1) r):=by
 unfold evOf at h
 split at h
 ·split at h
  ·rename_i f a
   have:=h2 (by simp)
   obtain ⟨a1,a2,a3⟩:=evCall_W hE h hc hu ((hl f (by simp)).up (by omega)) ((hl a (by simp)).up (by omega))
   exact ⟨a1,a2,fun ho=>(a3 ho).2⟩
  ·cases h
 split at h
 ·split at h
  ·rename_i a
   have:=h2 (by simp)
   have ha:=hl a (by simp)
   simp only [Option.some.injEq,Prod.mk.injEq] at h
   obtain ⟨rfl,rfl,rfl⟩:=h
   have b2:=ha.n1
   exact ⟨Nat.le_refl _,hu,fun _=>ResW.num (by omega)⟩
  ·cases h
 split at h
 ·split at h
  ·rename_i z s n
   have:=h2 (by simp)
   have hn:=hl n (by simp)
   have b2:=hn.n1
   exact evRec_W hE h hc hu (by omega) ((hl s (by simp)).up (by omega)) ((hl z (by simp)).up (by omega))
  ·cases h
 split at h
 ·split at h
  ·rename_i a b
   have:=h2 (by simp)
   have ha:=hl a (by simp)
   have hb:=hl b (by simp)
   simp only [Option.some.injEq,Prod.mk.injEq] at h
   obtain ⟨rfl,rfl,rfl⟩:=h
   refine ⟨Nat.le_refl _,hu,fun _=>ResW.list (fun x hx=>?_) (by have:=hb.ll;simp;omega)⟩
   rcases List.mem_cons.1 hx with rfl|hx
   ·have:=ha.n1;omega
   ·have:=hb.ls x hx;omega
  ·cases h
 split at h
 ·split at h
  ·rename_i z s n
   have:=h2 (by simp)
   have hn:=hl n (by simp)
   exact evFold_W hE h hc hu (Nat.le_refl _) (by have:=hn.ll;omega) (fun x hx=>by have:=hn.ls x hx;omega) ((hl s (by simp)).up (by omega)) ((hl z (by simp)).up (by omega))
  ·cases h
 split at h
 ·simp only [Option.some.injEq,Prod.mk.injEq] at h
  obtain ⟨rfl,rfl,rfl⟩:=h
  exact ⟨Nat.le_refl _,hu,fun _=>ResW.pair fun x hx=>(hl x hx).up (by omega)⟩
 split at h
 ·split at h
  ·rename_i a
   split at h
   ·rename_i x y hp
    simp only [Option.some.injEq,Prod.mk.injEq] at h
    obtain ⟨rfl,rfl,rfl⟩:=h
    exact ⟨Nat.le_refl _,hu,fun _=>((hl a (by simp)).ps _ (by rw [hp];simp)).up (by omega)⟩
   ·cases h
  ·cases h
 split at h
 ·split at h
  ·rename_i a
   split at h
   ·rename_i x y hp
    simp only [Option.some.injEq,Prod.mk.injEq] at h
    obtain ⟨rfl,rfl,rfl⟩:=h
    exact ⟨Nat.le_refl _,hu,fun _=>((hl a (by simp)).ps _ (by rw [hp];simp)).up (by omega)⟩
   ·cases h
  ·cases h
 ·simp only [Option.some.injEq,Prod.mk.injEq] at h
  obtain ⟨rfl,rfl,rfl⟩:=h
  exact ⟨Nat.le_refl _,hu,fun _=>ResW.zero⟩
theorem evStep_W (hm:most≤1000000):EvW K most (evStep most E):=by
 intro c u t e r u' o h hc hu ht hel he
 unfold evStep at h
 split at h
 ·simp only [Option.some.injEq,Prod.mk.injEq] at h
  obtain ⟨rfl,rfl,rfl⟩:=h
  exact ⟨Nat.le_refl _,hu,fun h=>by cases h⟩
 rename_i hne
 split at h
 ·split at h
  ·rename_i h0
   cases hx:e[((e.length:Int) - 1 - t.index).toNat]? with
   | none=>rw [hx] at h;cases h
   | some x =>
    rw [hx] at h
    simp only [Option.map_some,Option.some.injEq,Prod.mk.injEq] at h
    obtain ⟨rfl,rfl,rfl⟩:=h
    exact ⟨by omega,by omega,fun _=>⟨by omega,(he _ (List.mem_of_getElem? hx)).up (by omega)⟩⟩
  ·cases h
 split at h
 ·split at h
  ·rename_i b hb
   simp only [Option.some.injEq,Prod.mk.injEq] at h
   obtain ⟨rfl,rfl,rfl⟩:=h
   exact ⟨by omega,by omega,fun _=>⟨by omega,ResW.clo (ht.arg (by rw [hb];simp)) (by omega) fun x hx=>(he x hx).up (by omega)⟩⟩
  ·cases h
 ·cases h1:evArgs E e (u+1) t.args with
  | none=>rw [h1] at h;cases h
  | some p =>
   obtain ⟨l,u1,o1⟩:=p
   obtain ⟨a1,a2,a3⟩:=evArgs_W (c:=c+1) hE h1 (by omega) (by omega) (fun x hx=>ht.arg hx) (by omega) (fun x hx=>(he x hx).up (by omega))
   rw [h1] at h
   cases o1 with
   | true =>
    simp only [Option.some.injEq,Prod.mk.injEq] at h
    obtain ⟨rfl,rfl,rfl⟩:=h
    exact ⟨by omega,a2,fun h=>by cases h⟩
   | false =>
    obtain ⟨a3,a4,a5⟩:=a3 rfl
    simp only at h
    obtain ⟨b1,b2,b3⟩:=evOf_W (c:=c) hE hm h (by omega) a2 (fun x hx=>(a5 x hx).up (by omega)) (fun hn=>by
     have:t.args≠[]:=by intro e;rw [e] at a4;simp at a4;exact hn a4
     have:=a3 this;omega)
    exact ⟨by omega,b2,fun ho=>⟨by omega,b3 ho⟩⟩
end
theorem ev_W {K most:Nat} (hm:most≤1000000):∀ f,EvW K most (ev most f)
 | 0=>fun c u t e r u' o h=>by simp [ev] at h
 | f+1=>by rw [ev_succ];exact evStep_W (ev_W hm f) hm
inductive RTy (Q:Ty→Prop):Res→Ty→Prop
 | num {n:Nat}:RTy Q (numR n) tNat
 | list {l:List Nat}:RTy Q (listR l) tList
 | pair {x y:Res} {a b:Ty}:RTy Q x a→RTy Q y b→RTy Q (pairR [x,y]) (tPair a b)
 | unit:RTy Q zeroR tUnit
 | clo {G:List Ty} {es:List Res} {b:Tm} {s t:Ty} (hl:es.length=G.length) (he:∀ (i:Nat) (r:Res) (a:Ty),es[i]? = some r→G[i]? = some a→RTy Q r a) (hb:HasTy Q (G++[s]) b t):RTy Q (cloR b es) (tFun s t)
def EnvTy (Q:Ty→Prop) (es:List Res) (G:List Ty):Prop:=es.length=G.length∧∀ (i:Nat) (r:Res) (a:Ty),es[i]? = some r→G[i]? = some a→RTy Q r a
theorem EnvTy.snoc {Q:Ty→Prop} {es:List Res} {G:List Ty} {r:Res} {a:Ty} (h:EnvTy Q es G) (hr:RTy Q r a):EnvTy Q (es++[r]) (G++[a]):=by
 refine ⟨by simp [h.1],fun i x b hx hb=>?_⟩
 by_cases hi:i<es.length
 ·rw [List.getElem?_append_left hi] at hx
  rw [List.getElem?_append_left (by rw [← h.1];exact hi)] at hb
  exact h.2 i x b hx hb
 ·rw [List.getElem?_append_right (by omega)] at hx
  rw [List.getElem?_append_right (by rw [← h.1];omega),← h.1] at hb
  cases hj:i - es.length with
  | zero=>rw [hj] at hx hb;simp at hx hb;subst hx;subst hb;exact hr
  | succ j=>rw [hj] at hx;simp at hx
theorem len2 {α:Type} {l:List α} (h:l.length=2):∃ x y,l=[x,y]:=by
 match l,h with
 | [x,y],_=>exact ⟨x,y,rfl⟩
theorem len3 {α:Type} {l:List α} (h:l.length=3):∃ x y z,l=[x,y,z]:=by
 match l,h with
 | [x,y,z],_=>exact ⟨x,y,z,rfl⟩
def EvP (Q:Ty→Prop) (most:Nat) (N:Nat) (E:Evl):Prop:=∀ u t e G s,N≤u→u≤most→HasTy Q G t s→EnvTy Q e G →
 ∃ r u' o,E u t e=some (r,u',o)∧u≤u'∧u'≤most∧(o=false→RTy Q r s)
section
variable {Q:Ty→Prop} {most N:Nat} {E:Evl} (hE:EvP Q most N E)
include hE
theorem evCall_P {u:Nat} {f a:Res} {s t:Ty} (hN:N≤u) (hu:u≤most) (hf:RTy Q f (tFun s t)) (ha:RTy Q a s) :
  ∃ r u' o,evCall E u f a=some (r,u',o)∧u≤u'∧u'≤most∧(o=false→RTy Q r t):=by
 cases hf with
 | clo hl he hb=>exact hE u _ _ _ _ hN hu hb (EnvTy.snoc ⟨hl,he⟩ ha)
theorem evArgs_P {e:List Res} {G:List Ty} (he:EnvTy Q e G):∀ (l:List Tm) (ts:List Ty) (u:Nat),N≤u→u≤most→l.length=ts.length→(∀ (i:Nat) x a,l[i]? = some x→ts[i]? = some a→HasTy Q G x a) →
  ∃ l' u' o,evArgs E e u l=some (l',u',o)∧u≤u'∧u'≤most∧(o=false→l'.length=ts.length∧∀ (i:Nat) r a,l'[i]? = some r→ts[i]? = some a→RTy Q r a)
 | [],ts,u,hN,hu,hl,h=>by
  refine ⟨[],u,false,rfl,Nat.le_refl _,hu,fun _=>⟨by simpa using hl,by simp⟩⟩
 | t::l,[],u,hN,hu,hl,h=>by simp at hl
 | t::l,a::ts,u,hN,hu,hl,h=>by
  obtain ⟨r,u1,o1,h1,h2,h3,h4⟩:=hE u t e G a hN hu (h 0 t a rfl rfl) he
  rw [evArgs,h1]
  cases o1 with
  | true=>exact ⟨_,_,_,rfl,h2,h3,fun h=>by cases h⟩
  | false =>
   obtain ⟨l',u2,o2,g1,g2,g3,g4⟩:=evArgs_P he l ts u1 (by omega) h3 (by simpa using hl) (fun i x b hx hb=>h (i+1) x b (by simpa using hx) (by simpa using hb))
   simp only [g1]
   refine ⟨_,_,_,rfl,by omega,g3,fun ho=>?_⟩
   obtain ⟨g4,g5⟩:=g4 ho
   refine ⟨by simp [g4],fun i x b hx hb=>?_⟩
   cases i with
   | zero=>simp at hx hb;subst hx;subst hb;exact h4 rfl
   | succ i=>exact g5 i x b (by simpa using hx) (by simpa using hb)
theorem evRec_P {s:Res} {t:Ty} (hs:RTy Q s (tFun tNat (tFun t t))):∀ (n k u:Nat) (r:Res),N≤u→u≤most→RTy Q r t →
  ∃ r' u' o,evRec E s n k u r=some (r',u',o)∧u≤u'∧u'≤most∧(o=false→RTy Q r' t)
 | 0,k,u,r,hN,hu,hr=>⟨_,_,_,rfl,Nat.le_refl _,hu,fun _=>hr⟩
 | n+1,k,u,r,hN,hu,hr=>by
  obtain ⟨f,u1,o1,h1,h2,h3,h4⟩:=evCall_P hE hN hu hs (RTy.num (n:=k))
  rw [evRec,h1]
  cases o1 with
  | true=>exact ⟨_,_,_,rfl,h2,h3,fun h=>by cases h⟩
  | false =>
   obtain ⟨r1,u2,o2,g1,g2,g3,g4⟩:=evCall_P hE (by omega) h3 (h4 rfl) hr
   simp only [g1]
   cases o2 with
   | true=>exact ⟨_,_,_,rfl,by omega,g3,fun h=>by cases h⟩
   | false =>
    obtain ⟨r2,u3,o3,k1,k2,k3,k4⟩:=evRec_P hs n (k+1) u2 r1 (by omega) g3 (g4 rfl)
    exact ⟨_,_,_,k1,by omega,k3,k4⟩
theorem evFold_P {s:Res} {t:Ty} {l:List Nat} (hs:RTy Q s (tFun tNat (tFun tList (tFun t t)))):∀ (n u:Nat) (r:Res),N≤u→u≤most→RTy Q r t →
  ∃ r' u' o,evFold E s l n u r=some (r',u',o)∧u≤u'∧u'≤most∧(o=false→RTy Q r' t)
 | 0,u,r,hN,hu,hr=>⟨_,_,_,rfl,Nat.le_refl _,hu,fun _=>hr⟩
 | n + 1,u,r,hN,hu,hr=>by
  obtain ⟨f,u1,o1,h1,h2,h3,h4⟩:=evCall_P hE hN hu hs (RTy.num (n:=l.getD n 0))
  rw [evFold,h1]
  cases o1 with
  | true=>exact ⟨_,_,_,rfl,h2,h3,fun h=>by cases h⟩
  | false =>
   obtain ⟨f1,u2,o2,g1,g2,g3,g4⟩:=evCall_P hE (by omega) h3 (h4 rfl) (RTy.list (l:=l.drop (n+1)))
   simp only [g1]
   cases o2 with
   | true=>exact ⟨_,_,_,rfl,by omega,g3,fun h=>by cases h⟩
   | false =>
    obtain ⟨r1,u3,o3,g1,g5,g6,g7⟩:=evCall_P hE (by omega) g3 (g4 rfl) hr
    simp only [g1]
    cases o3 with
    | true=>exact ⟨_,_,_,rfl,by omega,g6,fun h=>by cases h⟩
    | false =>
     obtain ⟨r2,u4,o4,k1,k2,k3,k4⟩:=evFold_P hs n u3 r1 (by omega) g6 (g7 rfl)
     exact ⟨_,_,_,k1,by omega,k3,k4⟩
theorem evOf_P {k:Int} {ty s:Ty} {ts:List Ty} (hN:NodeTy Q k ty ts s) {u:Nat} {l:List Res} (hu0:N≤u) (hu:u≤most) (hl:l.length=ts.length)
  (h:∀ (i:Nat) r a,l[i]? = some r→ts[i]? = some a→RTy Q r a):∃ r u' o,evOf E k u l=some (r,u',o)∧u≤u'∧u'≤most∧(o=false→RTy Q r s):=by
 have l0:ts.length=0→l=[]:=fun h=>by rw [h] at hl;exact List.length_eq_zero_iff.1 hl
 have l1:ts.length=1→∃ x,l=[x]:=fun h=>by rw [h] at hl;exact List.length_eq_one_iff.1 hl
 have l2:ts.length=2→∃ x y,l=[x,y]:=fun h=>by rw [h] at hl;exact len2 hl
 have l3:ts.length=3→∃ x y z,l=[x,y,z]:=fun h=>by rw [h] at hl;exact len3 hl
 cases hN with
 | app =>
  obtain ⟨x,y,rfl⟩:=l2 rfl
  simp only [evOf,BEq.rfl,if_true]
  exact evCall_P hE hu0 hu (h 0 x _ rfl rfl) (h 1 y _ rfl rfl)
 | zero=>obtain rfl:=l0 rfl;exact ⟨zeroR,u,false,by simp [evOf],Nat.le_refl _,hu,fun _=>.num⟩
 | succ =>
  obtain ⟨x,rfl⟩:=l1 rfl
  exact ⟨_,u,false,by simp [evOf]<;>rfl,Nat.le_refl _,hu,fun _=>.num⟩
 | recr =>
  obtain ⟨x,y,z,rfl⟩:=l3 rfl
  have e:evOf E 6 u [x,y,z]=evRec E y z.num 0 u x:=by simp [evOf]
  rw [e]
  exact evRec_P hE (h 1 y _ rfl rfl) _ _ _ _ hu0 hu (h 0 x _ rfl rfl)
 | nil=>obtain rfl:=l0 rfl;exact ⟨zeroR,u,false,by simp [evOf],Nat.le_refl _,hu,fun _=>.list (l:=[])⟩
 | cons =>
  obtain ⟨x,y,rfl⟩:=l2 rfl
  exact ⟨_,u,false,by simp [evOf]<;>rfl,Nat.le_refl _,hu,fun _=>.list⟩
 | fold =>
  obtain ⟨x,y,z,rfl⟩:=l3 rfl
  have e:evOf E 9 u [x,y,z]=evFold E y z.list z.list.length u x:=by simp [evOf]
  rw [e]
  exact evFold_P hE (h 1 y _ rfl rfl) _ _ _ hu0 hu (h 0 x _ rfl rfl)
 | pair =>
  obtain ⟨x,y,rfl⟩:=l2 rfl
  exact ⟨_,u,false,by simp [evOf]<;>rfl,Nat.le_refl _,hu,fun _=>.pair (h 0 x _ rfl rfl) (h 1 y _ rfl rfl)⟩
 | fst =>
  obtain ⟨x,rfl⟩:=l1 rfl
  have hx:=h 0 x _ rfl rfl
  cases hx with
  | pair ha hb=>exact ⟨_,u,false,by simp [evOf,pairR,Res.pair]<;>rfl,Nat.le_refl _,hu,fun _=>ha⟩
 | snd =>
  obtain ⟨x,rfl⟩:=l1 rfl
  have hx:=h 0 x _ rfl rfl
  cases hx with
  | pair ha hb=>exact ⟨_,u,false,by simp [evOf,pairR,Res.pair]<;>rfl,Nat.le_refl _,hu,fun _=>hb⟩
 | unit=>obtain rfl:=l0 rfl;exact ⟨zeroR,u,false,by simp [evOf],Nat.le_refl _,hu,fun _=>.unit⟩
theorem evStep_P (hNm:1≤N):EvP Q most (N - 1) (evStep most E):=by
 intro u t e G s hN hu ht he
 unfold evStep
 split
 ·exact ⟨_,_,_,rfl,Nat.le_refl _,hu,fun h=>by cases h⟩
 rename_i hne
 have node:∀ {k:Int} {ty:Ty} {l:List Tm} {ts:List Ty},NodeTy Q k ty ts s→l.length=ts.length→(∀ (i:Nat) x a,l[i]? = some x→ts[i]? = some a→HasTy Q G x a)→(k==1)=false→(k==2)=false →
   ∃ r u' o,(if (tmT k ty l).kind==1 then
     (if 0≤(e.length:Int) - 1 - (tmT k ty l).index then (e[((e.length:Int) - 1 - (tmT k ty l).index).toNat]?).map fun r=>(r,u+1,false) else none)
    else if (tmT k ty l).kind==2 then (match (tmT k ty l).args with | [b]=>some (cloR b e,u+1,false)|_=>none)
    else match evArgs E e (u+1) (tmT k ty l).args with
     | none=>none
     | some (_,u',true)=>some (zeroR,u',true)
     | some (l2,u',false)=>evOf E (tmT k ty l).kind u' l2)=some (r,u',o)∧u≤u'∧u'≤most∧(o=false→RTy Q r s):=by
  intro k ty l ts hT hl h k1 k2
  obtain ⟨l',u1,o1,g1,g2,g3,g4⟩:=evArgs_P hE he l ts (u+1) (by omega) (by omega) hl h
  simp only [tmT,Tm.kind,Tm.args,k1,k2,Bool.false_eq_true,if_false,g1]
  cases o1 with
  | true=>exact ⟨_,_,_,rfl,by omega,g3,fun h=>by cases h⟩
  | false =>
   obtain ⟨g4,g5⟩:=g4 rfl
   obtain ⟨r,u',o,k1,k2,k3,k4⟩:=evOf_P hE hT (by omega) g3 g4 g5
   exact ⟨r,u',o,k1,by omega,k3,k4⟩
 have nk:∀ {k:Int} {ty:Ty} {ts:List Ty},NodeTy Q k ty ts s→(k==1)=false∧(k==2)=false:=by
  intro k ty ts h;cases h<;>exact ⟨rfl,rfl⟩
 cases ht with
 | @var _ i _ hi hg =>
  have hel:=he.1
  have e1:((e.length:Int) - 1 - (i:Int)).toNat=G.length - 1 - i:=by omega
  have h0:0≤(e.length:Int) - 1 - (i:Int):=by omega
  obtain ⟨r,hr⟩:∃ r,e[G.length - 1 - i]? = some r:=⟨_,List.getElem?_eq_getElem (by omega)⟩
  refine ⟨r,u+1,false,?_,by omega,by omega,fun _=>he.2 _ r s hr hg⟩
  simp only [tmVar,Tm.kind,Tm.index,BEq.rfl,if_true,if_pos h0,e1,hr,Option.map_some]
 | @lam _ a b t hq hb =>
  exact ⟨cloR t e,u+1,false,by simp [tmT,Tm.kind,Tm.args],by omega,by omega,fun _=>.clo he.1 he.2 hb⟩
 | n0 hT=>exact node hT rfl (by simp) (nk hT).1 (nk hT).2
 | n1 hT h1 =>
  refine node hT rfl (fun i x a hx ha=>?_) (nk hT).1 (nk hT).2
  match i with
  | 0=>simp at hx ha;subst hx;subst ha;exact h1
  | i+1=>simp at hx
 | n2 hT h1 h2 =>
  refine node hT rfl (fun i x a hx ha=>?_) (nk hT).1 (nk hT).2
  match i with
  | 0=>simp at hx ha;subst hx;subst ha;exact h1
  | 1=>simp at hx ha;subst hx;subst ha;exact h2
  | i+2=>simp at hx
 | n3 hT h1 h2 h3 =>
  refine node hT rfl (fun i x a hx ha=>?_) (nk hT).1 (nk hT).2
  match i with
  | 0=>simp at hx ha;subst hx;subst ha;exact h1
  | 1=>simp at hx ha;subst hx;subst ha;exact h2
  | 2=>simp at hx ha;subst hx;subst ha;exact h3
  | i+3=>simp at hx
end
theorem ev_P {Q:Ty→Prop} {most:Nat}:∀ f,EvP Q most (most+1 - f) (ev most f)
 | 0=>fun u t e G s hN hu=>by omega
 | f+1=>by
  rw [ev_succ,show most+1 - (f+1)=most+1 - f - 1 by omega]
  by_cases h:1≤most+1 - f
  ·exact evStep_P (ev_P f) h
  ·intro u t e G s hN hu ht he
   have:=evStep_P (N:=1) (fun u t e G s hN hu ht he=>ev_P f u t e G s (by omega) hu ht he) (Nat.le_refl _) u t e G s (by omega) hu ht he
   exact this
abbrev Vl:=Tm→List Res→Option Res
def vlCall (E:Vl) (f a:Res):Option Res:=E f.body (f.env++[a])
def vlArgs (E:Vl) (e:List Res):List Tm→Option (List Res)
 | []=>some []
 | t::l =>
  match E t e with
  | none=>none
  | some r=>match vlArgs E e l with
   | none=>none
   | some l'=>some (r::l')
def vlRec (E:Vl) (s:Res):Nat→Nat→Res→Option Res
 | 0,_,r=>some r
 | n+1,k,r =>
  match vlCall E s (numR k) with
  | none=>none
  | some f=>match vlCall E f r with
   | none=>none
   | some r'=>vlRec E s n (k+1) r'
def vlFold (E:Vl) (s:Res) (l:List Nat):Nat→Res→Option Res
 | 0,r=>some r
 | i+1,r =>
  match vlCall E s (numR (l.getD i 0)) with
  | none=>none
  | some f=>match vlCall E f (listR (l.drop (i+1))) with
   | none=>none
   | some f'=>match vlCall E f' r with
    | none=>none
    | some r'=>vlFold E s l i r'
def vlOf (E:Vl) (k:Int) (l:List Res):Option Res :=
 if k==3 then (match l with | [f,a]=>vlCall E f a|_=>none)
 else if k==5 then (match l with | [a]=>some (numR (a.num+1))|_=>none)
 else if k==6 then (match l with | [z,s,n]=>vlRec E s n.num 0 z|_=>none)
 else if k==8 then (match l with | [a,b]=>some (listR (a.num::b.list))|_=>none)
 else if k==9 then (match l with | [z,s,n]=>vlFold E s n.list n.list.length z|_=>none)
 else if k==10 then some (pairR l)
 else if k==11 then (match l with | [a]=>(match a.pair with | [x,_]=>some x|_=>none)|_=>none)
 else if k==12 then (match l with | [a]=>(match a.pair with | [_,y]=>some y|_=>none)|_=>none)
 else some zeroR
def vlStep (E:Vl):Vl:=fun t e =>
 if t.kind==1 then (if 0≤(e.length:Int) - 1 - t.index then e[((e.length:Int) - 1 - t.index).toNat]? else none)
 else if t.kind==2 then (match t.args with | [b]=>some (cloR b e)|_=>none)
 else match vlArgs E e t.args with
  | none=>none
  | some l=>vlOf E t.kind l
def vl:Nat→Vl
 | 0=>fun _ _=>none
 | f+1=>vlStep (vl f)
theorem vl_succ (f:Nat):vl (f+1)=vlStep (vl f):=rfl
section
variable {E:Evl} {F:Vl} (hEF:∀ u t e r u',E u t e=some (r,u',false)→F t e=some r)
include hEF
end
section
variable {E F:Vl} (hEF:∀ t e r,E t e=some r→F t e=some r)
include hEF
end
def Val (t:Tm) (e:List Res) (r:Res):Prop:=∃ f,vl f t e=some r
theorem Val.var {i:Nat} {e:List Res} {r:Res} (h:Val (tmVar i) e r):i<e.length∧e[e.length - 1 - i]? = some r:=by
 obtain ⟨f,h⟩:=h
 cases f with
 | zero=>simp [vl] at h
 | succ g =>
  have e0:vlStep (vl g) (tmVar i) e=if 0≤(e.length:Int) - 1 - (i:Int) then e[((e.length:Int) - 1 - (i:Int)).toNat]? else none:=rfl
  rw [vl_succ,e0] at h
  by_cases h0:0≤(e.length:Int) - 1 - (i:Int)
  ·have e1:((e.length:Int) - 1 - (i:Int)).toNat=e.length - 1 - i:=by omega
   rw [if_pos h0,e1] at h
   exact ⟨by omega,h⟩
  ·rw [if_neg h0] at h;cases h
inductive Like:Res→Res→Prop
 | mk {n:Nat} {l:List Nat} {p p':List Res} {b:Tm} {e e' pre:List Res} (hp:p.length=p'.length) (hps:∀ (i:Nat) x y,p[i]? = some x→p'[i]? = some y→Like x y)
   (he:e.length=e'.length) (hes:∀ (i:Nat) x y,e[i]? = some x→e'[i]? = some y→Like x y):Like (.mk n l p b e) (.mk n l p' b (pre++e'))
def SimL (l l':List Res):Prop:=l.length=l'.length∧∀ (i:Nat) x y,l[i]? = some x→l'[i]? = some y→Like x y
def SimE (e e':List Res):Prop:=∃ pre e'',e'=pre++e''∧SimL e e''
theorem SimL.nil:SimL [] []:=⟨rfl,by simp⟩
theorem SimL.cons {x y:Res} {l l':List Res} (h:Like x y) (hl:SimL l l'):SimL (x::l) (y::l'):=by
 refine ⟨by simp [hl.1],fun i a b ha hb=>?_⟩
 cases i with
 | zero=>simp at ha hb;subst ha;subst hb;exact h
 | succ i=>exact hl.2 i a b (by simpa using ha) (by simpa using hb)
theorem Like.num {n:Nat}:Like (numR n) (numR n):=Like.mk (pre:=[]) rfl (by simp) rfl (by simp)
theorem Like.list {l:List Nat}:Like (listR l) (listR l):=Like.mk (pre:=[]) rfl (by simp) rfl (by simp)
theorem Like.pair {l l':List Res} (h:SimL l l'):Like (pairR l) (pairR l'):=Like.mk (pre:=[]) h.1 h.2 rfl (by simp)
theorem Like.clo {b:Tm} {e e':List Res} (h:SimE e e'):Like (cloR b e) (cloR b e'):=by
 obtain ⟨pre,e'',rfl,h1,h2⟩:=h
 exact Like.mk rfl (by simp) h1 h2
section
variable {E:Vl} (hE:∀ t e r,E t e=some r→∀ e',SimE e e'→∃ r',E t e'=some r'∧Like r r')
include hE
end
section
variable {P:Program} {env:Nat→Option (List V)} {ops:Array Oper} {draw:Bool} {gen reg:Nat} {rest:List Oper} {i:Nat} {log:List LogE} {K:St→Prop} {σ:St} {dst:Option Nat}
def mkIfV (T:Option TyI) (t:TypeId) (x:V):Option V:=match T with|some i=>if i.kind=8 then none else some (.iface t x)|none=>none
@[go_sem] theorem aop_makeInterface {t:TypeId} {x:Operand}:aop P env ops draw gen reg rest dst i log K σ (.makeInterface t x) =
  ok1 P env ops draw gen reg rest dst i log K σ (mkIfV (tyi P t) t (av env σ.tm x)):=by
 simp only [aop];exact ok_of (prim_V rfl)
attribute [go_sem] mkIfV
end
structure Tys where
 int:TypeId
 cell:TypeId
 both:TypeId
 unit:TypeId
 clo:TypeId
def cellV:List Nat→V
 | []=>.nilp
 | x::l=>.el [.int .i64 x,cellV l] 0
mutual
inductive ThV (K:Tys):Ty→Res→V→Prop
 | num {n:Nat}:ThV K tNat (numR n) (.iface K.int (.int .i64 n))
 | list {l:List Nat}:ThV K tList (listR l) (.iface K.cell (cellV l))
 | unit:ThV K tUnit zeroR (.iface K.unit (.agg []))
 | pair {a b:Ty} {x y:Res} {u v:V}:ThV K a x u→ThV K b y v→ThV K (tPair a b) (pairR [x,y]) (.iface K.both (.el [u,v] 0))
 | clo {g:List Ty} {a b:Ty} {t:Tm} {e:List Res} {ve:V}:EnvV K g e ve→HasTy TyG (g++[a]) t b→ThV K (tFun a b) (cloR t e) (.iface K.clo (.el (t.cells++[ve]) 0))
inductive EnvV (K:Tys):List Ty→List Res→V→Prop
 | nil:EnvV K [] [] .nilp
 | snoc {g:List Ty} {a:Ty} {e:List Res} {r:Res} {v ve:V}:EnvV K g e ve→ThV K a r v→EnvV K (g++[a]) (e++[r]) (.el [v,ve] 0)
end
theorem cellV_weak:∀ l,weak (cellV l)=cellV l
 | []=>rfl
 | x::l=>by rw [cellV,weak];simp [weakL,cellV_weak l,weak]
theorem cellV_in {S:Id→Prop}:∀ l,InV S (cellV l)
 | []=>by rw [cellV,InV];trivial
 | x::l=>by rw [cellV,InV];simp [InL,cellV_in l,InV]
theorem InL_app {S:Id→Prop} {a b:List V} (ha:InL S a) (hb:InL S b):InL S (a++b):=by
 rw [InL_mem] at *
 intro v hv
 rcases List.mem_append.1 hv with h|h
 ·exact ha v h
 ·exact hb v h
theorem weakL_app' (a b:List V):weakL (a++b)=weakL a++weakL b:=by simp [weakL_eq]
mutual
theorem ThV.wk {K:Tys} {s:Ty} {r:Res} {v:V}:ThV K s r v→weak v=v
 | .num=>rfl
 | .list=>by simp [weak,cellV_weak]
 | .unit=>rfl
 | .pair h1 h2=>by simp [weak,weakL,h1.wk,h2.wk]
 | .clo h _=>by simp [weak,weakL_app',weakL_Tm,weakL,h.wk]
theorem EnvV.wk {K:Tys} {g:List Ty} {e:List Res} {v:V}:EnvV K g e v→weak v=v
 | .nil=>rfl
 | .snoc h1 h2=>by simp [weak,weakL,h1.wk,h2.wk]
end
mutual
theorem ThV.ins {K:Tys} {S:Id→Prop} {s:Ty} {r:Res} {v:V}:ThV K s r v→InV S v
 | .num=>by simp [InV]
 | .list=>by rw [InV];exact cellV_in _
 | .unit=>by simp [InV,InL]
 | .pair h1 h2=>by rw [InV,InV];exact ⟨h1.ins,h2.ins,trivial⟩
 | .clo h _=>by
  rw [InV,InV]
  refine InL_app (by simp [InL_Tm]) ?_
  exact ⟨h.ins,trivial⟩
theorem EnvV.ins {K:Tys} {S:Id→Prop} {g:List Ty} {e:List Res} {v:V}:EnvV K g e v→InV S v
 | .nil=>by simp [InV]
 | .snoc h1 h2=>by rw [InV];exact ⟨h2.ins,h1.ins,trivial⟩
end
def IsI (v:V):Prop:=∃ t w,v=.iface t w∧weak w=w∧∀ S,InV S w=True
def IsE (v:V):Prop:=v=.nilp∨∃ c,v=.el c 0∧weakL c=c∧∀ S,InL S c=True
theorem isI_of {v:V} (h:weak v=v) (hi:∀ S,InV S v) {t:TypeId} {w:V} (e:v=.iface t w):IsI v:=by
 subst e
 simp only [weak,V.iface.injEq,true_and] at h
 exact ⟨t,w,rfl,h,fun S=>eq_true (by have:=hi S;rwa [InV] at this)⟩
theorem ThV.isI {K:Tys} {s:Ty} {r:Res} {v:V} (h:ThV K s r v):IsI v:=by
 have hw:=h.wk
 have hi:∀ S,InV S v:=fun S=>h.ins
 cases h with
 | num=>exact isI_of hw hi rfl
 | list=>exact isI_of hw hi rfl
 | unit=>exact isI_of hw hi rfl
 | pair _ _=>exact isI_of hw hi rfl
 | clo _ _=>exact isI_of hw hi rfl
theorem EnvV.isE {K:Tys} {g:List Ty} {e:List Res} {v:V} (h:EnvV K g e v):IsE v:=by
 have hw:=h.wk
 have hi:∀ S,InV S v:=fun S=>h.ins
 cases h with
 | nil=>exact .inl rfl
 | snoc _ _ =>
  refine .inr ⟨_,rfl,?_,fun S=>eq_true ?_⟩
  ·simpa [weak] using hw
  ·have:=hi S;rwa [InV] at this
def atV:Nat→V→Option V
 | 0,.el [v,_] 0=>some v
 | i+1,.el [_,n] 0=>atV i n
 | _,_=>none
theorem EnvV.get {K:Tys} {g:List Ty} {e:List Res} {ve:V} (h:EnvV K g e ve):∀ i:Nat,i<e.length→∃ v a r,atV i ve=some v∧e[e.length - 1 - i]? = some r∧g[e.length - 1 - i]? = some a∧ThV K a r v∧e.length=g.length:=by
 suffices hs:∀ (n:Nat) {g:List Ty} {e:List Res} {ve:V},e.length=n→EnvV K g e ve→e.length=g.length∧∀ i:Nat,i<e.length→∃ v a r,atV i ve=some v∧e[e.length - 1 - i]? = some r∧g[e.length - 1 - i]? = some a∧ThV K a r v by
  intro i hi
  obtain ⟨h1,h2⟩:=hs _ rfl h
  obtain ⟨v,a,r,q1,q2,q3,q4⟩:=h2 i hi
  exact ⟨v,a,r,q1,q2,q3,q4,h1⟩
 intro n
 induction n with
 | zero =>
  intro g e ve hn h
  cases h with
  | nil=>exact ⟨rfl,fun i hi=>by simp at hi⟩
  | snoc _ _=>simp at hn
 | succ n ih =>
  intro g e ve hn h
  cases h with
  | nil=>simp at hn
  | @snoc g a e r v ve h1 h2 =>
   have hl:e.length=n:=by simpa using hn
   obtain ⟨i1,i2⟩:=ih hl h1
   refine ⟨by simp [i1],fun i hi=>?_⟩
   cases i with
   | zero =>
    refine ⟨v,a,r,rfl,?_,?_,h2⟩
    ·simp
    ·simp [i1]
   | succ i =>
    obtain ⟨v',a',r',q1,q2,q3,q4⟩:=i2 i (by simp at hi;omega)
    have e1:(e++[r]).length - 1 - (i+1)=e.length - 1 - i:=by simp;omega
    have hlt:e.length - 1 - i<e.length:=(List.getElem?_eq_some_iff.1 q2).1
    refine ⟨v',a',r',by rw [atV];exact q1,?_,?_,q4⟩
    ·rw [e1,List.getElem?_append_left hlt];exact q2
    ·rw [e1,List.getElem?_append_left (by omega)];exact q3
theorem EnvV.len {K:Tys} {g:List Ty} {e:List Res} {ve:V} (h:EnvV K g e ve):e.length=g.length:=by
 cases he:e with
 | nil =>
  subst he
  generalize hq:([]:List Res)=q at h
  cases h with
  | nil=>rfl
  | snoc _ _=>simp at hq
 | cons x l =>
  obtain ⟨_,_,_,_,_,_,_,h⟩:=h.get 0 (by rw [he];simp)
  rw [← he];exact h
theorem Ext.drew (g:G) (w:World):Ext g w g w.drew :=
 ⟨rfl,rfl,rfl,by simp,fun _=>Nat.le_refl _,fun _ _ _=>rfl,fun _ _ h=>⟨rfl,h⟩,fun id h=>⟨h,rfl,.inl rfl⟩,Nat.le_refl _⟩
theorem Rel.drew {env:Nat→Option (List V)} {g:G} {w:World} {h:H} (r:Rel env g w h):Rel env g w.drew h:=by
 have hx:=Ext.drew g w
 refine ⟨r.dom,r.top,?_,r.inj,?_,r.apart,r.apart2,?_,fun k cs' e=>(r.glob k cs' e).mono hx⟩
 ·intro id cs e
  obtain ⟨vs,h1,h2,h3,h4,h5⟩:=r.box id cs e
  exact ⟨vs,h1,h2,fun i c v a b=>(h3 i c v a b).mono hx,h4,h5⟩
 ·intro id n k e
  obtain ⟨h1,h2,h3,hk⟩:=r.tok id n k e
  exact ⟨h1,h2,fun hlt=>by
   obtain ⟨b,off,vs',s1,s2,s3,s4,s5⟩:=h3 hlt
   exact ⟨b,off,vs',s1,s2,s3,s4,s5⟩,hk⟩
 ·intro b hb;simp only [World.size_drew] at hb;exact r.limnew b hb
def Fz (id:Id) (n:Nat) (rows:List (List V)) (v v':V):Prop:=v'=.undef∨v'=v∨(v=.slb id n∧v'=.sl .any rows)
theorem RV.freeze {g g':G} {w:World} {S:Id→Prop} (hl:∀ b,g.lim b≤g'.lim b) (hS:∀ id,S id→g'.dom id=true∧g'.loc id=g.loc id∧g'.buf id=g.buf id)
  {c:Value} {v:V} (h:RV g w c v) (hin:InV S v):RV g' w c v:=by
 induction h with
 | undef c=>exact .undef c
 | bool b=>exact .bool b
 | int k n=>exact .int k n
 | str s=>exact .str s
 | agg vs cs h _ ih=>rw [InV] at hin;exact .agg vs cs h fun i c v hc hv=>ih i c v hc hv (InL_get hin hv)
 | tup vs cs h _ ih=>rw [InV] at hin;exact .tup vs cs h fun i c v hc hv=>ih i c v hc hv (InL_get hin hv)
 | sl a cap c es k cell hk hcap hrun _ hc ih =>
  rw [InV] at hin
  refine .sl a cap c es k cell hk hcap (fun hne=>?_) (fun i v hv=>ih i v hv (InL_get (InLL_flat.1 hin.2) hv)) ?_
  ·obtain ⟨b,off,e,h1,h2⟩:=hrun hne
   exact ⟨b,off,e,Nat.le_trans h1 (hl b),h2⟩
  cases c with
  | any=>trivial
  | full=>exact hc
  | own id =>
   obtain ⟨a1,a2,a3⟩:=hS id hin.1
   exact ⟨a1,by rw [a3];exact hc.2⟩
 | ptr id off h=>rw [InV] at hin;rw [← (hS id hin).2.1];exact .ptr id off (hS id hin).1
 | slb id n cap h h2=>rw [InV] at hin;rw [← (hS id hin).2.1];exact .slb id n cap (hS id hin).1 h2
 | el b off cs o cell hlm hrun _ ih=>rw [InV] at hin;exact .el b off cs o cell (Nat.le_trans hlm (hl b)) hrun fun i v hv=>ih i v hv (InL_get hin hv)
 | nilp=>exact .nilp
 | fn f fs cs fs' cs' h1 h2 _ _ ih1 ih2 =>
  rw [InV] at hin
  exact .fn f fs cs fs' cs' h1 h2 (fun i c v hc hv=>ih1 i c v hc hv (InL_get hin.1 hv)) (fun i c v hc hv=>ih2 i c v hc hv (InL_get hin.2 hv))
 | nilf=>exact .nilf
 | iface t c v _ ih=>rw [InV] at hin;exact .iface t c v (ih hin)
 | nili=>exact .nili
def RelD (ds:List Deferred) (env:Nat→Option (List V)) (n:Nat) (g:G) (w:World) (a:Act) (σ:St):Prop:=RelSt env n g w { a with defers:=[] } σ∧a.defers=ds
theorem RelD.of {env:Nat→Option (List V)} {n:Nat} {g:G} {w:World} {a:Act} {σ:St} (r:RelSt env n g w a σ):RelD [] env n g w a σ:=by
 have h:=r.defers
 obtain ⟨t,d⟩:=a
 simp only at h
 subst h
 exact ⟨r,rfl⟩
theorem RelD.st {env:Nat→Option (List V)} {n:Nat} {g:G} {w:World} {a:Act} {σ:St} (r:RelD [] env n g w a σ):RelSt env n g w a σ:=by
 obtain ⟨r,h⟩:=r
 obtain ⟨t,d⟩:=a
 simp only at h
 subst h
 exact r
theorem RelD.av {ds:List Deferred} {env:Nat→Option (List V)} {n:Nat} {g:G} {w:World} {a:Act} {σ:St} (r:RelD ds env n g w a σ) (x:Operand):RV g w (a.eval x) (av env σ.tm x):=rv_av r.1 x
theorem put_defers {a:Act} {d:Option Tmp} {v:Value}:{ a.put d v with defers:=[] }=({ a with defers:=[] }:Act).put d v∧(a.put d v).defers=a.defers:=by
 cases d<;>exact ⟨rfl,rfl⟩
theorem RelD.put {ds:List Deferred} {env:Nat→Option (List V)} {n:Nat} {g:G} {w:World} {a:Act} {σ:St} (r:RelD ds env n g w a σ) {g':G} {w':World} (x:Ext g w g' w')
  {d:Option Nat} (hd:∀ t,d=some t→t<n) {c:Value} {v:V} {h':H} (hr:Rel env g' w' h') (hv:RV g' w' c v):RelD ds env n g' w' (a.put d c) ⟨upd σ.tm d v,h'⟩ :=
 ⟨by rw [put_defers.1];exact r.1.put x hd hr hv,by rw [put_defers.2];exact r.2⟩
section
variable {F:Fence} (hF:∀ f,F.fn f) (hdp:F.depth=none) {m:Nat} {ds:List Deferred}
include hF hdp
theorem stp_wpIn {P:Program} {env:Nat→Option (List V)} {n:Nat} {g:G} {w:World} {a:Act} {σ:St} {nid:Id} {o:Oper} {eff:Eff}
  (hc:∀ k args w R,Calls P k args w R→CallsIn F (m - 1) P k args w R)
  (hs:Stp P env (av env σ.tm) σ.h nid o.op eff) (r:RelD ds env n g w a σ) (hd:∀ t,o.dst=some t→t<n) {next:Act→World→Prop} {Q:Exit→Act→World→Prop}
  (hn:∀ g' a' w',Ext g w g' w'→RelD ds env n g' w' a' (σ.put o.dst eff)→next a' w'):o.wpIn F m P a w next Q:=by
 have hnd:∀ c,o.op≠.defer c:=by
  intro c hc
  rcases hs with hs|⟨c',hc',_⟩
  ·rw [hc] at hs;simp [prim,primH,primV] at hs
  ·rw [hc] at hc';cases hc'
 refine ⟨fun f _=>hF f,?_⟩
 rw [Oper.semAt_plain F _ _ hnd]
 rcases hs with hs|⟨c,hc0,hs⟩
 ·obtain ⟨cv,w',g',hrun,hx,hr,hv⟩:=prim_sound r.1.rel (fun x=>r.av x) hs
  have:=hn g' (a.put o.dst cv) w' hx (r.put hx hd hr hv)
  rcases hrun with hrun|⟨hrun,rfl⟩
  ·simpa only [hrun,Oper.uponIn_value] using this
  ·simpa only [hrun,Oper.uponIn_skip] using this
 ·obtain ⟨k,vs,hrun,hcall⟩:=callEff_run r.1.rel (fun x=>r.av x) hc0 hs
  simp only [hrun,Oper.uponIn_enter]
  refine ⟨fun h=>by rw [hdp] at h;simp at h,(hc _ _ _ _ hcall).mono ?_⟩
  rintro e w' ⟨cv,g',rfl,hx',hr',hv'⟩
  exact hn g' _ w' hx' (r.put hx' hd hr' hv')
end
section
variable {F:Fence} (hF:∀ f,F.fn f) (hdp:F.depth=none) {m:Nat} {ds:List Deferred}
variable {P:Program} (hcl:∀ k args w R,Calls P k args w R→CallsIn F (m - 1) P k args w R)
variable {env:Nat→Option (List V)} {ops:Array Oper} {gen reg n:Nat} (hn:dstOk n ops=true)
include hF hdp hcl hn
theorem cstep_wpIn {x:Nat × Option Eff} {σ σ':St} (h:CStep P env ops gen reg x σ σ') {g:G} {w:World} {a:Act} (r:RelD ds env n g w a σ)
  {K:Act→World→Prop} {Q:Exit→Act→World→Prop} (hk:∀ g' a' w',Ext g w g' w'→RelD ds env n g' w' a' σ'→K a' w'):wpOpIn F m P ops Q x.1 K a w:=by
 obtain ⟨o,ho,h⟩:=h
 unfold wpOpIn
 rw [ho]
 simp only
 cases hx:x.2 with
 | some e =>
  rw [hx] at h
  obtain ⟨hg,hs,rfl⟩:=h
  rw [gwant_sound r.1 hg]
  simp only [if_true]
  exact stp_wpIn hF hdp hcl hs r (dstOk_at hn ho) hk
 | none =>
  rw [hx] at h
  obtain ⟨hg,rfl⟩:=h
  rw [gwant_sound r.1 hg]
  simp only [Bool.false_eq_true,if_false]
  exact ⟨fun f _=>hF f,hk g _ w (Ext.refl g w) (r.put (Ext.refl g w) (dstOk_at hn ho) r.1.rel (.tup _ _ rfl (by simp)))⟩
theorem chain_opsIn:∀ (l:List (Nat × Option Eff)) {σ σe:St} (h:Chain P env ops gen reg l σ σe) {g:G} {w:World} {a:Act} (r:RelD ds env n g w a σ)
  {Q:Exit→Act→World→Prop} (hk:∀ g' a' w',Ext g w g' w'→RelD ds env n g' w' a' σe→Q .normal a' w'),wpOpsIn F m P ops Q (l.map (·.1)) a w
 | [],_,_,.nil _,g,w,a,r,Q,hk=>hk g a w (Ext.refl g w) r
 | x::l,_,_,.cons _ _ _ σ1 _ hs t,g,w,a,r,Q,hk=>by
  rw [List.map_cons,wpOpsIn_cons]
  exact cstep_wpIn hF hdp hcl hn hs r fun g' a' w' hx r'=>chain_opsIn l t r' fun g2 a2 w2 hx2 r2=>hk g2 a2 w2 (hx.trans hx2) r2
end
section
variable {F:Fence} (hF:∀ f,F.fn f) (hdp:F.depth=none) {m:Nat} {ds:List Deferred}
variable {P:Program} (hcl:∀ k args w R,Calls P k args w R→CallsIn F (m - 1) P k args w R)
variable {env:Nat→Option (List V)} {ops:Array Oper} {gen reg n:Nat} (hn:dstOk n ops=true) (hok:drawOk ops=true)
include hF hdp hcl hn hok
theorem chain_anyIn {Q:Exit→Act→World→Prop} {σe:St} {g0:G} {w0:World} (hk:∀ g' a' w',Ext g0 w0 g' w'→RelD ds env n g' w' a' σe→Q .normal a' w') :
  ∀ (fuel:Nat) (l:List (Nat × Option Eff)) (listed:Array Bool) (σ:St) (g:G) (w:World) (a:Act),l.length≤fuel→listed.size=ops.size →
   (∀ i,(∃ x∈l,x.1=i)↔(i<ops.size∧listed.getD i true=false))→l.Pairwise (fun x y=>x.1<y.1)→l.Pairwise (PairOk ops) →
   (∀ j o,ops[j]? = some o→listed.getD j false=true→∀ e∈o.after,Region.binds .any e=true→listed.getD e.on false=true) →
   Chain P env ops gen reg l σ σe→Ext g0 w0 g w→RelD ds env n g w a σ→wpAnyIn F m P .any ops Q fuel listed a w:=by
 obtain ⟨ht,hsp⟩:=drawOk_spec hok
 have hready:∀ (l:List (Nat × Option Eff)) (listed:Array Bool),listed.size=ops.size→(∀ i,(∃ x∈l,x.1=i)↔(i<ops.size∧listed.getD i true=false)) →
   l.Pairwise (fun x y=>x.1<y.1)→l≠[]→Region.ready .any ops listed≠[]:=by
  intro l listed hsz hm hp hne
  cases l with
  | nil=>exact absurd rfl hne
  | cons x l =>
   have hx:=(hm x.1).1 ⟨x,by simp,rfl⟩
   have:x.1∈Region.ready .any ops listed:=by
    rw [mem_ready]
    refine ⟨hx.2,ops[x.1]'hx.1,Array.getElem?_eq_getElem hx.1,fun e he hb=>?_⟩
    have hlt:=(hsp x.1 _ (Array.getElem?_eq_getElem hx.1)).1 e he hb
    cases hq:listed.getD e.on false with
    | true=>rfl
    | false =>
     have hsz':e.on<listed.size:=by omega
     have:listed.getD e.on true=false:=by
      simp [hsz'] at hq ⊢;exact hq
     obtain ⟨y,hy,e1⟩:=(hm e.on).2 ⟨by omega,this⟩
     rcases List.mem_cons.1 hy with rfl|hy
     ·omega
     ·have:=(List.pairwise_cons.1 hp).1 y hy;omega
   intro e;rw [e] at this;simp at this
 intro fuel
 induction fuel with
 | zero =>
  intro l listed σ g w a hl hsz hm hp hpo hc hch hx r
  have:l=[]:=List.eq_nil_of_length_eq_zero (by omega)
  subst this
  cases hch
  refine ⟨?_,hk g a w hx r⟩
  apply List.eq_nil_iff_forall_not_mem.2
  intro i hi
  rw [mem_ready] at hi
  obtain ⟨h1,o,ho,_⟩:=hi
  obtain ⟨x,hx',_⟩:=(hm i).2 ⟨(Array.getElem?_eq_some_iff.1 ho).1,h1⟩
  simp at hx'
 | succ fuel ih =>
  intro l listed σ g w a hl hsz hm hp hpo hc hch hx r
  refine ⟨fun hr=>?_,fun i hi=>?_⟩
  ·by_cases hne:l=[]
   ·subst hne;cases hch;exact hk g a w hx r
   ·exact absurd hr (hready l listed hsz hm hp hne)
  ·have hi':=mem_ready.1 hi
   obtain ⟨h1,o,ho,hd⟩:=hi'
   have hisz:i<ops.size:=(Array.getElem?_eq_some_iff.1 ho).1
   obtain ⟨x,hxl,rfl⟩:=(hm i).2 ⟨hisz,h1⟩
   obtain ⟨pre,post,rfl⟩:=List.append_of_mem hxl
   have hpull:=pull (P:=P) (env:=env) (gen:=gen) (reg:=reg) ho pre post σ σe (fun y hy=>by
    have hy':=(hm y.1).1 ⟨y,by simp [hy],rfl⟩
    have hlt:y.1<x.1:=(List.pairwise_append.1 hp).2.2 y hy x (by simp)
    have hpk:PairOk ops y x:=(List.pairwise_append.1 hpo).2.2 y hy x (by simp)
    have hnord:ordB ops y.1 x.1≠true:=by
     intro hb
     have:=ord_listed ht hc x.1 o ho hd y.1 hy'.1 hb
     have h2:=hy'.2
     have hsz':y.1<listed.size:=by rw [hsz];exact hy'.1
     simp [hsz'] at this h2
     rw [this] at h2;exact Bool.noConfusion h2
    refine ⟨ops[y.1]'hy'.1,Array.getElem?_eq_getElem hy'.1,?_,?_⟩
    ·exact ((hsp x.1 o ho).2 y.1 _ hlt (Array.getElem?_eq_getElem hy'.1)).resolve_left hnord
    ·exact hpk.resolve_left hnord) hch
   cases hpull with
   | cons _ _ _ σ1 _ hs t =>
    refine cstep_wpIn hF hdp hcl hn hs r fun g' a' w' hx' r'=>?_
    have hsub:(pre++post).Sublist (pre++x::post):=List.Sublist.append_left (List.sublist_cons_self x post) pre
    refine ih (pre++post) (listed.setIfInBounds x.1 true) σ1 g' w' a' (by simp at hl ⊢;omega) (by simpa using hsz) ?_ (hp.sublist hsub) (hpo.sublist hsub) ?_ t (hx.trans hx') r'
    ·intro i
     constructor
     ·rintro ⟨y,hy,rfl⟩
      have hy2:=(hm y.1).1 ⟨y,hsub.subset hy,rfl⟩
      have hne:x.1≠y.1:=by
       rcases List.mem_append.1 hy with hy|hy
       ·have:=(List.pairwise_append.1 hp).2.2 y hy x (by simp);omega
       ·have:=(List.pairwise_cons.1 (List.pairwise_append.1 hp).2.1).1 y hy;omega
      exact ⟨hy2.1,by rw [getD_set_ne true hne];exact hy2.2⟩
     ·rintro ⟨hi1,hi2⟩
      have hne:x.1≠i:=by
       intro e;subst e
       have:x.1<listed.size:=by rw [hsz];exact hisz
       simp [this] at hi2
      rw [getD_set_ne true hne] at hi2
      obtain ⟨y,hy,rfl⟩:=(hm i).2 ⟨hi1,hi2⟩
      rcases List.mem_append.1 hy with hy|hy
      ·exact ⟨y,by simp [hy],rfl⟩
      ·rcases List.mem_cons.1 hy with rfl|hy
       ·exact absurd rfl hne
       ·exact ⟨y,by simp [hy],rfl⟩
    ·intro j o' ho' hj e he hb
     by_cases hjx:x.1=j
     ·subst hjx
      rw [ho] at ho';cases ho'
      exact getD_set_true (hd e he hb)
     ·rw [getD_set_ne false hjx] at hj
      exact getD_set_true (hc j o' ho' hj e he hb)
theorem chain_region_drawIn {l:List (Nat × Option Eff)} {σ σe:St} (hm:P.follows .mixedOrders=true) (hl:l.map (·.1)=List.range ops.size) (hpo:l.Pairwise (PairOk ops))
  (hch:Chain P env ops gen reg l σ σe) {g:G} {w:World} {a:Act} (r:RelD ds env n g w a σ) {Q:Exit→Act→World→Prop}
  (hk:∀ g' a' w',Ext g w g' w'→RelD ds env n g' w' a' σe→Q .normal a' w') {id:Nat}:(Code.region id ops true).wpIn F m P Q a w:=by
 have hx:Ext g w g { w with drawn:=w.drawn+1 } :=
  ⟨rfl,rfl,rfl,Nat.le_refl _,fun _=>Nat.le_refl _,fun _ _ _=>rfl,fun _ _ h=>⟨rfl,h⟩,fun _ h=>⟨h,rfl,.inl rfl⟩,Nat.le_refl _⟩
 have hrel:Rel env g { w with drawn:=w.drawn+1 } σ.h:=by
  have q:=r.1.rel
  refine ⟨q.dom,q.top,fun id cs e=>?_,q.inj,fun id n k e=>?_,q.apart,q.apart2,q.limnew,fun k cs e=>(q.glob k cs e).mono hx⟩
  ·obtain ⟨vs,h1,h2,h3,h4,h5⟩:=q.box id cs e
   exact ⟨vs,h1,h2,fun i c v x y=>(h3 i c v x y).mono hx,h4,h5⟩
  ·obtain ⟨h1,h2,h3,h4⟩:=q.tok id n k e
   exact ⟨h1,h2,h3,h4⟩
 refine wpIn_region_any hm (chain_anyIn hF hdp hcl hn hok (g0:=g) (w0:=w) hk ops.size l _ σ g _ a ?_ (by simp) ?_ ?_ hpo ?_ hch hx ⟨⟨hrel,fun t=>(r.1.tm t).mono hx,r.1.size,r.1.defers⟩,r.2⟩)
 ·have:=congrArg List.length hl;simp at this;omega
 ·intro i
  have:(∃ x∈l,x.1=i)↔i∈l.map (·.1):=by simp
  rw [this,hl,List.mem_range]
  constructor
  ·intro h;exact ⟨h,by simp [h]⟩
  ·exact fun h=>h.1
 ·have:(l.map (·.1)).Pairwise (·<·):=by rw [hl];exact List.pairwise_lt_range
  rw [List.pairwise_map] at this
  exact this
 ·intro j o ho hj
  have hjl:j<ops.size:=(Array.getElem?_eq_some_iff.1 ho).1
  simp [hjl] at hj
end
structure XC where
 F:Fence
 ds:List Deferred
 X:G→World→Prop
 E:Exit→Act→World→Prop
structure XOk (P:Program) (x:XC):Prop where
 fn:∀ f,x.F.fn f
 dp:x.F.depth=none
 cl:∀ k args w R,Calls P k args w R→CallsIn x.F (0 - 1) P k args w R
 X:∀ g w g' w',Ext g w g' w'→x.X g w→x.X g' w'
def postX (P:Program) (F:Fence) (E:Exit→Act→World→Prop):List It→Exit→Act→World→Prop
 | [],e,a,w=>E e a w
 | .code y::k,.normal,a,w=>y.wpIn F 0 P (postX P F E k) a w
 | .code _::k,e,a,w=>postX P F E k e a w
 | .block _::k,.normal,a,w=>postX P F E k .normal a w
 | .block id::k,.exit id',a,w=>if id'=id then postX P F E k .normal a w else postX P F E k (.exit id') a w
 | .block _::k,e,a,w=>postX P F E k e a w
 | .inv _::k,e,a,w=>postX P F E k e a w
def ARX (c:Ctx) (x:XC) (gen:Nat) (k:List It) (e:Exit) (σ:St):Prop :=
 ∀ g a w,Ext c.g0 c.w0 g w→x.X g w→RelD x.ds c.env c.n g w a σ→postX c.P x.F x.E k e a w
section
variable {c:Ctx} {x:XC} {gen:Nat} {k:List It} {σ:St}
theorem ARX_skip (h:ARX c x gen k .normal σ):ARX c x gen (.code .skip::k) .normal σ:=fun g a w hx hX r=>wpIn_skip (h g a w hx hX r)
theorem ARX_seq {y z:Code} (h:ARX c x gen (.code y::.code z::k) .normal σ):ARX c x gen (.code (.seq y z)::k) .normal σ:=by
 intro g a w hx hX r
 refine wpIn_seq (wpIn_mono (h g a w hx hX r) ?_)
 intro e a' w' hp
 cases e<;>exact hp
theorem ARX_cond {y z:Code} {t:Operand} {b:Bool} (ht:av c.env σ.tm t=.bool b) (h1:b=true→ARX c x gen (.code y::k) .normal σ)
  (h2:b=false→ARX c x gen (.code z::k) .normal σ):ARX c x gen (.code (.cond t y z)::k) .normal σ:=by
 intro g a w hx hX r
 have hr:=r.av t
 rw [ht] at hr
 have hc:a.eval t=.bool b:=by cases hh:a.eval t<;>rw [hh] at hr<;>cases hr;rfl
 refine wpIn_cond_split hc (fun hb=>?_) (fun hb=>?_)
 ·exact h1 hb g a w hx hX r
 ·exact h2 hb g a w hx hX r
theorem ARX_block {id:Nat} {y:Code} (h:ARX c x gen (.code y::.block id::k) .normal σ):ARX c x gen (.code (.block id y)::k) .normal σ:=by
 intro g a w hx hX r
 refine wpIn_block (wpIn_mono (h g a w hx hX r) ?_)
 intro e a' w' hp
 cases e<;>exact hp
theorem ARX_exit {id:Nat} (h:ARX c x gen k (.exit id) σ):ARX c x gen (.code (.exit id)::k) .normal σ:=fun g a w hx hX r=>wpIn_exit (h g a w hx hX r)
theorem ARX_ret (h:ARX c x gen k .ret σ):ARX c x gen (.code .ret::k) .normal σ:=fun g a w hx hX r=>wpIn_ret (h g a w hx hX r)
theorem ARX_block_end {id:Nat} (h:ARX c x gen k .normal σ):ARX c x gen (.block id::k) .normal σ:=fun g a w hx hX r=>h g a w hx hX r
theorem ARX_block_hit {id:Nat} (h:ARX c x gen k .normal σ):ARX c x gen (.block id::k) (.exit id) σ:=fun g a w hx hX r=>by
 simp only [postX,if_true];exact h g a w hx hX r
theorem ARX_block_pass {id id':Nat} (hne:id'≠id) (h:ARX c x gen k (.exit id') σ):ARX c x gen (.block id::k) (.exit id') σ:=fun g a w hx hX r=>by
 simp only [postX,if_neg hne];exact h g a w hx hX r
theorem ARX_code_exit {id:Nat} {y:Code} (h:ARX c x gen k (.exit id) σ):ARX c x gen (.code y::k) (.exit id) σ:=fun g a w hx hX r=>h g a w hx hX r
theorem ARX_gen {gen':Nat} {e:Exit} (h:∀ gn,(∀ id,σ.h id≠none→id.gen<gn)→ARX c x gn k e σ):ARX c x gen' k e σ :=
 fun g a w hx hX r=>h g.top (fun id hid=>r.1.rel.top id hid) g a w hx hX r
theorem ARX_region {id:Nat} {ops:Array Oper} {draw:Bool} (ok:XOk c.P x) (hm:c.P.follows .mixedOrders=true) (hok:okCode c.n (.region id ops draw)=true)
  (h:aops c.P c.env ops draw gen id ops.toList 0 [] (fun σ'=>ARX c x gen k .normal σ') σ):ARX c x gen (.code (.region id ops draw)::k) .normal σ:=by
 intro g a w hx hX r
 simp only [okCode,Bool.and_eq_true,Bool.or_eq_true,Bool.not_eq_true'] at hok
 obtain ⟨hd,hdr⟩:=hok
 obtain ⟨l,σe,h1,h2,h3,h4⟩:=aops_chain ops.toList 0 [] σ [] (fun j=>by simp) (by simp) (by simp) h
 have hl:l.map (·.1)=List.range ops.size:=by rw [h1];simp
 have hk:∀ g' a' w',Ext g w g' w'→RelD x.ds c.env c.n g' w' a' σe→postX c.P x.F x.E k .normal a' w':=fun g' a' w' hx' r'=>h3 g' a' w' (hx.trans hx') (ok.X _ _ _ _ hx' hX) r'
 cases draw with
 | false =>
  refine wpIn_region ?_
  rw [← hl]
  exact chain_opsIn ok.fn ok.dp ok.cl hd l h2 r hk
 | true =>
  have hdk:drawOk ops=true:=by simpa using hdr
  exact chain_region_drawIn ok.fn ok.dp ok.cl hd hdk hm hl (h4 rfl).1 h2 r hk
end
def xF (c:Ctx):XC:=⟨Fence.wide,[],fun _ _=>True,bodyPostM Fence.wide 0 c.P c.fn c.R⟩
theorem xF_ok (c:Ctx):XOk c.P (xF c):=⟨fun _=>trivial,rfl,fun k args w R h=>callsIn_wide.2 h,fun _ _ _ _ _ _=>trivial⟩
theorem bodyPost_M {c:Ctx} {e:Exit} {a:Act} {w:World} (h:bodyPost c.P c.fn c.R e a w):bodyPostM Fence.wide 0 c.P c.fn c.R e a w:=by
 cases e with
 | normal=>obtain ⟨hd,v,h1,h2⟩:=h;simp only [bodyPostM,hd,LeavesInM,LeavesIn];exact ⟨v,h1,h2⟩
 | ret=>obtain ⟨hd,v,h1,h2⟩:=h;simp only [bodyPostM,hd,LeavesInM,LeavesIn];exact ⟨v,h1,h2⟩
 | panic ch=>obtain ⟨hd,h2⟩:=h;simp only [bodyPostM,hd,LeavesInM,LeavesIn];exact h2
 | outgrown=>exact h
 | exit id=>exact h.elim
 | goto l=>exact h.elim
theorem postX_out {P:Program} {F:Fence} {E:Exit→Act→World→Prop} {e:Exit} (he:e=.ret∨(∃ ch,e=.panic ch)∨e=.outgrown) {a:Act} {w:World} (h:E e a w):∀ k:List It,postX P F E k e a w
 | []=>h
 | .code y::k=>by
  rcases he with rfl|⟨ch,rfl⟩|rfl
  ·exact postX_out (.inl rfl) h k
  ·exact postX_out (.inr (.inl ⟨ch,rfl⟩)) h k
  ·exact postX_out (.inr (.inr rfl)) h k
 | .block id::k=>by
  rcases he with rfl|⟨ch,rfl⟩|rfl
  ·exact postX_out (.inl rfl) h k
  ·exact postX_out (.inr (.inl ⟨ch,rfl⟩)) h k
  ·exact postX_out (.inr (.inr rfl)) h k
 | .inv J::k=>by
  rcases he with rfl|⟨ch,rfl⟩|rfl
  ·exact postX_out (.inl rfl) h k
  ·exact postX_out (.inr (.inl ⟨ch,rfl⟩)) h k
  ·exact postX_out (.inr (.inr rfl)) h k
theorem postI_X {c:Ctx} {gen:Nat} {J:St→Prop} {k:List It} (hk:∀ σ',J σ'→ARX c (xF c) gen k .normal σ') :
  ∀ (ps:List Code) (e:Exit) (a:Act) (w:World),postI c (ps.map .code++[.inv J]) e a w→postX c.P (xF c).F (xF c).E (ps.map .code++k) e a w
 | [],e,a,w,h=>by
  cases e with
  | normal=>obtain ⟨g,σ,h1,h2,h3⟩:=h;exact hk σ h3 g a w h1 trivial (RelD.of h2)
  | ret=>exact postX_out (.inl rfl) (bodyPost_M (show bodyPost c.P c.fn c.R .ret a w from h)) k
  | panic ch=>exact postX_out (.inr (.inl ⟨ch,rfl⟩)) (bodyPost_M (show bodyPost c.P c.fn c.R (.panic ch) a w from h)) k
  | outgrown=>exact postX_out (.inr (.inr rfl)) (bodyPost_M (show bodyPost c.P c.fn c.R .outgrown a w from h)) k
  | exit id=>exact (show bodyPost c.P c.fn c.R (.exit id) a w from h).elim
  | goto l=>exact (show bodyPost c.P c.fn c.R (.goto l) a w from h).elim
 | p::ps,e,a,w,h=>by
  cases e with
  | normal=>exact wpIn_mono (wpIn_wide.2 (show p.wp c.P _ a w from h)) (fun e a w=>postI_X hk ps e a w)
  | _=>exact postI_X hk ps _ a w h
theorem ARX_of_AR {c:Ctx} {gen:Nat} {J:St→Prop} {k:List It} {σ:St} (ps:List Code) (hok:okStk c.n (ps.map .code++[.inv J])=true) (hm:c.P.follows .mixedOrders=true)
  (h:AR c gen (ps.map .code++[.inv J]) .normal σ) (hk:∀ σ',J σ'→ARX c (xF c) gen k .normal σ'):ARX c (xF c) gen (ps.map .code++k) .normal σ :=
 fun g a w hx _ r=>postI_X hk ps .normal a w (h hok hm g a w hx r.st)
theorem ret_of_walkX {P:Program} {env:Nat→Option (List V)} {f:FuncId} {fn:Func} {body:Code} {args:List V} {h:H} {v:V} {h':H}
  (hf : P.funcs[f]? = some fn) (hb : fn.body = some body) (hname : (fn.name == "runtime.NumGoroutine") = false)
  (walk:∀ (g:G) (w:World) (gen:Nat),Rel env g w h→(∀ id,h id≠none→id.gen<gen) →
   ARX ⟨P,env,fn.ntmps,fn,g,w,h,v,h'⟩ (xF ⟨P,env,fn.ntmps,fn,g,w,h,v,h'⟩) gen [.code body] .normal ⟨argTm args,h⟩):Ret P env f args h v h':=by
 refine ⟨⟨fn,hf,by rw [hb];rfl,hname⟩,fun g w vs hr hv=>?_⟩
 have hw:=walk g w g.top hr (fun id hid=>hr.top id hid)
 refine callsIn_wide.1 (callsIn_of_wp_marks (n:=0) hf hb trivial ?_)
 have hst:RelSt env fn.ntmps g w { tmps:=vs++Array.replicate (fn.ntmps - vs.size) undef,defers:=[] } ⟨argTm args,h⟩:=by
  refine ⟨hr,fun t=>?_,by simp;omega,rfl⟩
  simp only [argTm]
  cases ha:args[t]? with
  | none=>exact .undef _
  | some v =>
   obtain ⟨c0,h1,h2⟩:=hv.at ha
   have hlt:t<vs.size:=(Array.getElem?_eq_some_iff.1 h1).1
   have:(vs++Array.replicate (fn.ntmps - vs.size) undef).getD t undef=c0:=by
    simp [Array.getElem?_append_left hlt,h1]
   rw [this];exact h2
 have:=hw g _ w (Ext.refl g w) trivial (RelD.of hst)
 refine wpIn_mono (show body.wpIn _ _ _ _ _ _ from this) ?_
 intro e a' w' hp
 cases e<;>exact hp
structure Turned (B:Nat) (W W':World):Prop where
 size:W.heap.size≤W'.heap.size
 os:W'.os=W.os
 tape:W'.tape=W.tape
 output:W'.output=W.output
 same:∀ b,b<B→W'.heap[b]? = W.heap[b]?
 cell:∀ b o,b<W.heap.size→W'.cell? ⟨b,o,none⟩=W.cell? ⟨b,o,none⟩
 keep:∀ (b:Nat) (vs:Array Value) (ty:TypeId),W.heap[b]? = some (Go.Obj.cells vs ty (0,0))→W'.heap[b]? = some (Go.Obj.cells vs ty (0,0))
theorem turned_alloc {B:Nat} {W:World} {o:Go.Obj} (hB:B≤W.heap.size):Turned B W (W.alloc o):=by
 have hold:∀ b,b<W.heap.size→(W.alloc o).heap[b]? = W.heap[b]? := fun b hb=>Go.RowKit.Below.heap_alloc W o b hb
 refine ⟨by simp,rfl,rfl,rfl,fun b hb=>hold b (by omega),fun b off hb=>?_,fun b vs ty h=>?_⟩
 ·simp only [World.cell?,hold b hb]
 ·rw [hold b (Array.getElem?_eq_some_iff.1 h).1];exact h
theorem turned_put {B l:Nat} {W:World} {o o':Go.Obj} (hB:B≤l) (h:W.heap[l]? = some o) (ho:o.isCells=false) (ho':o'.isCells=false):Turned B W (W.putObj l o'):=by
 have hl:l<W.heap.size:=(Array.getElem?_eq_some_iff.1 h).1
 refine ⟨by simp,rfl,rfl,rfl,fun b hb=>World.putObj_heap_other (by omega),fun b off hb=>?_,fun b vs ty hb=>?_⟩
 ·by_cases e:b=l
  ·subst e
   simp only [World.cell?,World.putObj_heap_same hl,h]
   cases o<;>simp [Go.Obj.isCells] at ho<;>cases o'<;>simp [Go.Obj.isCells] at ho'<;>rfl
  ·simp only [World.cell?,World.putObj_heap_other e]
 ·have e:b≠l:=by
   intro e;subst e;rw [h] at hb;cases hb;simp [Go.Obj.isCells] at ho
  rw [World.putObj_heap_other e];exact hb
def G.wrs (g:G) (f:Nat→Bool):G:={ g with wr:=f }
theorem RV.wrs {g:G} {w:World} {c:Value} {v:V} (h:RV g w c v) (f:Nat→Bool):RV (g.wrs f) w c v :=
 RV.freeze (g:=g) (g':=g.wrs f) (S:=fun id=>g.dom id=true) (fun b=>Nat.le_refl _) (fun id hid=>⟨hid,rfl,rfl⟩) h h.inV
def G.up (g:G) (B:Nat):G:=g.wrs fun b=>g.wr b||decide (B≤b)
theorem Turned.ext {g gi:G} {w W W':World} {B:Nat} (t:Turned B W W') (hB:w.heap.size≤B) (hl:∀ b,w.heap.size≤b→g.lim b=0) (x:Ext g w gi W):Ext g w (gi.up B) W':=by
 refine ⟨t.os.trans x.os,t.tape.trans x.tape,t.output.trans x.output,Nat.le_trans x.size t.size,x.lim,fun b o h=>?_,fun b hb hw=>?_,x.dom,x.top⟩
 ·by_cases hs:b<W.heap.size
  ·rw [t.cell b o hs];exact x.cells b o h
  ·have hw:w.heap.size≤b:=by have:=x.size;omega
   rw [hl b hw] at h;omega
 ·obtain ⟨h1,h2⟩:=x.wr b hb hw
  refine ⟨(t.same b (by omega)).trans h1,?_⟩
  show (gi.wr b||decide (B≤b))=false
  rw [h2];simp;omega
theorem Turned.here {gi:G} {W W':World} {B:Nat} (t:Turned B W W') (hl:∀ b,W.heap.size≤b→gi.lim b=0):Ext (gi.up B) W (gi.up B) W':=by
 refine ⟨t.os,t.tape,t.output,t.size,fun _=>Nat.le_refl _,fun b o h=>?_,fun b hb hw=>?_,fun id h=>⟨h,rfl,.inl rfl⟩,Nat.le_refl _⟩
 ·by_cases hs:b<W.heap.size
  ·exact t.cell b o hs
  ·have:(gi.up B).lim b=gi.lim b:=rfl
   rw [this,hl b (by omega)] at h;omega
 ·refine ⟨t.same b ?_,hw⟩
  have hw':(gi.wr b||decide (B≤b))=false:=hw
  simp at hw';omega
theorem Rel.wrs {env:Nat→Option (List V)} {g:G} {w:World} {h:H} (r:Rel env g w h) (f:Nat→Bool) (hf:∀ b vs ty,w.heap[b]? = some (Go.Obj.cells vs ty (0,0))→g.wr b=true→f b=true):Rel env (g.wrs f) w h:=by
 refine ⟨r.dom,r.top,fun id cs e=>?_,r.inj,fun id n k e=>?_,r.apart,r.apart2,r.limnew,fun k cs e=>(r.glob k cs e).wrs f⟩
 ·obtain ⟨vs,⟨ty,h1⟩,h2,h3,h4,h5⟩:=r.box id cs e
  exact ⟨vs,⟨ty,h1⟩,h2,fun i c v x y=>(h3 i c v x y).wrs f,h4,hf _ vs ty h1 h5⟩
 ·obtain ⟨h1,h2,h3,h4⟩:=r.tok id n k e
  refine ⟨h1,h2,fun hlt=>?_,h4⟩
  obtain ⟨b,off,vs,s1,⟨ty,s2⟩,s3,s4,s5⟩:=h3 hlt
  exact ⟨b,off,vs,s1,⟨ty,s2⟩,s3,s4,hf _ vs ty s2 s5⟩
theorem Turned.rel {env:Nat→Option (List V)} {gi:G} {W W':World} {B:Nat} {h:H} (t:Turned B W W') (r0:Rel env gi W h):Rel env (gi.up B) W' h:=by
 have r:Rel env (gi.up B) W h:=r0.wrs _ (fun b vs ty _ hw=>by rw [hw];rfl)
 have hx:Ext (gi.up B) W (gi.up B) W':=t.here r0.limnew
 refine ⟨r.dom,r.top,fun id cs e=>?_,r.inj,fun id n k e=>?_,r.apart,r.apart2,fun b hb=>r.limnew b (Nat.le_trans t.size hb),fun k cs e=>(r.glob k cs e).mono hx⟩
 ·obtain ⟨vs,⟨ty,h1⟩,h2,h3,h4,h5⟩:=r.box id cs e
  exact ⟨vs,⟨ty,t.keep _ _ _ h1⟩,h2,fun i c v x y=>(h3 i c v x y).mono hx,h4,h5⟩
 ·obtain ⟨h1,h2,h3,h4⟩:=r.tok id n k e
  refine ⟨h1,h2,fun hlt=>?_,h4⟩
  obtain ⟨b,off,vs,s1,⟨ty,s2⟩,s3,s4,s5⟩:=h3 hlt
  exact ⟨b,off,vs,s1,⟨ty,t.keep _ _ _ s2⟩,s3,s4,s5⟩
def G.dn (g:G) (w:World):G:=g.wrs fun b=>g.wr b&&(match w.heap[b]? with|some o=>o.isCells|none=>true)
theorem Rel.dn {env:Nat→Option (List V)} {g:G} {w:World} {h:H} (r:Rel env g w h):Rel env (g.dn w) w h :=
 r.wrs _ (fun b vs ty hb hw=>by rw [hw,hb];rfl)
theorem Ext.dn {g gi:G} {w W:World} (x:Ext g w gi W):Ext g w (gi.dn W) W:=by
 refine ⟨x.os,x.tape,x.output,x.size,x.lim,x.cells,fun b hb hw=>?_,x.dom,x.top⟩
 obtain ⟨h1,h2⟩:=x.wr b hb hw
 exact ⟨h1,by show (gi.wr b&&_)=false;rw [h2];rfl⟩
theorem dn_kept {g g':G} {w w':World} (x:Ext (g.dn w) w g' w') {b:Nat} {o:Go.Obj} (h:w.heap[b]? = some o) (ho:o.isCells=false):w'.heap[b]? = some o∧g'.wr b=false:=by
 have hw:(g.dn w).wr b=false:=by
  show (g.wr b&&(match w.heap[b]? with|some o=>o.isCells|none=>true))=false
  rw [h];simp [ho]
 obtain ⟨h1,h2⟩:=x.wr b (Array.getElem?_eq_some_iff.1 h).1 hw
 exact ⟨h1.trans h,h2⟩
def markD (D:Nat):Deferred:={ target:=.collected D,args:=#[] }
def XD (c:Ctx) (D:Nat) (g:G) (w:World):Prop:=c.w0.heap.size≤D∧g.wr D=false∧w.heap[D]? = some (.deferred (some []))
def xD (c:Ctx) (D:Nat):XC:=⟨Fence.wide,[markD D],XD c D,bodyPostM Fence.wide 0 c.P c.fn c.R⟩
theorem xD_ok (c:Ctx) (D:Nat):XOk c.P (xD c D):=⟨fun _=>trivial,rfl,fun k args w R h=>callsIn_wide.2 h,fun g w g' w' x ⟨h1,h2,h3⟩=>by
 obtain ⟨a1,a2⟩:=x.wr D (Array.getElem?_eq_some_iff.1 h3).1 h2
 exact ⟨h1,a2,a1.trans h3⟩⟩
theorem ARX_doneD {c:Ctx} {D gen:Nat} {σ:St} (hm:c.P.follows .mixedOrders=true) (hl0:∀ b,c.w0.heap.size≤b→c.g0.lim b=0) (h:AR c gen [] .ret σ):ARX c (xD c D) gen [] .ret σ:=by
 intro g a w hx ⟨h1,h2,h3⟩ r
 have t:Turned D w (w.putObj D (.deferred none)):=turned_put (Nat.le_refl _) h3 rfl rfl
 have hx':Ext c.g0 c.w0 (g.up D) (w.putObj D (.deferred none)):=t.ext h1 hl0 hx
 have hr:Rel c.env (g.up D) (w.putObj D (.deferred none)) σ.h:=t.rel r.1.rel
 have hst:RelSt c.env c.n (g.up D) (w.putObj D (.deferred none)) { a with defers:=[] } σ :=
  ⟨hr,fun t'=>((r.1.tm t').wrs _).mono (t.here r.1.rel.limnew),r.1.size,rfl⟩
 obtain ⟨_,v,q1,q2⟩:=h rfl hm _ _ _ hx' hst
 show LeavesInM Fence.wide 0 c.P c.fn a.tmps c.R a.defers .returning w
 rw [r.2]
 refine ⟨by simp,.inl ⟨D,_,rfl,run_takeDeferred h3,?_⟩⟩
 exact ⟨v,q1,q2⟩
structure BackOk (P:Program) (gf:Nat):Prop where
 call:Callable P gf
 go:∀ (l pb po:Nat) (a:Option Addr) (len cap:Nat) (elm:Nat→Value) (K:Nat→World→Prop) (Kx:World→Prop),len * 8≤140737488351232 →
  (len≠0→∃ b off,a=some ⟨b,off,none⟩) →
  (∀ i W,i≤len→K i W→W.cell? ⟨pb,po,none⟩=some (.slice a len cap)∧∀ b off,a=some ⟨b,off,none⟩→∀ j,j<len→W.cell? ⟨b,off+j,none⟩=some (elm j)) →
  (∀ (i:Nat) W,i<len→K (i+1) W→YieldAt Fence.wide (0 - 1) P l #[.int .i64 (i:Int),elm i] W fun e W'=>(e=.returned (.bool true)∧K i W')∨(e=.returned (.bool false)∧Kx W')) →
  ∀ W,K len W→CallsIn Fence.wide 0 P gf #[.func (.yield l) #[] #[],.pointer (some ⟨pb,po,none⟩)] W fun e W'=>(∃ v,e=.returned v)∧(K 0 W'∨Kx W')
theorem rv_anyCap {g:G} {w:World} {c:Value} {cc:Cap} {es:List (List V)} (h:RV g w c (.sl cc es)):RV g w c (.sl .any es):=by
 cases h with
 | sl a cap _ _ k cell hk hcap hrun hr hc=>exact .sl a cap .any es k cell hk hcap hrun hr trivial
theorem pure_boxFn {P:Program} {env:Nat→Option (List V)} {f gf:Nat} {ty:TypeId} {cc:Cap} {es:List (List V)} (hf:Callable P f)
  (h:∀ a len cap w,Calls P f #[.slice a len cap] w fun e w'=>e=.returned (.func (.func gf) #[] #[.pointer (some ⟨w.heap.size,0,none⟩)])∧w'=w.alloc (.cells #[.slice a len cap] ty)) :
  Pure P env f [.sl cc es] (.fn (.func gf) [] [.el [.sl .any es] 0]):=by
 intro hh
 refine ⟨hf,fun g w vs r hv=>?_⟩
 obtain ⟨c0,h1,h2⟩:=hv.at (show ([V.sl cc es]:List V)[0]? = some _ from rfl)
 have hvs:vs=#[c0]:=by
  have:=hv.1
  apply Array.ext
  ·simpa using this
  ·intro i hi hi2
   simp at hi2
   subst hi2
   have:=(Array.getElem?_eq_some_iff.1 h1).2
   simpa using this
 subst hvs
 have h2':=rv_anyCap h2
 cases h2 with
 | sl a cap _ _ k cell hk hcap hrun hr hc =>
  refine (h a es.length cap w).mono ?_
  rintro e w' ⟨rfl,rfl⟩
  obtain ⟨g',hx,hr',hl⟩:=new_row r #[Value.slice a es.length cap] ty
  refine ⟨_,g',rfl,hx,hr',.fn _ _ _ _ _ (by simp) (by simp) (fun i c v h _=>by simp at h) (fun i c v hc hv=>?_)⟩
  match i with
  | 0 =>
   simp at hc hv
   subst hc;subst hv
   refine .el w.heap.size 0 _ 0 (fun _=>.slice a es.length cap) (by rw [hl];simp) (fun i hi=>?_) (fun i v hv=>?_)
   ·simp at hi
    subst hi
    rw [World.cell?_alloc_new];rfl
   ·match i with
    | 0=>simp at hv;subst hv;exact h2'.mono hx
    | i+1=>simp at hv
  | i+1=>simp at hc
theorem pure_boxFn2 {P:Program} {env:Nat→Option (List V)} {f gf:Nat} {ty:TypeId} {cs:List V} (hf:Callable P f)
  (h:∀ (vs:Array Value),vs.size=cs.length→∀ w,Calls P f #[.agg vs] w fun e w'=>e=.returned (.func (.func gf) #[] #[.pointer (some ⟨w.heap.size,0,none⟩)])∧w'=w.alloc (.cells vs ty)) :
  Pure P env f [.agg cs] (.fn (.func gf) [] [.el cs 0]):=by
 intro hh
 refine ⟨hf,fun g w vs r hv=>?_⟩
 obtain ⟨c0,h1,h2⟩:=hv.at (show ([V.agg cs]:List V)[0]? = some _ from rfl)
 have hvs:vs=#[c0]:=by
  have:=hv.1
  apply Array.ext
  ·simpa using this
  ·intro i hi hi2
   simp at hi2
   subst hi2
   have:=(Array.getElem?_eq_some_iff.1 h1).2
   simpa using this
 subst hvs
 cases h2 with
 | agg us _ hs hr =>
  refine (h us hs w).mono ?_
  rintro e w' ⟨rfl,rfl⟩
  obtain ⟨g',hx,hr',hl⟩:=new_row r us ty
  refine ⟨_,g',rfl,hx,hr',.fn _ _ _ _ _ (by simp) (by simp) (fun i c v h _=>by simp at h) (fun i c v hc hv=>?_)⟩
  match i with
  | 0 =>
   simp at hc hv
   subst hc;subst hv
   refine .el w.heap.size 0 _ 0 (fun i=>us[i]?.getD undef) (by rw [hl,hs];omega) (fun i hi=>?_) (fun i v hv=>?_)
   ·rw [Nat.zero_add,World.cell?_alloc_new,Array.getElem?_eq_getElem (by rw [hs];exact hi)];simp
   ·have hlt:=(List.getElem?_eq_some_iff.1 hv).1
    have hu:us[i]? = some us[i]:=Array.getElem?_eq_getElem (by rw [hs];exact hlt)
    rw [hu]
    exact (hr i _ v hu hv).mono hx
  | i+1=>simp at hc
theorem flat_ones:∀ l:List V,(l.map fun v=>[v]).flatten=l
 | []=>rfl
 | v::l=>by rw [List.map_cons,List.flatten_cons,flat_ones l];rfl
def XR (g:G) (w:World) (D:Nat) (r:Loop) (g':G) (w':World):Prop :=
 Ext g w g' w'∧g'.wr D=false∧g'.wr (D+1)=false∧w'.heap[D]? = some (.deferred (some []))∧w'.heap[D+1]? = some (.loop r)
theorem XR.ext {g:G} {w:World} {D:Nat} {r:Loop} {g1:G} {w1:World} {g2:G} {w2:World} (x:Ext g1 w1 g2 w2) (h:XR g w D r g1 w1):XR g w D r g2 w2:=by
 obtain ⟨h0,h1,h2,h3,h4⟩:=h
 obtain ⟨a1,a2⟩:=x.wr D (Array.getElem?_eq_some_iff.1 h3).1 h1
 obtain ⟨b1,b2⟩:=x.wr (D+1) (Array.getElem?_eq_some_iff.1 h4).1 h2
 exact ⟨h0.trans x,a2,b2,a1.trans h3,b1.trans h4⟩
theorem XR.of {g:G} {w:World} {D:Nat} {r:Loop} {g1:G} {w1:World} (x:Ext g w g1 w1) (h3:w1.heap[D]? = some (.deferred (some []))) (h4:w1.heap[D+1]? = some (.loop r)):XR g w D r (g1.dn w1) w1:=by
 refine ⟨x.dn,?_,?_,h3,h4⟩
 ·exact (dn_kept (Ext.refl _ _) h3 rfl).2
 ·exact (dn_kept (Ext.refl _ _) h4 rfl).2
def xRound (c:Ctx) (g:G) (w:World) (D:Nat) (r:Loop) (E:Exit→Act→World→Prop):XC:=⟨Fence.wide.inRound (D+1),[],XR g w D r,E⟩
theorem xRound_ok (c:Ctx) (g:G) (w:World) (D:Nat) (r:Loop) (E:Exit→Act→World→Prop):XOk c.P (xRound c g w D r E) :=
 ⟨fun _=>trivial,rfl,fun k args w R h=>(show CallsIn Fence.wide (0 - 1) c.P k args w R from callsIn_wide.2 h),fun _ _ _ _ x h=>h.ext x⟩
def endA (c:Ctx) (xb:XC) (g:G) (w:World) (D:Nat) (r:Loop) (gn:Nat) (body:Code):Exit→Act→World→Prop :=
 fun e a w'=>e=.normal∧∃ g' σ',Ext c.g0 c.w0 g' w'∧XR g w D r g' w'∧RelD [] c.env c.n g' w' a σ'∧ARX c xb gn [.code body] .normal σ'
def endB (c:Ctx) (g:G) (w:World) (D:Nat) (r:Loop) (J:H→Prop) (Jx:Option Nat→H→Prop):Exit→Act→World→Prop :=
 fun e a w'=>∃ g' h',XR g w D r g' w'∧Rel c.env g' w' h'∧(match e with | .normal=>J h' | .exit id=>Jx (some id) h' | .ret=>Jx none h'|_=>False)
def jumpC:Option Nat→Code
 | some id=>.exit id
 | none=>.ret
def jumpE:Option Nat→Exit
 | some id=>.exit id
 | none=>.ret
theorem ARX_out {c:Ctx} {x:XC} {gen:Nat} {k:List It} {σ:St} (h:ARX c x gen [] .ret σ):ARX c x gen k .ret σ :=
 fun g a w hx hX r=>postX_out (.inl rfl) (show x.E .ret a w from h g a w hx hX r) k
def ItOk (P:Program) (gf:Nat) (lb:Array Value) (g:G) (w:World) (n:Nat) (vals:Nat→List Value):Prop :=
 ∀ (l:Nat) (K:Nat→World→Prop) (Kx:World→Prop),(∀ i W,K i W→∃ gi,Ext g w gi W)→(∀ i W o,K i W→K i (W.alloc o))→(∀ i W,K i W→K i W.drew) →
  (∀ (i:Nat) W,i<n→K (i+1) W→YieldAt Fence.wide (0 - 1) P l (vals i).toArray W fun e W'=>(e=.returned (.bool true)∧K i W')∨(e=.returned (.bool false)∧Kx W')) →
  ∀ W,K n W→CallsIn Fence.wide 0 P gf (#[.func (.yield l) #[] #[]]++lb) W fun e W'=>(∃ v,e=.returned v)∧(K 0 W'∨Kx W')
def updL (tm:Nat→V):List Nat→List V→(Nat→V)
 | p::ps,v::vs=>updL (upd tm (some p) v) ps vs
 | _,_=>tm
theorem RelSt.putL {env:Nat→Option (List V)} {n:Nat} {g:G} {w:World}:∀ (ps:List Nat) (xs:List Value) (vs:List V) {a:Act} {tm:Nat→V} {h:H},RelSt env n g w a ⟨tm,h⟩→(∀ p∈ps,p<n)→xs.length=ps.length →
  (∀ (j:Nat) x v,xs[j]? = some x→vs[j]? = some v→RV g w x v)→vs.length=ps.length→RelSt env n g w { a with tmps:=(ps.zip xs).foldl (fun tmps (t,a)=>tmps.setIfInBounds t a) a.tmps } ⟨updL tm ps vs,h⟩
 | [],_,_,a,tm,h,r,_,_,_,_=>r
 | p::ps,[],_,a,tm,h,r,_,hl,_,_=>by simp at hl
 | p::ps,x::xs,[],a,tm,h,r,_,_,_,hl=>by simp at hl
 | p::ps,x::xs,v::vs,a,tm,h,r,hp,hl,hv,hl2=>by
  have r1:=r.put (d:=some p) (Ext.refl _ _) (by intro t e;cases e;exact hp p (by simp)) r.rel (hv 0 x v rfl rfl)
  have:=RelSt.putL ps xs vs r1 (fun q hq=>hp q (by simp [hq])) (by simpa using hl) (fun j y u hy hu=>hv (j+1) y u (by simpa using hy) (by simpa using hu)) (by simpa using hl2)
  exact this
theorem ext_drew {g:G} {w:World}:Ext g w g w.drew :=
 ⟨rfl,rfl,rfl,Nat.le_refl _,fun _=>Nat.le_refl _,fun _ _ _=>rfl,fun _ _ h=>⟨rfl,h⟩,fun _ h=>⟨h,rfl,.inl rfl⟩,Nat.le_refl _⟩
theorem ARX_rf {c:Ctx} {gen:Nat} {k:List It} {σ:St} {f gf n:Nat} {ps:List Nat} {vv:Nat→List V} {assign body:Code} (hcall:Callable c.P gf)
  (hps:∀ p∈ps,p<c.n) (hvv:∀ i,i<n→(vv i).length=ps.length)
  (hit:∀ g w x,RV g w x (σ.tm f)→∃ lb vals,x=.func (.func gf) #[] lb∧(∀ i,i<n→(vals i).length=ps.length∧∀ (j:Nat) x v,(vals i)[j]? = some x→(vv i)[j]? = some v→RV g w x v)∧ItOk c.P gf lb g w n vals)
  (J:Nat→H→Prop) (Jx:Option Nat→H→Prop) (h0:J n σ.h)
  (hround:∀ (xa xb:XC) (gn i:Nat) (hi:H),XOk c.P xa→XOk c.P xb→gen≤gn→i<n→J (i+1) hi →
   (∀ σ' gn',ARX c xb gn' [.code body] .normal σ'→ARX c xa gn' [] .normal σ')→(∀ gn' σ',J i σ'.h→ARX c xb gn' [] .normal σ')→(∀ gn' id σ',Jx id σ'.h→ARX c xb gn' [] (jumpE id) σ') →
   ARX c xa gn [.code assign] .normal ⟨updL σ.tm ps (vv i),hi⟩)
  (hdone:∀ D h',J 0 h'→ARX c (xD c D) gen k .normal ⟨σ.tm,h'⟩)
  (hstop:∀ D id h',Jx id h'→ARX c (xD c D) gen k (jumpE id) ⟨σ.tm,h'⟩) :
  ARX c (xF c) gen (.code (.rangeFunc (.tmp f) ps.toArray assign body)::k) .normal σ:=by
 intro g a w hx _ r0
 have r:=r0.st
 obtain ⟨fn0,hc1,hc2,hc3⟩:=hcall
 have hc3' : ¬ (fn0.name = "runtime.NumGoroutine") := by simpa using hc3
 have hc2':fn0.body≠none:=by intro e;simp [e] at hc2
 obtain ⟨lb,vals,hev,hvals,hgo⟩:=hit g w _ (r.tm f)
 have hdef:a.defers=[]:=r.defers
 have hlim0:∀ b,w.heap.size≤b→g.lim b=0:=r.rel.limnew
 refine wpIn_rangeFunc ?_
 intro fn hfn
 obtain ⟨D,hD⟩:∃ D,w.heap.size=D:=⟨_,rfl⟩
 obtain ⟨rec,hrec⟩:∃ rec:LoopState→Option Code→Loop,rec=fun st pe=>{ state:=st,pending:=pe,fn,tmps:=a.tmps,params:=ps.toArray,assign,body,defers:=D }:=⟨_,rfl⟩
 obtain ⟨W1,hW1⟩:∃ W1,(w.alloc (.deferred (some []))).alloc (.loop (rec .ready none))=W1:=⟨_,rfl⟩
 obtain ⟨K,hK⟩:∃ K:Nat→World→Prop,K=fun i W=>∃ gi hi,Ext g w gi W∧Rel c.env gi W hi∧J i hi∧W.heap[D]? = some (.deferred (some []))∧W.heap[D+1]? = some (.loop (rec .ready none)):=⟨_,rfl⟩
 obtain ⟨Kx,hKx⟩:∃ Kx:World→Prop,Kx=fun W=>∃ id gi hi,Ext g w gi W∧Rel c.env gi W hi∧Jx id hi∧W.heap[D]? = some (.deferred (some []))∧W.heap[D+1]? = some (.loop (rec .done (some (jumpC id)))):=⟨_,rfl⟩
 have hK1:K n W1:=by
  have t1:Turned D w (w.alloc (.deferred (some []))):=turned_alloc (by omega)
  have x1:=t1.ext (by omega) hlim0 (Ext.refl g w)
  have q1:=t1.rel r.rel
  have t2:Turned D (w.alloc (.deferred (some []))) W1:=by rw [← hW1];exact turned_alloc (by simp;omega)
  have x2:=t2.ext (by omega) hlim0 x1
  have q2:=t2.rel q1
  rw [hK]
  refine ⟨_,_,x2,q2,h0,?_,?_⟩
  ·rw [← hW1]
   refine (Go.RowKit.Below.heap_alloc _ _ _ (by simp;omega)).trans ?_
   rw [← hD];exact World.alloc_heap_new w _
  ·rw [← hW1]
   have:=World.alloc_heap_new (w.alloc (.deferred (some []))) (.loop (rec .ready none))
   rwa [World.size_alloc,hD] at this
 refine ⟨D+1,[markD D],W1,{ target:=.fn (.func gf) lb,args:=#[.func (.yield (D+1)) #[] #[]] },W1,gf,
  #[.func (.yield (D+1)) #[] #[]]++lb,W1,?_,?_,fun _ _=>trivial,?_,fun h=>by simp [xF,Fence.wide] at h,?_⟩
 ·rw [← hW1,hrec,← hD];exact run_enterLoop_outer _ _ _ _ _
 ·have he:a.eval (.tmp f)=.func (.func gf) #[] lb:=hev
  simp only [resolve,he]
  simp [go_sem,Deferred.ofValue,Act.eval]
 ·simp [invoke,callFunc,hc1,hc2',hc3']
 ·refine (hgo (D+1) K Kx ?_ ?_ ?_ ?_ W1 hK1).mono ?_
  ·intro i W hKi
   rw [hK] at hKi
   obtain ⟨gi,hh,x,_⟩:=hKi
   exact ⟨gi,x⟩
  ·intro i W o hKi
   rw [hK] at hKi ⊢
   obtain ⟨gi,hh,x,q,hJ,hdf,hlp⟩:=hKi
   have hsz:=(Array.getElem?_eq_some_iff.1 hlp).1
   have t:Turned D W (W.alloc o):=turned_alloc (by omega)
   exact ⟨_,hh,t.ext (by omega) hlim0 x,t.rel q,hJ,(Go.RowKit.Below.heap_alloc W o _ (Array.getElem?_eq_some_iff.1 hdf).1).trans hdf,(Go.RowKit.Below.heap_alloc W o _ hsz).trans hlp⟩
  ·intro i W hKi
   rw [hK] at hKi ⊢
   obtain ⟨gi,hh,x,q,hJ,hdf,hlp⟩:=hKi
   exact ⟨gi,hh,x.trans ext_drew,q.drew,hJ,hdf,hlp⟩
  ·
   intro i W hi hKi
   rw [hK] at hKi
   obtain ⟨gi,hh,x,q,hJ,hdf,hlp⟩:=hKi
   obtain ⟨hv1,hv2⟩:=hvals i hi
   have hy:=run_yield (P:=c.P) (args:=(vals i).toArray) hlp (by rw [hrec];simpa using hv1)
   refine ⟨(rec .ready none).fn,_,(rec .ready none).assign,(rec .ready none).body,hy,roundIn_of_wpIn trivial ?_⟩
   clear hy
   obtain ⟨xb,hxb⟩:∃ xb,xb=xRound c g w D { rec .ready none with state:=.busy } (endB c g w D { rec .ready none with state:=.busy } (J i) Jx):=⟨_,rfl⟩
   have hokb:XOk c.P xb:=by rw [hxb];exact xRound_ok _ _ _ _ _ _
   have h1:=hround (xRound c g w D (rec .ready none) (endA c xb g w D (rec .ready none) gen body)) xb gen i hh (xRound_ok _ _ _ _ _ _) hokb (Nat.le_refl _) hi hJ
    (fun σ' gn' h g' a' w' hx' hX' r'=>⟨rfl,g',σ',hx',hX',r',h⟩)
    (fun gn' σ' h g' a' w' hx' hX' r'=>by
     rw [hxb] at hX' ⊢
     exact ⟨g',σ'.h,hX',r'.1.rel,h⟩)
    (fun gn' id σ' h g' a' w' hx' hX' r'=>by
     rw [hxb] at hX' ⊢
     cases id<;>exact ⟨g',σ'.h,hX',r'.1.rel,h⟩)
   have hX0:XR g w D (rec .ready none) (gi.dn W) W:=XR.of x hdf hlp
   have hst:RelD [] c.env c.n (gi.dn W) W { tmps:=(ps.zip (vals i)).foldl (fun tmps (t,a)=>tmps.setIfInBounds t a) a.tmps,defers:=[] } ⟨updL σ.tm ps (vv i),hh⟩:=by
    have s0:RelSt c.env c.n (gi.dn W) W a ⟨σ.tm,hh⟩:=⟨q.dn,fun t=>(r.tm t).mono hX0.1,r.size,hdef⟩
    have s1:=RelSt.putL ps (vals i) (vv i) s0 hps hv1 (fun j x v hx hv=>(hv2 j x v hx hv).mono hX0.1) (hvv i hi)
    rw [hdef] at s1
    exact RelD.of s1
   have h2:=h1 _ _ W (hx.trans hX0.1) hX0 hst
   have etm:(((rec .ready none).params.zip (vals i).toArray).foldl (fun tmps (t,a)=>tmps.setIfInBounds t a) (rec .ready none).tmps)=(ps.zip (vals i)).foldl (fun tmps (t,a)=>tmps.setIfInBounds t a) a.tmps:=by
    rw [hrec];simp
   have eas:(rec .ready none).assign=assign:=by rw [hrec]
   have ebo:(rec .ready none).body=body:=by rw [hrec]
   rw [etm,eas,ebo]
   refine wpIn_mono (show assign.wpIn (Fence.wide.inRound (D+1)) 0 c.P _ _ _ from h2) ?_
   intro e a1 w1 hp
   have hp':endA c xb g w D (rec .ready none) gen body e a1 w1:=by cases e<;>exact hp
   obtain ⟨rfl,g1,σ1,hx1,hX1,r1,hbody⟩:=hp'
   obtain ⟨y0,y1,y2,y3,y4⟩:=hX1
   refine ⟨_,run_beginRound y4 (by rw [hrec]),?_⟩
   have hD1:D+1<w1.heap.size:=(Array.getElem?_eq_some_iff.1 y4).1
   have t:Turned D w1 (w1.putObj (D+1) (.loop { rec .ready none with state:=.busy })):=turned_put (by omega) y4 rfl rfl
   have x3:=t.ext (by omega) hlim0 y0
   have q3:=t.rel r1.1.rel
   have l3:(w1.putObj (D+1) (.loop { rec .ready none with state:=.busy })).heap[D+1]? = some (.loop { rec .ready none with state:=.busy }):=World.putObj_heap_same hD1
   have d3:(w1.putObj (D+1) (.loop { rec .ready none with state:=.busy })).heap[D]? = some (.deferred (some [])):=(World.putObj_heap_other (by omega)).trans y3
   have X3:=XR.of x3 d3 l3
   have hst3:RelD [] c.env c.n ((g1.up D).dn (w1.putObj (D+1) (.loop { rec .ready none with state:=.busy }))) (w1.putObj (D+1) (.loop { rec .ready none with state:=.busy })) a1 σ1:=by
    have r1':=r1.st
    refine RelD.of ⟨q3.dn,fun t'=>?_,r1'.size,r1'.defers⟩
    exact (((r1'.tm t').wrs _).mono (t.here r1'.rel.limnew)).mono (Ext.refl _ _).dn
   have h4:=hbody _ a1 _ (hx.trans X3.1) (by rw [hxb];exact X3) (by rw [hxb];exact hst3)
   rw [hxb] at h4
   refine wpIn_mono (show body.wpIn (Fence.wide.inRound (D+1)) 0 c.P _ _ _ from h4) ?_
   intro e a4 w4 hp4
   have hp4':endB c g w D { rec .ready none with state:=.busy } (J i) Jx e a4 w4:=by cases e<;>exact hp4
   obtain ⟨g4,h4',⟨z0,z1,z2,z3,z4⟩,q4,hJ4⟩:=hp4'
   have hD4:D+1<w4.heap.size:=(Array.getElem?_eq_some_iff.1 z4).1
   have fin:∀ (jump:Option Code) (rr:Loop),rr={ ({ rec .ready none with state:=.busy }:Loop) with state:=if jump.isNone then .ready else .done,pending:=jump } →
     (Instr.endRound (D+1) jump).run c.P w4=.ok (.bool jump.isNone) (w4.putObj (D+1) (.loop rr))∧Ext g w (g4.up D) (w4.putObj (D+1) (.loop rr))∧Rel c.env (g4.up D) (w4.putObj (D+1) (.loop rr)) h4' ∧
     (w4.putObj (D+1) (.loop rr)).heap[D]? = some (.deferred (some []))∧(w4.putObj (D+1) (.loop rr)).heap[D+1]? = some (.loop rr):=by
    intro jump rr hrr
    have t4:Turned D w4 (w4.putObj (D+1) (.loop rr)):=turned_put (by omega) z4 rfl rfl
    refine ⟨?_,t4.ext (by omega) hlim0 z0,t4.rel q4,(World.putObj_heap_other (by omega)).trans z3,World.putObj_heap_same hD4⟩
    rw [hrr];exact run_endRound jump z4
   cases e with
   | normal =>
    obtain ⟨f1,f2,f3,f4,f5⟩:=fin none (rec .ready none) (by rw [hrec];rfl)
    refine ⟨_,_,f1,.inl ⟨rfl,?_⟩⟩
    rw [hK]
    exact ⟨_,_,f2,f3,hJ4,f4,f5⟩
   | exit id =>
    obtain ⟨f1,f2,f3,f4,f5⟩:=fin (some (.exit id)) (rec .done (some (.exit id))) (by rw [hrec];rfl)
    refine ⟨_,_,f1,.inr ⟨rfl,?_⟩⟩
    rw [hKx]
    exact ⟨some id,_,_,f2,f3,hJ4,f4,f5⟩
   | ret =>
    obtain ⟨f1,f2,f3,f4,f5⟩:=fin (some .ret) (rec .done (some .ret)) (by rw [hrec];rfl)
    refine ⟨_,_,f1,.inr ⟨rfl,?_⟩⟩
    rw [hKx]
    exact ⟨none,_,_,f2,f3,hJ4,f4,f5⟩
   | goto t=>exact hJ4.elim
   | panic ch=>exact hJ4.elim
   | outgrown=>exact hJ4.elim
  ·
   rintro e W2 ⟨⟨v,rfl⟩,hend⟩
   have hw0:c.w0.heap.size≤D:=by rw [← hD];exact hx.size
   have tail:∀ (gi:G) (hi:H) (rr:Loop) ,Ext g w gi W2→Rel c.env gi W2 hi→W2.heap[D]? = some (.deferred (some []))→W2.heap[D+1]? = some (.loop rr)→rr.state≠.busy →
     ∃ g5 w5,(Instr.endLoop (D+1)).run c.P W2=.ok rr.pending w5∧Ext c.g0 c.w0 g5 w5∧XD c D g5 w5∧RelD [markD D] c.env c.n g5 w5 { a with defers:=[markD D]++a.defers } ⟨σ.tm,hi⟩:=by
    intro gi hi rr x q hdf hlp hst
    have hD2:D+1<W2.heap.size:=(Array.getElem?_eq_some_iff.1 hlp).1
    have t5:Turned D W2 (W2.putObj (D+1) (.loop { rr with state:=.exhausted })):=turned_put (by omega) hlp rfl rfl
    have x5:=(t5.ext (by omega) hlim0 x).dn
    have q5:=(t5.rel q).dn
    have d5:(W2.putObj (D+1) (.loop { rr with state:=.exhausted })).heap[D]? = some (.deferred (some [])):=(World.putObj_heap_other (by omega)).trans hdf
    refine ⟨_,_,run_endLoop hlp hst,hx.trans x5,⟨hw0,(dn_kept (Ext.refl _ _) d5 rfl).2,d5⟩,⟨⟨q5,fun t'=>(r.tm t').mono x5,r.size,rfl⟩,by simp [hdef]⟩⟩
   rcases hend with hend|hend
   ·rw [hK] at hend
    obtain ⟨gi,hi,x,q,hJ,hdf,hlp⟩:=hend
    obtain ⟨g5,w5,e1,e2,e3,e4⟩:=tail gi hi _ x q hdf hlp (by rw [hrec];simp)
    have e1':(Instr.endLoop (D+1)).run c.P W2=.ok none w5:=by rw [e1,hrec]
    exact ⟨none,w5,e1',hdone D hi hJ g5 _ w5 e2 e3 e4⟩
   ·rw [hKx] at hend
    obtain ⟨id,gi,hi,x,q,hJ,hdf,hlp⟩:=hend
    obtain ⟨g5,w5,e1,e2,e3,e4⟩:=tail gi hi _ x q hdf hlp (by rw [hrec];simp)
    have e1':(Instr.endLoop (D+1)).run c.P W2=.ok (some (jumpC id)) w5:=by rw [e1,hrec]
    refine ⟨some (jumpC id),w5,e1',?_⟩
    have:=hstop D id hi hJ g5 _ w5 e2 e3 e4
    cases id with
    | some id=>exact wpIn_exit this
    | none=>exact wpIn_ret this
theorem ARX_back {c:Ctx} {gen:Nat} {k:List It} {σ:St} {f p1 p2 gf:Nat} {vs:List V} {assign body:Code} (hb:BackOk c.P gf)
  (hf:σ.tm f=.fn (.func gf) [] [.el [.sl .any (vs.map fun v=>[v])] 0]) (hlen:vs.length≤1000000) (hp1:p1<c.n) (hp2:p2<c.n)
  (J:Nat→H→Prop) (Jx:Option Nat→H→Prop) (h0:J vs.length σ.h)
  (hround:∀ (xa xb:XC) (gn i:Nat) (v:V) (hi:H),XOk c.P xa→XOk c.P xb→gen≤gn→i<vs.length→vs[i]? = some v→J (i+1) hi →
   (∀ σ' gn',ARX c xb gn' [.code body] .normal σ'→ARX c xa gn' [] .normal σ')→(∀ gn' σ',J i σ'.h→ARX c xb gn' [] .normal σ')→(∀ gn' id σ',Jx id σ'.h→ARX c xb gn' [] (jumpE id) σ') →
   ARX c xa gn [.code assign] .normal ⟨upd (upd σ.tm (some p1) (.int .i64 i)) (some p2) v,hi⟩)
  (hdone:∀ D h',J 0 h'→ARX c (xD c D) gen k .normal ⟨σ.tm,h'⟩)
  (hstop:∀ D id h',Jx id h'→ARX c (xD c D) gen k (jumpE id) ⟨σ.tm,h'⟩) :
  ARX c (xF c) gen (.code (.rangeFunc (.tmp f) #[p1,p2] assign body)::k) .normal σ:=by
 refine ARX_rf (ps:=[p1,p2]) (n:=vs.length) (vv:=fun i=>[.int .i64 i,vs.getD i .undef]) hb.call (by simp [hp1,hp2]) (fun i hi=>rfl) ?_ J Jx h0
  (fun xa xb gn i hi oa ob hg hlt hJ h1 h2 h3=>?_) hdone hstop
 ·intro g w cv hfv
  rw [hf] at hfv
  obtain ⟨pb,po,ao,cap,hev,hlim,hpc,hne,elm,hel,helv⟩:∃ pb po ao cap,cv=.func (.func gf) #[] #[.pointer (some ⟨pb,po,none⟩)]∧po<g.lim pb∧w.cell? ⟨pb,po,none⟩=some (.slice ao vs.length cap) ∧
    (vs.length≠0→∃ b off,ao=some ⟨b,off,none⟩) ∧
    ∃ elm:Nat→Value,(∀ b off,ao=some ⟨b,off,none⟩→∀ j,j<vs.length→off+j<g.lim b∧w.cell? ⟨b,off+j,none⟩=some (elm j))∧∀ j v,vs[j]? = some v→RV g w (elm j) v:=by
   cases hfv with
   | fn _ fs cs _ _ h1 h2 _ r2 =>
    have e1:fs=#[]:=by simpa using h1
    subst e1
    obtain ⟨c1,rfl⟩:∃ c1,cs=#[c1]:=by
     have h2':cs.size=1:=h2
     refine ⟨cs[0],?_⟩
     apply Array.ext
     ·simpa using h2'
     ·intro i hi hi2;simp at hi2;subst hi2;rfl
    have hq:=r2 0 c1 _ rfl rfl
    cases hq with
    | el b off cs o cell hl hrun hr =>
     have hz:=hrun 0 (by simp)
     have hrz:=hr 0 _ rfl
     generalize hcz:cell 0=cz at hz hrz
     cases hrz with
     | sl ao cap _ _ kk cell2 hk hcap hrun2 hr2 hc =>
      have hlenv:(vs.map fun v=>[v]).length=vs.length:=by simp
      have hfl:(vs.map fun v=>[v]).flatten=vs:=flat_ones vs
      rw [hfl] at hr2
      rw [hlenv] at hcap hrun2 hz
      have hk1:vs≠[]→kk=1:=by
       intro hne
       cases vs with
       | nil=>exact absurd rfl hne
       | cons v l=>exact (hk [v] (by simp)).symm
      refine ⟨b,off+0,ao,cap,by simp,by simp at hl;omega,by simpa using hz,?_,cell2,?_,fun j v h=>hr2 j v h⟩
      ·intro hne
       have hne':vs≠[]:=by intro e;subst e;simp at hne
       obtain ⟨b2,off2,e,_,_⟩:=hrun2 (by simpa using hne')
       exact ⟨b2,off2,e⟩
      ·intro b2 off2 e j hj
       have hne':vs≠[]:=by intro e;subst e;simp at hj
       obtain ⟨b3,off3,e3,h4,h5⟩:=hrun2 (by simpa using hne')
       rw [hk1 hne',Nat.mul_one] at h4 h5
       rw [e] at e3
       cases e3
       exact ⟨by omega,h5 j hj⟩
  refine ⟨_,fun i=>[.int .i64 (i:Int),elm i],hev,fun i hi=>⟨rfl,fun j x v hx hv=>?_⟩,?_⟩
  ·match j with
   | 0=>simp at hx hv;subst hx;subst hv;exact .int _ _
   | 1 =>
    simp [List.getElem?_eq_getElem hi] at hx hv
    subst hx;subst hv
    exact helv i _ (List.getElem?_eq_getElem hi)
   | j+2=>simp at hx
  ·intro l K Kx hext _ _ hY W hK
   refine hb.go l pb po ao vs.length cap elm K Kx (by omega) hne (fun i W hi hKi=>?_) hY W hK
   obtain ⟨gi,x⟩:=hext i W hKi
   refine ⟨(x.cells _ _ hlim).trans hpc,fun b off e j hj=>?_⟩
   obtain ⟨h1,h2⟩:=hel b off e j hj
   exact (x.cells _ _ h1).trans h2
 ·have hv:vs[i]? = some vs[i]:=List.getElem?_eq_getElem hlt
  have:=hround xa xb gn i vs[i] hi oa ob hg hlt hv hJ h1 h2 h3
  have e:vs.getD i .undef=vs[i]:=by simp [hlt]
  simp only [updL,e]
  exact this
structure NodeOk (P:Program) (gf:Nat):Prop where
 call:Callable P gf
 go:∀ (l pb po:Nat) (a:Option Addr) (cap:Nat) (K:Nat→World→Prop) (Kx:World→Prop),(∀ i W o,K i W→K i (W.alloc o))→(∀ i W,K i W→K i W.drew) →
  (∀ i W,K i W→W.cell? ⟨pb,po,none⟩=some (.int .i64 1)∧W.cell? ⟨pb,po+1,none⟩=some (.slice a 0 cap)) →
  (∀ W,K 1 W→YieldAt Fence.wide (0 - 1) P l #[.agg #[.int .i64 1,.slice a 0 cap]] W fun e W'=>(e=.returned (.bool true)∧K 0 W')∨(e=.returned (.bool false)∧Kx W')) →
  ∀ W,K 1 W→CallsIn Fence.wide 0 P gf #[.func (.yield l) #[] #[],.pointer (some ⟨pb,po,none⟩)] W fun e W'=>(∃ v,e=.returned v)∧(K 0 W'∨Kx W')
theorem ARX_node {c:Ctx} {gen:Nat} {k:List It} {σ:St} {f p gf:Nat} {assign body:Code} (hb:NodeOk c.P gf)
  (hf:σ.tm f=.fn (.func gf) [] [.el [.int .i64 1,.sl .any []] 0]) (hp:p<c.n)
  (J:Nat→H→Prop) (Jx:Option Nat→H→Prop) (h0:J 1 σ.h)
  (hround:∀ (xa xb:XC) (gn:Nat) (hi:H),XOk c.P xa→XOk c.P xb→gen≤gn→J 1 hi →
   (∀ σ' gn',ARX c xb gn' [.code body] .normal σ'→ARX c xa gn' [] .normal σ')→(∀ gn' σ',J 0 σ'.h→ARX c xb gn' [] .normal σ')→(∀ gn' id σ',Jx id σ'.h→ARX c xb gn' [] (jumpE id) σ') →
   ARX c xa gn [.code assign] .normal ⟨upd σ.tm (some p) (.agg [.int .i64 1,.sl .any []]),hi⟩)
  (hdone:∀ D h',J 0 h'→ARX c (xD c D) gen k .normal ⟨σ.tm,h'⟩)
  (hstop:∀ D id h',Jx id h'→ARX c (xD c D) gen k (jumpE id) ⟨σ.tm,h'⟩) :
  ARX c (xF c) gen (.code (.rangeFunc (.tmp f) #[p] assign body)::k) .normal σ:=by
 refine ARX_rf (ps:=[p]) (n:=1) (vv:=fun i=>[.agg [.int .i64 1,.sl .any []]]) hb.call (by simp [hp]) (fun i hi=>rfl) ?_ J Jx h0
  (fun xa xb gn i hi oa ob hg hlt hJ h1 h2 h3=>by
   obtain rfl:i=0:=by omega
   exact hround xa xb gn hi oa ob hg hJ h1 h2 h3) hdone hstop
 intro g w cv hfv
 rw [hf] at hfv
 cases hfv with
 | fn _ fs cs _ _ h1 h2 _ r2 =>
  have e1:fs=#[]:=by simpa using h1
  subst e1
  obtain ⟨c1,rfl⟩:∃ c1,cs=#[c1]:=by
   have h2':cs.size=1:=h2
   refine ⟨cs[0],?_⟩
   apply Array.ext
   ·simpa using h2'
   ·intro i hi hi2;simp at hi2;subst hi2;rfl
  have hq:=r2 0 c1 _ rfl rfl
  cases hq with
  | el b off cs o cell hl hrun hr =>
   have hz:=hrun 0 (by simp)
   have hz1:=hrun 1 (by simp)
   have hrz:=hr 0 _ rfl
   have hrz1:=hr 1 _ rfl
   generalize cell 0=c0 at hz hrz
   generalize cell 1=c1 at hz1 hrz1
   cases hrz
   cases hrz1 with
   | sl ao cap _ _ kk cell2 hk hcap hrun2 hr2 hc =>
    simp only [List.length_nil] at hz1
    refine ⟨_,fun _=>[.agg #[.int .i64 1,.slice ao 0 cap]],rfl,fun i hi=>⟨rfl,fun j x v hx hv=>?_⟩,?_⟩
    ·match j with
     | 0 =>
      simp at hx hv
      subst hx;subst hv
      refine .agg _ _ rfl fun j x v hx hv=>?_
      match j with
      | 0=>simp at hx hv;subst hx;subst hv;exact .int _ _
      | 1=>simp at hx hv;subst hx;subst hv;exact .sl ao cap .any [] 0 (fun _=>undef) (by simp) (by simp) (by simp) (by simp) trivial
      | j+2=>simp at hx
     | j+1=>simp at hx
    ·intro l K Kx hext hal hdr hY W hK
     simp only [List.length_cons,List.length_nil] at hl
     refine hb.go l b (off+0) ao cap K Kx hal hdr (fun i W hKi=>?_) (fun W hK=>hY 0 W (by omega) hK) W hK
     obtain ⟨gi,x⟩:=hext i W hKi
     exact ⟨(x.cells _ _ (by omega)).trans hz,(x.cells _ _ (by omega)).trans hz1⟩
def flatC:Code→List Code
 | .seq a b=>flatC a++flatC b
 | c=>[c]
@[go_sem] theorem flatC_seq {a b:Code}:flatC (.seq a b)=flatC a++flatC b:=by rw [flatC]
@[go_sem] theorem flatC_region {id:Nat} {ops:Array Oper} {draw:Bool}:flatC (.region id ops draw)=[.region id ops draw]:=by rw [flatC]<;>simp
@[go_sem] theorem flatC_block {id:Nat} {b:Code}:flatC (.block id b)=[.block id b]:=by rw [flatC]<;>simp
@[go_sem] theorem flatC_ret:flatC .ret=[.ret]:=by rw [flatC]<;>simp
@[go_sem] theorem flatC_cond {t:Operand} {a b:Code}:flatC (.cond t a b)=[.cond t a b]:=by rw [flatC]<;>simp
@[go_sem] theorem flatC_skip:flatC .skip=[.skip]:=by rw [flatC]<;>simp
@[go_sem] theorem flatC_exit {id:Nat}:flatC (.exit id)=[.exit id]:=by rw [flatC]<;>simp
@[go_sem] theorem flatC_loop {b:Code}:flatC (.loop b)=[.loop b]:=by rw [flatC]<;>simp
@[go_sem] theorem flatC_rangeFunc {g:Operand} {ps:Array Tmp} {a b:Code}:flatC (.rangeFunc g ps a b)=[.rangeFunc g ps a b]:=by rw [flatC]<;>simp
theorem postX_pass {P:Program} {F:Fence} {E:Exit→Act→World→Prop} {k:List It}:∀ (l:List Code) (e:Exit) (a:Act) (w:World),e≠.normal→postX P F E (l.map .code++k) e a w→postX P F E k e a w
 | [],_,_,_,_,h=>h
 | c::l,e,a,w,he,h=>by
  refine postX_pass l e a w he ?_
  cases e<;>first|exact h|exact absurd rfl he
theorem postX_flat {P:Program} {F:Fence} {E:Exit→Act→World→Prop}:∀ (c:Code) (k:List It) (a:Act) (w:World),postX P F E ((flatC c).map .code++k) .normal a w→c.wpIn F 0 P (postX P F E k) a w:=by
 intro c
 induction c with
 | seq x y ihx ihy =>
  intro k a w h
  rw [flatC_seq,List.map_append,List.append_assoc] at h
  refine wpIn_seq (wpIn_mono (ihx _ a w h) ?_)
  intro e a' w' hp
  cases e with
  | normal=>exact ihy k a' w' hp
  | _=>exact postX_pass _ _ a' w' (by simp) hp
 | _=>intro k a w h;rw [flatC] at h<;>first|exact h|(intro _ _ e;cases e)
theorem ARX_pieces {c:Ctx} {x:XC} {gen:Nat} {k:List It} {σ:St} {y:Code} (h:ARX c x gen ((flatC y).map .code++k) .normal σ):ARX c x gen (.code y::k) .normal σ :=
 fun g a w hx hX r=>postX_flat y k a w (h g a w hx hX r)
@[congr] theorem ARX_congr {c:Ctx} {x:XC} {gen:Nat} {k:List It} {e:Exit} {σ σ':St} (h:σ=σ'):ARX c x gen k e σ=ARX c x gen k e σ':=by rw [h]
theorem ARX_condP {c:Ctx} {x:XC} {gen:Nat} {k:List It} {σ:St} {y z:Code} {t:Operand} (h:condP (av c.env σ.tm t) (ARX c x gen (.code y::k) .normal σ) (ARX c x gen (.code z::k) .normal σ)) :
  ARX c x gen (.code (.cond t y z)::k) .normal σ:=by
 generalize hv:av c.env σ.tm t=v at h
 cases v with
 | bool b=>exact ARX_cond hv h.1 h.2
 | _=>exact h.elim
def qw (k:Int) (t:Ty) (p:Ty × Ty) (w c:Tm):Tm:=if k==4 then chCall t p.1 w (chPart 11 t p.2 c) else chPart 12 p.1 t w
def qc (k:Int) (t:Ty) (p:Ty × Ty) (w c:Tm):Tm:=if k==4 then chPart 12 p.2 t c else c
end GoAbs
