/-
 The abstract layer: loops, makers, the row.
-/
import Derived.Test.YteaijonkbbkkjaaGreatDoorAbsB
import Derived.ProofKit
import Derived.ChangeStays
import Derived.ChangeSlices
import Derived.LaidMore
import Derived.OpenShut
import Derived.Stop.Joined
import Derived.Deep.Slices
set_option linter.unusedSimpArgs false
set_option linter.unusedVariables false
set_option linter.unusedSectionVars false
namespace GoAbs
open Go
theorem F9 {c:Ctx} {gen:Nat} {k:List It} {σ:St} {e:Exit} (h:∀ gn,gen<gn→(∀ id,σ.h id≠none→id.gen<gn)→AR c gn k e σ):AR c gen k e σ :=
 fun ok hm g a w hx r=>h (max g.top (gen+1)) om_ (fun id hid=>Nat.lt_of_lt_of_le (r.rel.top id hid) om_) ok hm g a w hx r
theorem s8 {g gn:Nat} (h:g<gn):(g=gn)=False:=by simp only [eq_iff_iff,iff_false];omega
theorem o9 {g gn:Nat} (h:g<gn):(gn=g)=False:=by simp only [eq_iff_iff,iff_false];omega
def ag0 (T:List Nat) (B:List Id) (σ0 σ:St):Prop:=(∀ t∈T,σ.tm t=σ0.tm t)∧∀ b∈B,σ.h b=σ0.h b
@[go_sem] theorem dc0 (T:List Nat) (B:List Id) (σ0 σ:St):ag0 T B σ0 σ=((∀ t∈T,σ.tm t=σ0.tm t)∧∀ b∈B,σ.h b=σ0.h b):=rfl
theorem ag0.refl (T:List Nat) (B:List Id) (σ:St):ag0 T B σ σ:=⟨fun _ _=>rfl,fun _ _=>rfl⟩
theorem ag0.upd {T:List Nat} {B:List Id} {σ0 σ:St} (h:ag0 T B σ0 σ) {t:Nat} (ht:T.contains t=false) (v:V):ag0 T B σ0 ⟨upd σ.tm (some t) v,σ.h⟩ :=
  ⟨fun j hj=>by
    have:j≠t:=by intro e;subst e;simp at ht;exact ht hj
    simp only [aG9,if_neg this];exact h.1 j hj,h.2⟩

theorem cr1 {c:Ctx} {gen:Nat} {k:List It} {σ0:St} {B C r0 r9 tc tI tN ta y0 y1 y2 y3 y4 y5:Nat} {p1 p2 p3:String} {a1 a2 a3:Array Edge} {body:Code}
    (T:List Nat) (Bx:List Id) (K:Nat→St→Prop) (n:Nat) (hn:n≤4611686018427387904)
    (hT:T.contains tc=false∧T.contains ta=false∧T.contains tI=false) (hd:(tI==tc||tI==ta||tN==tc||tN==ta||tN==tI||tc==ta)=false)
    (hI:σ0.tm tI=.int .i64 0) (hN:σ0.tm tN=.int .i64 n) (hK:K 0 σ0)
    (hs:∀ i σ t v,t∈[tc,ta,tI]→K i σ→K i ⟨upd σ.tm (some t) v,σ.h⟩)
    (round:∀ i σ gn,gen<gn→(∀ id,σ.h id≠none→id.gen<gn)→i<n→σ.tm tI=.int .i64 i→σ.tm tN=.int .i64 n→ag0 T Bx σ0 σ→K i σ →
      AR c gn (.code body::.block C::.inv (fun σ2=>σ2.tm tI=.int .i64 i∧σ2.tm tN=.int .i64 n∧ag0 T Bx σ0 σ2∧K (i+1) σ2)::.block B::k) .normal σ)
    (after:∀ σ gn,gen<gn→(∀ id,σ.h id≠none→id.gen<gn)→ag0 T Bx σ0 σ→K n σ→AR c gn k .normal σ) :
    AR c gen (.code (.loop (.seq (.region r0 #[{ dst:=some tc,op:=.binOp .lss y0 (.tmp tI) (.tmp tN) y1,type:=y2,pos:=p1,after:=a1,guard:=none }] false)
      (.seq (.cond (.tmp tc) .skip (.exit B)) (.seq (.block C body) (.region r9 #[{ dst:=some ta,op:=.binOp .add y3 (.tmp tI) (.const (.int .i64 1)) y4,type:=y5,pos:=p2,after:=a2,guard:=none },
        { dst:=some tI,op:=.move (.tmp ta),type:=y5,pos:=p3,after:=a3,guard:=none }] false)))))::.block B::k) .normal σ0:=by
  simp only [Bool.or_eq_false_iff,beq_eq_false_iff_ne,ne_eq] at hd;obtain ⟨⟨⟨⟨⟨d1,d2⟩,d3⟩,d4⟩,d5⟩,d6⟩:=hd;refine B1 (fun i σ=>σ.tm tI=.int .i64 i∧σ.tm tN=.int .i64 n∧ag0 T Bx σ0 σ∧K i σ) n ⟨hI,hN,ag0.refl _ _ _,hK⟩ ?_;intro i σ hi ⟨j1,j2,j3,j4⟩;refine D6 (B6 ?_);simp only [go_sem,j1,j2];refine D6 ?_;have j4':=hs i σ tc (.bool (decide ((i:Int)<n))) sp_ j4;have j3':=j3.upd hT.1 (.bool (decide ((i:Int)<n)));refine H5 (b:=decide ((i:Int)<n)) (by simp [av,aG9]) (fun hc=>I1 ?_) (fun hc=>I4 ?_)
  · simp at hc
    refine D6 (F2 ?_);have hgo:AR c gen (.code body::.block C::.inv (fun σ2=>σ2.tm tI=.int .i64 i∧σ2.tm tN=.int .i64 n∧ag0 T Bx σ0 σ2∧K (i+1) σ2)::.block B::k) .normal
        ⟨upd σ.tm (some tc) (.bool (decide ((i:Int)<n))),σ.h⟩:=by
      refine F9 (fun gn h1 h2=>round i _ gn h1 h2 hc ?_ ?_ j3' j4')
      · simp only [aG9,if_neg d1];exact j1
      · simp only [aG9,if_neg d3];exact j2
    have key:AR c gen (.code body::.block C::.inv (fun σ2=>σ2.tm tI=.int .i64 i∧σ2.tm tN=.int .i64 n∧ag0 T Bx σ0 σ2∧K (i+1) σ2) ::
        .code (.region r9 #[{ dst:=some ta,op:=.binOp .add y3 (.tmp tI) (.const (.int .i64 1)) y4,type:=y5,pos:=p2,after:=a2,guard:=none },
          { dst:=some tI,op:=.move (.tmp ta),type:=y5,pos:=p3,after:=a3,guard:=none }] false) ::
        .inv (fun σ2=>i<n∧σ2.tm tI=.int .i64 ((i+1:Nat):Int)∧σ2.tm tN=.int .i64 n∧ag0 T Bx σ0 σ2∧K (i+1) σ2)::.block B::k) .normal
        ⟨upd σ.tm (some tc) (.bool (decide ((i:Int)<n))),σ.h⟩:=by
      intro ok hm g a w hx r;simp only [R6,Bool.and_eq_true] at ok;have:=hgo (by simp [R6,ok.1,ok.2.2]) hm g a w hx r;simp only [ai9] at this ⊢;refine wp_mono this ?_;intro e a' w' hp;cases e<;>exact hp
    have h2:∀ σ':St,(σ'.tm tI=.int .i64 i∧σ'.tm tN=.int .i64 n∧ag0 T Bx σ0 σ'∧K (i+1) σ') →
        AR c gen (.code (.region r9 #[{ dst:=some ta,op:=.binOp .add y3 (.tmp tI) (.const (.int .i64 1)) y4,type:=y5,pos:=p2,after:=a2,guard:=none },
          { dst:=some tI,op:=.move (.tmp ta),type:=y5,pos:=p3,after:=a3,guard:=none }] false) ::
        .inv (fun σ2=>i<n∧σ2.tm tI=.int .i64 ((i+1:Nat):Int)∧σ2.tm tN=.int .i64 n∧ag0 T Bx σ0 σ2∧K (i+1) σ2)::.block B::k) .normal σ':=by
      intro σ' ⟨q1,q2,q3,q4⟩;refine B6 ?_;simp only [go_sem,q1,q2];refine u7 ⟨hc,?_,?_,?_,?_⟩
      · simp only [aG9,if_true]
        rw [wrap_small om_ om_];simp
      · simp only [aG9,if_neg d5,if_neg d4];exact q2
      · exact (q3.upd hT.2.1 _).upd hT.2.2 _
      · exact hs _ _ tI _ sp_ (hs _ _ ta _ sp_ q4)
    intro ok hm g a w hx r;simp only [R6,Bool.and_eq_true] at ok;have:=key (by simp only [R6,Bool.and_eq_true];exact ⟨ok.1,ok.2⟩) hm g a w hx r;simp only [ai9] at this ⊢;refine wp_mono this ?_;intro e a' w' hp;cases e with
    | normal => 
      obtain ⟨g2,σ2,p1,p2,p3⟩:=hp;exact h2 σ2 p3 (by simp only [R6,Bool.and_eq_true];exact ok.2) hm g2 a' w' p1 p2
    | exit id =>
      simp only [ai9] at hp ⊢;split at hp
      · rename_i e
        obtain ⟨g2,σ2,p1,p2,p3⟩:=hp;rw [if_pos e];exact h2 σ2 p3 (by simp only [R6,Bool.and_eq_true];exact ok.2) hm g2 a' w' p1 p2
      · rename_i e
        rw [if_neg e];exact hp
    | _=>exact hp
  · simp at hc
    obtain rfl:i=n:=by omega
    exact A3 (B5 (A4 (F9 (fun gn h1 h2=>after _ gn h1 h2 j3' j4'))))

theorem bL4 {h:H} {a:Id} {x y:Obj}:u9 (u9 h a x) a y=u9 h a y:=by
 funext j;simp only [u9];split<;>rfl
attribute [go_sem] bL4
theorem cw3 {cs:List V} {a b c d e:V} (h:cs.length=5):I2 cs 0 [a,b,c,d,e]=[a,b,c,d,e]:=R7 (by rw [h];rfl)
theorem cA1 {cs:List V} {a b:V} (h:cs.length=2):I2 cs 0 [a,b]=[a,b]:=R7 (by rw [h];rfl)
theorem cC7 {cs:List V} {a b c d:V} (h:cs.length=4):I2 cs 0 [a,b,c,d]=[a,b,c,d]:=R7 (by rw [h];rfl)
attribute [go_sem] List.append_eq
attribute [go_sem] cw3 cA1 cC7
theorem Rel.cB3 {env:Nat→Option (List V)} {g:G} {w:World} {h:H} (r:Rel env g w h) {id:Id} {cs:List V} (hb:h id=some (.box cs)) :
  Rel env g w (u9 h id (.box (C7 cs))) where
 dom:=fun i=>by
  by_cases e:i=id
  ·subst e;rw [B0,r.dom,hb];simp
  ·rw [l8 e];exact r.dom i
 top:=fun i hi=>by
  by_cases e:i=id
  ·subst e;exact r.top _ (by rw [hb];simp)
  ·rw [l8 e] at hi;exact r.top i hi
 box:=fun i cs' hi=>by
  by_cases e:i=id
  ·subst e
   rw [B0] at hi;simp only [Option.some.injEq,Obj.box.injEq] at hi;subst hi;obtain ⟨vs,h1,h2,h3,h4,h5⟩:=r.box i cs hb;have:=RVL.H2 ⟨h2,h3⟩;exact ⟨vs,h1,this.1,this.2,h4,h5⟩
  ·rw [l8 e] at hi;exact r.box i cs' hi
 inj:=fun i i' c c' hi hi' hl=>by
  have hx:∀ j c,u9 h id (.box (C7 cs)) j=some (.box c)→∃ c2,h j=some (.box c2):=by
   intro j c hj;by_cases e:j=id
   ·subst e;exact ⟨cs,hb⟩
   ·rw [l8 e] at hj;exact ⟨c,hj⟩
  obtain ⟨c2,h2⟩:=hx i c hi;obtain ⟨c3,h3⟩:=hx i' c' hi';exact r.inj i i' c2 c3 h2 h3 hl
 tok:=fun i n k hi=>by
  have e:i≠id:=by intro e;subst e;rw [B0] at hi;simp at hi
  rw [l8 e] at hi;exact r.tok i n k hi
 apart:=fun i i' n k c hi hn hi' a ha=>by
  have e:i≠id:=by intro e;subst e;rw [B0] at hi;simp at hi
  rw [l8 e] at hi;by_cases e':i'=id
  ·subst e';exact r.apart i i' n k cs hi hn hb a ha
  ·rw [l8 e'] at hi';exact r.apart i i' n k c hi hn hi' a ha
 T8:=fun i i' n n' k k' hi hn hi' hn' a a' ha ha' hbk=>by
  have e:i≠id:=by intro e;subst e;rw [B0] at hi;simp at hi
  have e':i'≠id:=by intro e;subst e;rw [B0] at hi';simp at hi'
  rw [l8 e] at hi;rw [l8 e'] at hi';exact r.T8 i i' n n' k k' hi hn hi' hn' a a' ha ha' hbk
 C4:=r.C4
 glob:=r.glob
theorem ai3 {c:Ctx} {gen:Nat} {k:List It} {e:Exit} {σ:St} (id:Id) {cs:List V} (hb:σ.h id=some (.box cs))
  (h:AR c gen k e ⟨σ.tm,u9 σ.h id (.box (C7 cs))⟩):AR c gen k e σ :=
 fun ok hm g a w hx r=>h ok hm g a w hx ⟨r.rel.cB3 hb,r.tm,r.size,r.defers⟩
def ap2:Option Obj→Bool
 | some (.box _)=>true
 | _=>false
@[go_sem] theorem cX1 {cs:List V}:ap2 (some (.box cs))=true:=rfl
def F4 (h k:H):Prop:=∀ id n q,h id=some (.tok n q)→k id=some (.tok n q)
theorem F4.refl (h:H):F4 h h:=fun _ _ _ e=>e
theorem F4.new {h k:H} (a:F4 h k) {id:Id} {o:Obj} (hn:h id=none):F4 h (u9 k id o):=fun i n q e=>by
 rw [l8 (by intro e2;rw [e2,hn] at e;cases e)];exact a i n q e
theorem F4.box {h k:H} (a:F4 h k) {id:Id} {o:Obj} (hn:ap2 (h id)=true):F4 h (u9 k id o):=fun i n q e=>by
 rw [l8 (by intro e2;rw [e2] at e;rw [e] at hn;cases hn)];exact a i n q e
theorem T7.ak5 {h0 h k:H} {v:V} {n:Nat} {es:List (List V)} (a:T7 h0 h v n es) (b:F4 h k):T7 h0 k v n es:=by
 rcases a with a|⟨i,h1,h2,h3⟩
 ·exact .inl a
 ·exact .inr ⟨i,h1,b _ _ _ h2,h3⟩
theorem U6 {P:Program} {env:Nat→Option (List V)} {ops:Array Oper} {draw:Bool} {gen reg:Nat} {rest:List Oper} {i:Nat} {log:List ad3} {Kc:St→Prop}
    {tm:Nat→V} {hp hq h0:H} {dst:Option Nat} {s:V} {es xs:List (List V)} {cc:Cap} {T U:TyI} {nid:Id} {k:Nat}
    (bv0:T7 h0 hq s k es) (hkp:F4 hq hp) (hk:k=T.c9)
    (hc : T.kind=4∧U.kind=4∧T.c9≠0∧T.B9.length=T.c9∧es.all (fun e=>e.length==T.c9)=true∧xs.all (fun e=>e.length==T.c9)=true ∧
        xs.flatten.all ab6=true∧(es.length+xs.length) * T.A1≤140737488355328∧es.length+xs.length≤140737488355328)
    (h1:h0 nid=none) (h2:hp nid=none) (hl:draw=true→∀ e:Eff,ab5 ops i e log)
    (next:∀ v' h' log',T7 h0 h' v' k (es++xs)→(∀ j,ap2 (hp j)=true→h' j=hp j)→(g9 h0 hp→g9 h0 h')→(∀ d,a9 d h0 hp→a9 d h0 h') →
      (∀ j,j≠nid→hp j=none→h' j=none)→N8 P env ops draw gen reg rest (i+1) log' Kc ⟨upd tm dst v',h'⟩) :
    okE P env ops draw gen reg rest dst i log Kc ⟨tm,hp⟩ (aH0 (some T) (some U) s (.sl cc xs) hp nid):=by
  have bL6:=bv0.ak5 hkp;have go:∀ id o,(hp id=none∨∃ n q,hp id=some (.tok n q))→h0 id=none→(hp id=none→id=nid)→(∀ j,ap2 (hp j)=true→u9 hp id o j=hp j) ∧
      (g9 h0 hp→g9 h0 (u9 hp id o))∧(∀ d,a9 d h0 hp→a9 d h0 (u9 hp id o))∧(∀ j,j≠nid→hp j=none→u9 hp id o j=none):=by
    intro id o hid by5 hn;refine ⟨fun j hj=>?_,fun a=>a.new by5,fun d a=>a.new by5,fun j hj hjn=>?_⟩
    · have:j≠id:=by
        intro e;subst e;rcases hid with h|⟨n,q,h⟩<;>rw [h] at hj<;>simp [ap2] at hj
      exact l8 this
    · have:j≠id:=by
        intro e;subst e;exact hj (hn hjn)
      rw [l8 this];exact hjn
  rcases bL6 with rfl|⟨id,rfl,h3,h4⟩
  · simp only [aH0]
    rw [if_pos hc];simp only [h2,okE,J2,St.put];obtain ⟨g1,g2,g3,g4⟩:=go nid (.tok (es.length+xs.length) T.c9) (.inl h2) h1 (fun _=>rfl);exact ⟨fun hd=>hl hd _,next _ _ _ (.inr ⟨nid,rfl,by rw [B0,List.length_append,hk],h1⟩) g1 g2 g3 g4⟩
  · simp only [aH0]
    rw [if_pos hc];simp only [h3,hk,and_self,if_true,okE,J2,St.put];obtain ⟨g1,g2,g3,g4⟩:=go id (.tok (es.length+xs.length) T.c9) (.inr ⟨_,_,h3⟩) h4 (fun e=>by rw [e] at h3;cases h3);exact ⟨fun hd=>hl hd _,next _ _ _ (.inr ⟨id,rfl,by rw [B0,List.length_append,hk],h4⟩) g1 g2 g3 g4⟩

theorem rnd {h k:H} {gn gen:Nat} (hgn:∀ id,k id≠none→id.gen<gn) (hl:gen<gn) (jA:g9 h k):(∀ r i,k ⟨gn,r,i⟩=none)∧(∀ r i,h ⟨gn,r,i⟩=none)∧(gen=gn)=False∧(gn=gen)=False :=
 ⟨c8 hgn,fun r i=>s7 jA (c8 hgn r i),s8 hl,o9 hl⟩
theorem rnx {α:Type} {l:List α} {i:Nat} (h:i<l.length):∃ x,l[i]? = some x∧x∈l∧min i l.length=i :=
 ⟨_,List.getElem?_eq_getElem h,List.getElem_mem h,aG4 h⟩
theorem ag_ {h k:H} (a:g9 h k:=by repeat (first|exact g9.refl _|assumption|refine g9.new ?_ (m6 _ _)|refine g9.new ?_ (c6 _ _))):g9 h k:=a
theorem ar_ {c:Ctx} {gen:Nat} {k:List It} {σ0:St} {B C r0 r9 tc tI tN ta y0 y1 y2 y3 y4 y5:Nat} {p1 p2 p3:String} {a1 a2 a3:Array Edge} {body:Code} (T:List Nat) (Bx:List Id) (K:Nat→St→Prop) (n:Nat) (hK:K 0 σ0)
    (round:∀ i σ gn,gen<gn→(∀ id,σ.h id≠none→id.gen<gn)→i<n→σ.tm tI=.int .i64 i→σ.tm tN=.int .i64 n→ag0 T Bx σ0 σ→K i σ →
      AR c gn (.code body::.block C::.inv (fun σ2=>σ2.tm tI=.int .i64 i∧σ2.tm tN=.int .i64 n∧ag0 T Bx σ0 σ2∧K (i+1) σ2)::.block B::k) .normal σ)
    (after:∀ σ gn,gen<gn→(∀ id,σ.h id≠none→id.gen<gn)→ag0 T Bx σ0 σ→K n σ→AR c gn k .normal σ)
    (hn:n≤4611686018427387904:=by first|omega|(simp only [go_sem, *]<;>omega))
    (hT:T.contains tc=false∧T.contains ta=false∧T.contains tI=false:=by exact ⟨rfl,rfl,rfl⟩) (hd:(tI==tc||tI==ta||tN==tc||tN==ta||tN==tI||tc==ta)=false:=by rfl)
    (hI:σ0.tm tI=.int .i64 0:=by simp only [go_sem, *]) (hN:σ0.tm tN=.int .i64 n:=by simp only [go_sem, *])
    (hs:∀ i σ t v,t∈[tc,ta,tI]→K i σ→K i ⟨upd σ.tm (some t) v,σ.h⟩:=by intro i σ t v ht hK;simp only [List.mem_cons,List.not_mem_nil,or_false] at ht;rcases ht with rfl|rfl|rfl<;>exact hK) :
    AR c gen (.code (.loop (.seq (.region r0 #[{ dst:=some tc,op:=.binOp .lss y0 (.tmp tI) (.tmp tN) y1,type:=y2,pos:=p1,after:=a1,guard:=none }] false)
      (.seq (.cond (.tmp tc) .skip (.exit B)) (.seq (.block C body) (.region r9 #[{ dst:=some ta,op:=.binOp .add y3 (.tmp tI) (.const (.int .i64 1)) y4,type:=y5,pos:=p2,after:=a2,guard:=none },
        { dst:=some tI,op:=.move (.tmp ta),type:=y5,pos:=p3,after:=a3,guard:=none }] false)))))::.block B::k) .normal σ0:=cr1 T Bx K n hn hT hd hI hN hK hs round after

inductive TyW:Ty→Prop
 | mk (k:Int) (l:List Ty) (h:l.length≤100000) (r:∀ x∈l,TyW x):TyW (.mk k l)
theorem TyW.len {t:Ty} (h:TyW t):t.args.length≤100000:=by cases h;assumption
theorem TyW.arg {t x:Ty} (h:TyW t) (hx:x∈t.args):TyW x:=by cases h with|mk k l h r=>exact r x hx
inductive TmW:Tm→Prop
 | mk (k i:Int) (t:Ty) (l:List Tm) (ht:TyW t) (h:l.length≤100000) (r:∀ x∈l,TmW x):TmW (.mk k i t l)
theorem TmW.len {t:Tm} (h:TmW t):t.args.length≤100000:=by cases h;assumption
theorem TmW.ty {t:Tm} (h:TmW t):TyW t.type:=by cases h;assumption
theorem TmW.arg {t x:Tm} (h:TmW t) (hx:x∈t.args):TmW x:=by cases h with|mk k i t l ht h r=>exact r x hx
inductive FmW:Fm→Prop
 | mk (k:Int) (t:Ty) (l:List Tm) (a:List Fm) (ht:TyW t) (h:l.length≤100000) (hl:∀ x∈l,TmW x) (h':a.length≤100000) (r:∀ x∈a,FmW x):FmW (.mk k t l a)
theorem FmW.len {t:Fm} (h:FmW t):t.args.length≤100000:=by cases h;assumption
theorem FmW.aE3 {t:Fm} (h:FmW t):t.r8.length≤100000:=by cases h;assumption
theorem FmW.ty {t:Fm} (h:FmW t):TyW t.type:=by cases h;assumption
theorem FmW.arg {t x:Fm} (h:FmW t) (hx:x∈t.args):FmW x:=by cases h with|mk k t l a ht h hl h' r=>exact r x hx
theorem FmW.term {t:Fm} {x:Tm} (h:FmW t) (hx:x∈t.r8):TmW x:=by cases h with|mk k t l a ht h hl h' r=>exact hl x hx
def ak6 (a b:Ty):List V:=[.int .i64 a.kind,.sl .any (a.args.map Ty.cells),.int .i64 b.kind,.sl .any (b.args.map Ty.cells)]
@[go_sem] theorem bZ1 (a b:Ty):(ak6 a b).length=4:=rfl
@[go_sem] theorem cW7 (a b:Ty):(ak6 a b).all ab6=true:=rfl
@[go_sem] theorem cJ1 (a b:Ty):List.take 2 (ak6 a b)=a.cells:=by rw [Ty.m8];rfl
@[go_sem] theorem cL2 (a b:Ty):List.take 2 (List.drop 2 (ak6 a b))=b.cells:=by rw [Ty.m8];rfl
@[go_sem] theorem cL8 (a b:Ty):List.take 4 (ak6 a b)=ak6 a b:=rfl
@[go_sem] theorem cD9 {cs:List V} {a b:Ty} (h:cs.length=4):I2 cs 0 (ak6 a b)=ak6 a b:=R7 (by rw [h];rfl)
@[go_sem] theorem cW1 (a b:Ty):C7 (ak6 a b)=ak6 a b:=by simp only [ak6,C7,H2,H8]
@[go_sem] theorem df2 {S:GoAbs.Id→Prop} (a b:Ty):InL S (ak6 a b)=True:=by simp [ak6,InL,InV,aq0,aC5]
@[go_sem] theorem dh7:List.range 0=[]:=rfl
def I6:Ty:=.mk 0 []
def sized (a b:Ty):(Ty × Ty) × Int:=if ac2 a≠0 then ((I6,I6),ac2 a) else if ac2 b≠0 then ((I6,I6),ac2 b) else ((a,b),0)
@[go_sem] def dp8 (p:(Ty × Ty) × Int):V:=.tup [.agg (ak6 p.1.1 p.1.2),.int .i64 p.2]
def cL3 (p:Ty × Ty):List V:=ak6 p.1 p.2
@[go_sem] theorem cg0 (p:Ty × Ty):cL3 p=ak6 p.1 p.2:=rfl
@[go_sem] theorem cw2 (l:List (Ty × Ty)):(l.map cL3).all (fun e=>e.length==4)=true:=by simp [cg0,bZ1]
theorem aU6:TyW S5:=.mk _ _ sp_ sp_
theorem aw5:TyW I6:=.mk _ _ sp_ sp_
def cs8 (k:Int) (t:Ty) (ps:List (Ty × Ty)):Ty × Ty :=
  if k==2 then (aL8 (ps.getD 0 (I6,I6)).1 (ps.getD 1 (I6,I6)).1,aL8 (ps.getD 0 (I6,I6)).2 (ps.getD 1 (I6,I6)).2)
  else if k==3 then (aL8 (bT4 (ps.getD 0 (I6,I6)).1 (ps.getD 1 (I6,I6)).1) (bT4 (ps.getD 0 (I6,I6)).1 (bT4 (ps.getD 1 (I6,I6)).2 (ps.getD 0 (I6,I6)).2)),
    aL8 (ps.getD 0 (I6,I6)).1 (ps.getD 1 (I6,I6)).2)
  else if k==4 then (bT4 t (ps.getD 0 (I6,I6)).1,aL8 t (ps.getD 0 (I6,I6)).2)
  else if k==5 then (aL8 t (ps.getD 0 (I6,I6)).1,(ps.getD 0 (I6,I6)).2)
  else (S5,S5)

mutual
def Fm.ch:Fm→(Ty × Ty) × Int
 | .mk k t _ a=>Fm.chL k t [] a
def Fm.chL (k:Int) (t:Ty) (ps:List (Ty × Ty)):List Fm→(Ty × Ty) × Int
 | []=>sized (cs8 k t ps).1 (cs8 k t ps).2
 | f::l=>if f.ch.2==0 then Fm.chL k t (ps++[f.ch.1]) l else ((I6,I6),f.ch.2)
end
@[go_sem] def dm2 (p:Ty × Int):V:=.tup [.agg p.1.cells,.int .i64 p.2]
def Fm.look (f:Fm):(Ty × Ty) × Int:=if P5 f==0 then (if f.uni then ((I6,I6),41) else f.ch) else ((I6,I6),P5 f)
@[go_sem] def Fm.witness (f:Fm):Ty × Int:=(f.look.1.1,f.look.2)
@[go_sem] def Fm.cW8 (f:Fm):Ty × Int:=(f.look.1.2,f.look.2)
theorem Fm.co4 {f:Fm} (h:P5 f=0):f.nodes≠none:=by
 intro e;rw [P5,e] at h;simp [chk] at h
theorem de8 {α:Type} {l:List α} (h:l.length=1):∃ a,l=[a]:=by
 match l,h with
 | [a],_=>exact ⟨a,rfl⟩
theorem ck4 {α:Type} {l:List α} (h:l.length=2):∃ a b,l=[a,b]:=by
 match l,h with
 | [a,b],_=>exact ⟨a,b,rfl⟩
theorem w8 {n m:Int} (h:n=m) (h0 : -9223372036854775808≤m) (h1:m≤9223372036854775807):IntKind.i64.wrap n=m:=by subst h;exact wrap_small h0 h1
def C5:Nat→Tm
 | 0=>tm0 4 []
 | n+1=>tm0 5 [C5 n]
theorem aR9 {k:Int} {l:List Tm} (hl:l.length≤1000) (h:∀ x∈l,TmW x):TmW (tm0 k l):=.mk _ _ _ _ aw5 om_ h
theorem az7:∀ n,TmW (C5 n)
 | 0=>aR9 sp_ sp_
 | n+1=>aR9 sp_ (by simp [az7 n])
def ap5 (f:Tm):List Tm→Tm
 | []=>f
 | a::l=>ap5 (tm0 3 [f,a]) l
theorem av9 {f a:Tm} {l:List Tm}:ap5 f (a::l)=ap5 (tm0 3 [f,a]) l:=rfl
theorem aD4 {f:Tm}:ap5 f []=f:=rfl
theorem K4:TyW r5:=.mk _ _ sp_ sp_
theorem Z0:TyW C8:=.mk _ _ sp_ sp_
theorem bP2 {a b:Ty} (ha:TyW a) (hb:TyW b):TyW (E9 a b):=.mk _ _ sp_ (by simp [ha,hb])
theorem aG7 {a b:Ty} (ha:TyW a) (hb:TyW b):TyW (G1 a b):=.mk _ _ sp_ (by simp [ha,hb])
theorem bg7 {k:Int} {t:Ty} {l:List Tm} (ht:TyW t) (hl:l.length≤1000) (h:∀ x∈l,TmW x):TmW (tmT k t l):=.mk _ _ _ _ ht om_ h
theorem ao6 {k:Int} {t:Ty} {a:Tm} (ht:TyW t) (h:TmW a):TmW (tmT k t [a]):=bg7 ht sp_ (by simp [h])
theorem cr4 {k:Int} {t:Ty} {a b c:Tm} (ht:TyW t) (h1:TmW a) (h2:TmW b) (h3:TmW c):TmW (tmT k t [a,b,c]):=bg7 ht sp_ (by simp [h1,h2,h3])
theorem D4 (i:Int):TmW (u5 i):=.mk _ _ _ _ aw5 sp_ sp_
def ad6 (t:Tm):Tm:=tmT 2 r5 [t]
def aY9 (b f n:Tm):Tm:=tmT 6 r5 [b,f,n]
theorem S8 {t:Tm} (h:TmW t):TmW (ad6 t):=bg7 K4 sp_ (by simp [h])
theorem ad5 {b f n:Tm} (h1:TmW b) (h2:TmW f) (h3:TmW n):TmW (aY9 b f n):=bg7 K4 sp_ (by simp [h1,h2,h3])
theorem Z9 {k:Int}:TmW (tm0 k []):=aR9 sp_ sp_
theorem Y6 {k:Int} {a:Tm} (h1:TmW a):TmW (tm0 k [a]):=aR9 sp_ (by simp [h1])
theorem M1 {k:Int} {a b:Tm} (h1:TmW a) (h2:TmW b):TmW (tm0 k [a,b]):=aR9 sp_ (by simp [h1,h2])
theorem ak1 {k:Int} {a b c:Tm} (h1:TmW a) (h2:TmW b) (h3:TmW c):TmW (tm0 k [a,b,c]):=aR9 sp_ (by simp [h1,h2,h3])
def aq5:Tm:=ad6 (aY9 (tm0 4 []) (ad6 (ad6 (u5 1))) (u5 0))
theorem Y9:TmW aq5:=S8 (ad5 Z9 (S8 (S8 (D4 _))) (D4 _))
def aK1:Tm:=ad6 (ad6 (aY9 (u5 1) (ad6 (ad6 (tm0 5 [u5 0]))) (u5 0)))
theorem Z1:TmW aK1:=S8 (S8 (ad5 (D4 _) (S8 (S8 (Y6 (D4 _)))) (D4 _)))
def an8:Tm:=ad6 (ad6 (aY9 (u5 1) (ad6 (ad6 (tm0 3 [aq5,u5 0]))) (u5 0)))
theorem aa8:TmW an8:=S8 (S8 (ad5 (D4 _) (S8 (S8 (M1 Y9 (D4 _)))) (D4 _)))
def D2 (l:List Int) (a:Nat) (n:Int):Int × Nat:=if n<1∨l.length≤a then (0,a) else (bH0 (l.getD a 0) n,a+1)
def C1 (l:List Int) (a:Nat):List V:=[.sl .any (ints l),.int .i64 a]
@[go_sem] theorem dc6 {S:Id→Prop} (l:List Int) (a:Nat):InL S (C1 l a)=True:=by simp [C1,InL,InV,aq0,am4]
def mkType (l:List Int):Nat→Nat→Ty × Nat
 | 0,a=>(if (D2 l a 7).1==3 then C8 else if (D2 l a 7).1==4 then S5 else r5,(D2 l a 7).2)
 | n+1,a =>
  if (D2 l a 7).1==3 then (C8,(D2 l a 7).2) else if (D2 l a 7).1==4 then (S5,(D2 l a 7).2)
  else if (D2 l a 7).1==5 then
   (E9 (mkType l n (D2 l a 7).2).1 (mkType l n (mkType l n (D2 l a 7).2).2).1,(mkType l n (mkType l n (D2 l a 7).2).2).2)
  else if (D2 l a 7).1==6 then
   (G1 (mkType l n (D2 l a 7).2).1 (mkType l n (mkType l n (D2 l a 7).2).2).1,(mkType l n (mkType l n (D2 l a 7).2).2).2)
  else (r5,(D2 l a 7).2)
theorem ay0 {l:List Int}:∀ (n a:Nat),TyW (mkType l n a).1
  | 0, a => by rw [mkType];repeat' split
               all_goals first|exact K4|exact Z0|exact aU6
  | n+1,a=>by
    rw [mkType];repeat' split
    all_goals first|exact K4|exact Z0|exact aU6|exact bP2 (ay0 _ _) (ay0 _ _)|exact aG7 (ay0 _ _) (ay0 _ _)
theorem cn3 (c:Int):c=0∨c=1∨c=2∨c=3∨c=4∨c=5∨c=6 ∨
  ((c==0)=false∧(c==1)=false∧(c==2)=false∧(c==3)=false∧(c==4)=false∧(c==5)=false∧(c==6)=false):=by
 by_cases h0:c=0
 ·exact .inl h0
 by_cases h1:c=1
 ·exact .inr (.inl h1)
 by_cases h2:c=2
 ·exact .inr (.inr (.inl h2))
 by_cases h3:c=3
 ·exact .inr (.inr (.inr (.inl h3)))
 by_cases h4:c=4
 ·exact .inr (.inr (.inr (.inr (.inl h4))))
 by_cases h5:c=5
 ·exact .inr (.inr (.inr (.inr (.inr (.inl h5)))))
 by_cases h6:c=6
 ·exact .inr (.inr (.inr (.inr (.inr (.inr (.inl h6))))))
 exact .inr (.inr (.inr (.inr (.inr (.inr (.inr ⟨by simpa using h0,by simpa using h1,by simpa using h2,by simpa using h3,by simpa using h4,by simpa using h5,by simpa using h6⟩))))))
def bi0 (g:List Ty) (t:Ty) (i:Nat):Bool:=match g[g.length - 1 - i]? with|some x=>Ty.same x t|none=>false
def aB3 (g:List Ty) (t:Ty) (n:Nat):List Int:=((List.range n).filter (bi0 g t)).map (fun (j:Nat)=>(j:Int))
theorem bG5 {g:List Ty} {t:Ty} {n:Nat}:aB3 g t (n+1)=aB3 g t n++(if bi0 g t n then [(n:Int)] else []):=by
 unfold aB3;rw [List.range_succ,List.filter_append,List.map_append];congr 1;cases h:bi0 g t n<;>simp [h]
theorem be5 {g:List Ty} {t:Ty} {n:Nat}:(aB3 g t n).length≤n:=by
 unfold aB3;rw [List.length_map];exact Nat.le_trans (List.length_filter_le _ _) sp_
def I5:List Bool→Code→Code
 | [],c=>c
 | true::l,.seq _ b=>I5 l b
 | false::l,.seq a _=>I5 l a
 | _,c=>c
def A7 (f:Func):Code:=f.body.getD .skip
inductive TyF:Ty→Prop
 | nat:TyF r5
 | list:TyF C8
 | unit:TyF S5
 | pair {a b:Ty}:TyF a→TyF b→TyF (E9 a b)
 | func {a b:Ty}:TyF a→TyF b→TyF (G1 a b)
mutual
def tyH:Ty→Nat
 | .mk _ l=>bE7 l+1
def bE7:List Ty→Nat
 | []=>0
 | t::l=>max (tyH t) (bE7 l)
end
theorem ae3:tyH r5=1:=by simp [r5,tyH,bE7]
theorem aj6:tyH C8=1:=by simp [C8,tyH,bE7]
theorem aj8:tyH S5=1:=by simp [S5,tyH,bE7]
theorem af6 {a b:Ty}:tyH (E9 a b)=max (tyH a) (tyH b)+1:=by simp [E9,tyH,bE7]
theorem ai5 {a b:Ty}:tyH (G1 a b)=max (tyH a) (tyH b)+1:=by simp [G1,tyH,bE7]
theorem TyF.W {t:Ty} (h:TyF t):TyW t:=by
 induction h with
 | nat=>exact K4
 | list=>exact Z0
 | unit=>exact aU6
 | pair _ _ h1 h2=>exact bP2 h1 h2
 | func _ _ h1 h2=>exact aG7 h1 h2
mutual
theorem Ty.Y1:∀ {a b:Ty},Ty.same a b=true→a=b
 | .mk k l,.mk k' l',h=>by
  simp only [Ty.same,Bool.and_eq_true,beq_iff_eq] at h;rw [h.1,Ty.W4 h.2]
theorem Ty.W4:∀ {a b:List Ty},Ty.w6 a b=true→a=b
 | [],[],_=>rfl
 | x::l,y::l',h=>by
  simp only [Ty.w6,Bool.and_eq_true] at h;rw [Ty.Y1 h.1,Ty.W4 h.2]
 | [],_::_,h=>by simp [Ty.w6] at h
 | _::_,[],h=>by simp [Ty.w6] at h
end
mutual
theorem Ty.O6:∀ a:Ty,Ty.same a a=true
 | .mk k l=>by simp [Ty.same,Ty.X5 l]
theorem Ty.X5:∀ l:List Ty,Ty.w6 l l=true
 | []=>by simp [Ty.w6]
 | x::l=>by simp [Ty.w6,Ty.O6 x,Ty.X5 l]
end
inductive V9:Nat→Ty→Prop
 | nat {n:Nat}:V9 n r5
 | list {n:Nat}:V9 n C8
 | unit {n:Nat}:V9 n S5
 | pair {n:Nat} {a b:Ty}:V9 n a→V9 n b→V9 (n+1) (E9 a b)
 | func {n:Nat} {a b:Ty}:V9 n a→V9 n b→V9 (n+1) (G1 a b)
theorem ah5 {l:List Int}:∀ (n a:Nat),V9 n (mkType l n a).1
  | 0, a => by rw [mkType];repeat' split
               all_goals first|exact .nat|exact .list|exact .unit
  | n+1,a=>by
    rw [mkType];repeat' split
    all_goals first|exact .nat|exact .list|exact .unit|exact .pair (ah5 _ _) (ah5 _ _)|exact .func (ah5 _ _) (ah5 _ _)
theorem V9.F {n:Nat} {t:Ty} (h:V9 n t):TyF t:=by
 induction h with
 | nat=>exact .nat
 | list=>exact .list
 | unit=>exact .unit
 | pair _ _ h1 h2=>exact .pair h1 h2
 | func _ _ h1 h2=>exact .func h1 h2
theorem V9.H {n:Nat} {t:Ty} (h:V9 n t):tyH t≤n+1:=by
 induction h with
 | nat=>rw [ae3];omega
 | list=>rw [aj6];omega
 | unit=>rw [aj8];omega
 | pair _ _ h1 h2=>rw [af6];omega
 | func _ _ h1 h2=>rw [ai5];omega
inductive L2:Nat→List Ty→Ty→Tm→Prop
 | var {n:Nat} {g:List Ty} {t:Ty} {i:Nat} (hi:i<g.length) (h:g[g.length - 1 - i]? = some t):L2 n g t (u5 i)
 | app {n:Nat} {g:List Ty} {t s:Ty} {b x:Tm} (hs:V9 0 s):L2 n (g++[s]) t b→L2 n g s x→L2 (n+1) g t (tm0 3 [tmT 2 s [b],x])
 | fst {n:Nat} {g:List Ty} {t s:Ty} {x y:Tm} (hs:V9 0 s):L2 n g t x→L2 n g s y→L2 (n+1) g t (tm0 11 [tm0 10 [x,y]])
 | snd {n:Nat} {g:List Ty} {t s:Ty} {x y:Tm} (hs:V9 0 s):L2 n g s x→L2 n g t y→L2 (n+1) g t (tm0 12 [tm0 10 [x,y]])
 | av8 {n:Nat} {g:List Ty} {t:Ty} {b f:Tm} {k:Nat} (hk:k<3):L2 n (g++[r5,t]) t f→L2 n g t b →
   L2 (n+1) g t (tmT 6 t [b,tmT 2 r5 [tmT 2 t [f]],C5 k])
 | fold {n:Nat} {g:List Ty} {t:Ty} {b f x:Tm}:L2 n (g++[r5,C8,t]) t f→L2 n g t b→L2 n g C8 x →
   L2 (n+1) g t (tmT 9 t [b,tmT 2 r5 [tmT 2 C8 [tmT 2 t [f]]],x])
 | fapp {n:Nat} {g:List Ty} {t s:Ty} {x:Tm} {i:Nat} (hi:i<g.length) (h:g[g.length - 1 - i]? = some (G1 s t)):L2 n g s x →
   L2 (n+1) g t (tm0 3 [u5 i,x])
 | succ {n:Nat} {g:List Ty} {x:Tm}:L2 n g r5 x→L2 (n+1) g r5 (tm0 5 [x])
 | plus {n:Nat} {g:List Ty} {x y:Tm}:L2 n g r5 x→L2 n g r5 y→L2 (n+1) g r5 (tm0 3 [tm0 3 [aK1,x],y])
 | sub {n:Nat} {g:List Ty} {x y:Tm}:L2 n g r5 x→L2 n g r5 y→L2 (n+1) g r5 (tm0 3 [tm0 3 [an8,x],y])
 | num {n:Nat} {g:List Ty} {k:Nat} (hk:k<3):L2 n g r5 (C5 k)
 | cons {n:Nat} {g:List Ty} {x y:Tm}:L2 n g r5 x→L2 n g C8 y→L2 (n+1) g C8 (tm0 8 [x,y])
 | nil {n:Nat} {g:List Ty}:L2 n g C8 (tm0 7 [])
 | pair {n:Nat} {g:List Ty} {a b:Ty} {x y:Tm}:L2 (n - 1) g a x→L2 (n - 1) g b y→L2 n g (E9 a b) (tm0 10 [x,y])
 | lam {n:Nat} {g:List Ty} {a b:Ty} {x:Tm}:L2 (n - 1) (g++[a]) b x→L2 n g (G1 a b) (tmT 2 a [x])
 | unit {n:Nat} {g:List Ty}:L2 n g S5 (tm0 13 [])
theorem L2.W {n:Nat} {g:List Ty} {t:Ty} {x:Tm} (h:L2 n g t x) (hg:∀ y∈g,TyF y) (ht:TyF t):TmW x:=by
 have app:∀ {g l:List Ty},(∀ y∈g,TyF y)→(∀ y∈l,TyF y)→∀ y∈g++l,TyF y:=by
  intro g l h1 h2 y hy;rcases List.mem_append.1 hy with hy|hy
  ·exact h1 y hy
  ·exact h2 y hy
 induction h with
 | var=>exact D4 _
 | app hs _ _ h1 h2=>exact M1 (bg7 hs.F.W sp_ (by simp [h1 (app hg (by simp [hs.F])) ht])) (h2 hg hs.F)
 | fst hs _ _ h1 h2=>exact Y6 (M1 (h1 hg ht) (h2 hg hs.F))
 | snd hs _ _ h1 h2=>exact Y6 (M1 (h1 hg hs.F) (h2 hg ht))
 | av8 hk _ _ h1 h2=>exact cr4 ht.W (h2 hg ht) (ao6 K4 (ao6 ht.W (h1 (app hg (by simp [ht,TyF.nat])) ht))) (az7 _)
 | fold _ _ _ h1 h2 h3 =>
  exact cr4 ht.W (h2 hg ht) (ao6 K4 (ao6 Z0 (ao6 ht.W (h1 (app hg (by simp [ht,TyF.nat,TyF.list])) ht)))) (h3 hg .list)
 | fapp hi h _ h1 =>
  have:=hg _ (List.mem_of_getElem? h);cases this with
  | func ha hb=>exact M1 (D4 _) (h1 hg ha)
 | succ _ h1=>exact Y6 (h1 hg ht)
 | plus _ _ h1 h2=>exact M1 (M1 Z1 (h1 hg ht)) (h2 hg ht)
 | sub _ _ h1 h2=>exact M1 (M1 aa8 (h1 hg ht)) (h2 hg ht)
 | num=>exact az7 _
 | cons _ _ h1 h2=>exact M1 (h1 hg .nat) (h2 hg ht)
 | nil=>exact Z9
 | pair _ _ h1 h2=>cases ht with|pair ha hb=>exact M1 (h1 hg ha) (h2 hg hb)
 | lam _ h1=>cases ht with|func ha hb=>exact bg7 ha.W sp_ (by simp [h1 (app hg (by simp [ha])) hb])
 | unit=>exact Z9
theorem bK5 {n k:Int} (h1:0<k) (h2:k≤1000000):0≤bH0 n k∧bH0 n k<k:=by
 unfold bH0;have a1:=Int.tmod_lt_of_pos n h1;have a2 : -k<n.tmod k:=by
  have:=Int.lt_tmod_of_pos n h1;omega
 rw [wrap_small om_ om_];exact ⟨Int.tmod_nonneg _ om_,Int.tmod_lt_of_pos _ h1⟩
theorem L5 {l:List Int} {a:Nat} {n:Int} (h1:0<n) (h2:n≤1000000):0≤(D2 l a n).1∧(D2 l a n).1<n:=by
 unfold D2;split
 ·simp;omega
 ·exact bK5 h1 h2
def aE8 (g:List Ty) (t:Ty) (i:Nat):Bool :=
 match g[g.length - 1 - i]? with
 | some y=>y.kind==4&&(match y.args[1]? with|some q=>Ty.same q t|none=>false)
 | none=>false
theorem bJ1 {g:List Ty} {t:Ty} (h:(List.range g.length).find? (aE8 g t)=none) {i:Nat} (hi:i<g.length):aE8 g t i=false:=by
 have:=List.find?_eq_none.1 h i (by simpa using hi);simpa using this
theorem bE0 {g:List Ty} {t:Ty} {k:Nat} (h:(List.range g.length).find? (aE8 g t)=some k):k<g.length∧aE8 g t k=true∧∀ i,i<k→aE8 g t i=false:=by
 obtain ⟨h1,as,bs,h2,h3⟩:=List.find?_eq_some_iff_append.1 h;have hlen:as.length=k:=by
  have:(List.range g.length)[as.length]? = some k:=by rw [h2];simp
  have hlt:as.length<(List.range g.length).length:=by rw [h2];simp
  rw [List.getElem?_range (by simpa using hlt)] at this;simpa using this
 have hk:k<g.length:=by
  have hlt:as.length<(List.range g.length).length:=by rw [h2];simp
  rw [hlen] at hlt;simpa using hlt
 refine ⟨hk,h1,fun i hi=>?_⟩;have hm:i∈as:=by
  have e:(List.range g.length)[i]? = as[i]? := by rw [h2,List.getElem?_append_left om_]
  rw [List.getElem?_range om_] at e;exact List.mem_of_getElem? e.symm
 simpa using h3 i hm
theorem bW6 {g:List Ty} {t:Ty} {k:Nat} (hg:∀ y∈g,TyF y) (h:aE8 g t k=true):∃ s,g[g.length - 1 - k]? = some (G1 s t)∧TyF s∧G1 s t∈g:=by
 unfold aE8 at h;split at h
 ·rename_i y hy
  have hm:=List.mem_of_getElem? hy;have:=hg y hm;cases this with
  | func ha hb =>
   simp [G1,Ty.kind,Ty.args] at h;have:=Ty.Y1 h;subst this;exact ⟨_,hy,ha,hm⟩
  | _=>simp [r5,C8,S5,E9,Ty.kind] at h
 ·simp at h
theorem bW1 {g:List Ty} {t:Ty} {k:Nat} {v:Int} (h:(aB3 g t g.length)[k]? = some v):∃ i:Nat,v=(i:Int)∧i<g.length∧g[g.length - 1 - i]? = some t:=by
 have hm:=List.mem_of_getElem? h;unfold aB3 at hm;obtain ⟨i,hi,rfl⟩:=List.mem_map.1 hm;obtain ⟨h1,h2⟩:=List.mem_filter.1 hi;refine ⟨i,rfl,by simpa using h1,?_⟩;unfold bi0 at h2;split at h2
 ·rename_i x hx
  rw [hx,Ty.Y1 h2]
 ·simp at h2
theorem cK3 {y:Ty} (h:TyF y) (hk:(y.kind==4)=true):∃ p q,y=G1 p q:=by
 cases h with
 | func=>exact ⟨_,_,rfl⟩
 | _=>simp [r5,C8,S5,E9,Ty.kind] at hk
theorem aW9 {x y:Tm} (hx:TmW x) (hy:TmW y):FmW (M3 x y):=.mk _ _ _ _ aw5 sp_ (by simp [hx,hy]) sp_ sp_
theorem aJ8 {k:Int} {a b:Fm} (ha:FmW a) (hb:FmW b):FmW (E8 k a b):=.mk _ _ _ _ aw5 sp_ sp_ sp_ (by simp [ha,hb])
theorem cs6 {k:Int} {t:Ty} {a:Fm} (ht:TyW t) (ha:FmW a):FmW (fmQ k t a):=.mk _ _ _ _ ht sp_ sp_ sp_ (by simp [ha])
theorem V9.up {n:Nat} {t:Ty} (h:V9 n t):∀ {m:Nat},n≤m→V9 m t:=by
 induction h with
 | nat=>exact fun _=>.nat
 | list=>exact fun _=>.list
 | unit=>exact fun _=>.unit
 | pair _ _ h1 h2=>intro m hm;match m,hm with
           | m+1,hm=>exact .pair (h1 om_) (h2 om_)
 | func _ _ h1 h2=>intro m hm;match m,hm with
           | m+1,hm=>exact .func (h1 om_) (h2 om_)
theorem RV.move {g g':G} {w:World} {S:Id→Prop} (hl:g'.lim=g.lim) (hS:∀ id,S id→g'.dom id=true∧g'.loc id=g.loc id∧g'.buf id=g.buf id)
  {c:Value} {v:V} (h:RV g w c v) (hin:InV S v):RV g' w c v:=by
 induction h with
 | undef c=>exact .undef c
 | bool b=>exact .bool b
 | int k n=>exact .int k n
 | str s=>exact .str s
 | agg vs cs h _ ih=>rw [InV] at hin;exact .agg vs cs h fun i c v hc hv=>ih i c v hc hv (N9 hin hv)
 | tup vs cs h _ ih=>rw [InV] at hin;exact .tup vs cs h fun i c v hc hv=>ih i c v hc hv (N9 hin hv)
 | sl a cap c es k cell hk V0 E0 _ hc ih =>
  rw [InV] at hin;refine .sl a cap c es k cell hk V0 (by rw [hl];exact E0) (fun i v hv=>ih i v hv (N9 (aD5.1 hin.2) hv)) ?_;cases c with
  | any=>trivial
  | full=>exact hc
  | own id =>
   obtain ⟨a1,a2,a3⟩:=hS id hin.1;exact ⟨a1,by rw [a3];exact hc.2⟩
 | ptr id off h=>rw [InV] at hin;rw [← (hS id hin).2.1];exact .ptr id off (hS id hin).1
 | slb id n cap h h2=>rw [InV] at hin;rw [← (hS id hin).2.1];exact .slb id n cap (hS id hin).1 h2
 | el b off cs o cell hlm E0 _ ih=>rw [InV] at hin;exact .el b off cs o cell (by rw [hl];exact hlm) E0 fun i v hv=>ih i v hv (N9 hin hv)
 | T9=>exact .T9
 | fn f fs cs fs' cs' h1 h2 _ _ ih1 ih2 =>
  rw [InV] at hin;exact .fn f fs cs fs' cs' h1 h2 (fun i c v hc hv=>ih1 i c v hc hv (N9 hin.1 hv)) (fun i c v hc hv=>ih2 i c v hc hv (N9 hin.2 hv))
 | U9=>exact .U9
 | iface t c v _ ih=>rw [InV] at hin;exact .iface t c v (ih hin)
 | E7=>exact .E7
theorem cP6 {P:Program} {env:Nat→Option (List V)} {n:Nat} {fn:Func} {g0:G} {w0:World} {h0:H} {gen:Nat} {σ:St} {k:List It}
    {id i0:Id} {cs:List V} (af2:Rel env g0 w0 h0) (hid:h0 id=none) (m0:ay2 P σ fn.results.toList=some [.ptr i0 0])
    (hb:σ.h i0=some (.box cs)) (h00:h0 i0=none) (hin:InL (fun j=>h0 j≠none) cs) (hag:g9 h0 σ.h) :
    AR ⟨P,env,n,fn,g0,w0,h0,.ptr id 0,u9 h0 id (.box cs)⟩ gen k .ret σ:=by
  refine am3 ?_;intro _ _ g a w hx r;obtain ⟨cv,h1,h2⟩:=aR8 r fn m0;have q:=r.rel;simp only [aF1] at h2
  let g':G:={ g with dom:=fun j=>decide (u9 h0 id (.box cs) j≠none),loc:=fun j=>if j=id then g.loc i0 else g.loc j,top:=max g.top (id.gen+1) }
  have hne:∀ j,h0 j≠none→j≠id:=fun j hj e=>hj (by rw [e];exact hid);have hmv:∀ {c:Value} {v:V},RV g w c v→InV (fun j=>h0 j≠none) v→RV g' w c v:=by
    intro c v hv hi;refine RV.move (g:=g) (g':=g') rfl ?_ hv hi;intro j hj;exact ⟨by show decide _=true;rw [l8 (hne j hj)];simpa using hj,by show (if j=id then _ else _)=_;rw [if_neg (hne j hj)],rfl⟩
  have cX5:∀ j,h0 j≠none→j≠i0:=fun j hj e=>hj (by rw [e];exact h00);have hold:∀ j,j≠id→u9 h0 id (.box cs) j=h0 j:=fun j hj=>l8 hj;refine ⟨r.defers,cv,h1,cv,g',rfl,?_,?_,?_⟩
  · refine ⟨hx.os,hx.tape,hx.output,hx.size,hx.lim,hx.cells,hx.wr,fun j hj=>?_,Nat.le_trans hx.top (by show g.top≤max _ _;omega)⟩
    obtain ⟨a1,a2,a3⟩:=hx.dom j hj;have hj0:=(af2.dom j).1 hj;exact ⟨by show decide _=true;rw [hold j (hne j hj0)];simpa using hj0,by show (if j=id then _ else _)=_;rw [if_neg (hne j hj0)];exact a2,a3⟩
  · refine ⟨fun j=>by show decide _=true↔_;simp,?_,?_,?_,?_,?_,?_,q.C4,?_⟩
    · intro j hj
      show _<max _ _;by_cases e:j=id
      · subst e;omega
      · have hj:u9 h0 id (.box cs) j≠none:=hj
        rw [hold j e] at hj;have:=q.top j (by rw [hag j hj];exact hj);omega
    · intro j cs' e
      have e:u9 h0 id (.box cs) j=some (.box cs'):=e;by_cases hj:j=id
      · subst hj
        rw [B0] at e;simp only [Option.some.injEq,Obj.box.injEq] at e;subst e;obtain ⟨vs,b1,b2,b3,b4,b5⟩:=q.box i0 cs hb;refine ⟨vs,by show aH8 w (if j=j then _ else _) _;rw [if_pos rfl];exact b1,b2,fun i c v hc hv=>hmv (b3 i c v hc hv) (N9 hin hv),
          by show g.lim (if j=j then _ else _)=0;rw [if_pos rfl];exact b4,by show g.wr (if j=j then _ else _)=true;rw [if_pos rfl];exact b5⟩
      · rw [hold j hj] at e
        obtain ⟨vs,b1,b2,b3,b4,b5⟩:=q.box j cs' (hag.at e);refine ⟨vs,by show aH8 w (if j=id then _ else _) _;rw [if_neg hj];exact b1,b2,fun i c v hc hv=>hmv (b3 i c v hc hv) ?_,
          by show g.lim (if j=id then _ else _)=0;rw [if_neg hj];exact b4,by show g.wr (if j=id then _ else _)=true;rw [if_neg hj];exact b5⟩
        obtain ⟨vs0,_,z2,z3,_⟩:=af2.box j cs' e;obtain ⟨c0,hc0⟩:=au5 (g:=g0) (w:=w0) z2 hv;exact aj1 (fun i hi=>(af2.dom i).1 hi) v ((z3 i c0 v hc0 hv).inV)
    · intro i1 i2 c1 c2 e1 e2 e
      have e1:u9 h0 id (.box cs) i1=some (.box c1):=e1;have e2:u9 h0 id (.box cs) i2=some (.box c2):=e2;have e':(if i1=id then g.loc i0 else g.loc i1)=(if i2=id then g.loc i0 else g.loc i2):=e;by_cases f1:i1=id<;>by_cases f2:i2=id
      · rw [f1,f2]
      · exfalso
        rw [if_pos f1,if_neg f2] at e';rw [hold i2 f2] at e2;have:=q.inj i0 i2 cs c2 hb (hag.at e2) e';exact cX5 i2 (by rw [e2];simp) this.symm
      · exfalso
        rw [if_neg f1,if_pos f2] at e';rw [hold i1 f1] at e1;have:=q.inj i1 i0 c1 cs (hag.at e1) hb e';exact cX5 i1 (by rw [e1];simp) this
      · rw [if_neg f1,if_neg f2] at e'
        rw [hold i1 f1] at e1;rw [hold i2 f2] at e2;exact q.inj i1 i2 c1 c2 (hag.at e1) (hag.at e2) e'
    · intro j n' k' e
      have e:u9 h0 id (.box cs) j=some (.tok n' k'):=e;have hj:j≠id:=by intro f;rw [f,B0] at e;simp at e
      rw [hold j hj] at e;exact q.tok j n' k' (hag.at e)
    · intro i1 i2 n' k' c' e hlt e2 a ha
      have e:u9 h0 id (.box cs) i1=some (.tok n' k'):=e;have e2:u9 h0 id (.box cs) i2=some (.box c'):=e2;have hj:i1≠id:=by intro f;rw [f,B0] at e;simp at e
      rw [hold i1 hj] at e;show a.block≠(if i2=id then g.loc i0 else g.loc i2);by_cases f2:i2=id
      · rw [if_pos f2];exact q.apart i1 i0 n' k' cs (hag.at e) hlt hb a ha
      · rw [if_neg f2];rw [hold i2 f2] at e2;exact q.apart i1 i2 n' k' c' (hag.at e) hlt (hag.at e2) a ha
    · intro i1 i2 n1 n2 k1 k2 e hlt e2 al9
      have e:u9 h0 id (.box cs) i1=some (.tok n1 k1):=e;have e2:u9 h0 id (.box cs) i2=some (.tok n2 k2):=e2;have f1:i1≠id:=by intro f;rw [f,B0] at e;simp at e
      have f2:i2≠id:=by intro f;rw [f,B0] at e2;simp at e2
      rw [hold i1 f1] at e;rw [hold i2 f2] at e2;exact q.T8 i1 i2 n1 n2 k1 k2 (hag.at e) hlt (hag.at e2) al9
    · intro k' cs' e
      exact hmv (q.glob k' cs' e) (aj1 (fun i hi=>(af2.dom i).1 hi) _ (af2.glob k' cs' e).inV)
  · have hd:g'.dom id=true:=by show decide _=true;rw [B0];simp
    have hl:g.loc i0=g'.loc id:=by show _=(if id=id then _ else _);rw [if_pos rfl]
    cases h2;rw [hl];exact RV.ptr (g:=g') id 0 hd

theorem l7 {h k:H} {d:Id} {o:Obj} {gn:Nat} (hd:h d=some o) (a:a9 d h k) (hgf:∀ r i,k ⟨gn,r,i⟩=none) (hk:∀ r i,d≠⟨gn,r,i⟩):∀ r i,h ⟨gn,r,i⟩=none :=
 fun r i=>by
  cases e:h ⟨gn,r,i⟩ with
  | none=>rfl
  | some o=>exact absurd (a _ (fun q=>hk r i q.symm) (by rw [e];simp)) (by rw [hgf,e];simp)
theorem u6 {h:H} {gen gn:Nat} (hfr:∀ id,h id≠none→id.gen<gen) {d:Id} {o:Obj} (hd:h d=some o) (hlt:gen<gn) (r i:Nat):(d=⟨gn,r,i⟩)=False :=
 c7 (fun id hid=>Nat.lt_trans (hfr id hid) hlt) hd r i
theorem B3 {h:H} {gen gn:Nat} (hfr:∀ id,h id≠none→id.gen<gen) {d:Id} {o:Obj} (hd:h d=some o) (hlt:gen<gn) (r i:Nat):((⟨gn,r,i⟩:Id)=d)=False :=
 l4 (fun id hid=>Nat.lt_trans (hfr id hid) hlt) hd r i
def dd7 (P:Program) (env:Nat→Option (List V)) (f:FuncId) (args:List V) (cs:List V):Prop :=
 ∀ (h:H) (id:Id),h id=none→Ret P env f args h (.ptr id 0) (u9 h id (.box cs))
theorem aN7 {P:Program} {env:Nat→Option (List V)} {k:FuncId} {args:List V} {h:H} {R:Eff→Prop} (id:Id) {cs:List V} (hp:dd7 P env k args cs)
    (hd:h id=none) (hr:R ⟨.ptr id 0,[id],[(id,.box cs)]⟩):ao5 P env k args h R :=
  ⟨⟨.ptr id 0,[id],[(id,.box cs)]⟩,sp_,fun h2 hh=>by
    have:=hp h2 id (by rw [hh id sp_,hd]);simpa [J2] using this,hr⟩

theorem G9 {P:Program} {env:Nat→Option (List V)} {ops:Array Oper} {draw:Bool} {gen reg:Nat} {rest:List Oper} {i:Nat} {log:List ad3} {Kc:St→Prop}
    {tm:Nat→V} {hp hq h0:H} {dst:Option Nat} {s:V} {es xs:List (List V)} {cc:Cap} {T U:TyI} {nid:Id} {k:Nat}
    (bv0:T7 h0 hq s k es) (hkp:F4 hq hp) (hk:k=T.c9)
    (hc : T.kind=4∧U.kind=4∧T.c9≠0∧T.B9.length=T.c9∧es.all (fun e=>e.length==T.c9)=true∧xs.all (fun e=>e.length==T.c9)=true ∧
        xs.flatten.all ab6=true∧(es.length+xs.length) * T.A1≤140737488355328∧es.length+xs.length≤140737488355328)
    (h1:h0 nid=none) (h2:hp nid=none) (hl:draw=true→∀ e:Eff,ab5 ops i e log)
    (next:∀ v' h' id',T7 h0 h' v' k (es++xs)→(∀ j,ap2 (hp j)=true→h' j=hp j)→(g9 h0 hp→g9 h0 h')→(∀ d,a9 d h0 hp→a9 d h0 h') →
      (∀ j,j≠nid→hp j=none→h' j=none)→N8 P env ops draw gen reg rest (i+1) ((i,[id'],[id'])::log) Kc ⟨upd tm dst v',h'⟩) :
    okE P env ops draw gen reg rest dst i log Kc ⟨tm,hp⟩ (aH0 (some T) (some U) s (.sl cc xs) hp nid):=by
  have bL6:=bv0.ak5 hkp;have go:∀ id o,(hp id=none∨∃ n q,hp id=some (.tok n q))→h0 id=none→(hp id=none→id=nid)→(∀ j,ap2 (hp j)=true→u9 hp id o j=hp j) ∧
      (g9 h0 hp→g9 h0 (u9 hp id o))∧(∀ d,a9 d h0 hp→a9 d h0 (u9 hp id o))∧(∀ j,j≠nid→hp j=none→u9 hp id o j=none):=by
    intro id o hid by5 hn;refine ⟨fun j hj=>?_,fun a=>a.new by5,fun d a=>a.new by5,fun j hj hjn=>?_⟩
    · have:j≠id:=by
        intro e;subst e;rcases hid with h|⟨n,q,h⟩<;>rw [h] at hj<;>simp [ap2] at hj
      exact l8 this
    · have:j≠id:=by
        intro e;subst e;exact hj (hn hjn)
      rw [l8 this];exact hjn
  rcases bL6 with rfl|⟨id,rfl,h3,h4⟩
  · simp only [aH0]
    rw [if_pos hc];simp only [h2,okE,J2,St.put];obtain ⟨g1,g2,g3,g4⟩:=go nid (.tok (es.length+xs.length) T.c9) (.inl h2) h1 (fun _=>rfl);exact ⟨fun hd=>hl hd _,next _ _ _ (.inr ⟨nid,rfl,by rw [B0,List.length_append,hk],h1⟩) g1 g2 g3 g4⟩
  · simp only [aH0]
    rw [if_pos hc];simp only [h3,hk,and_self,if_true,okE,J2,St.put];obtain ⟨g1,g2,g3,g4⟩:=go id (.tok (es.length+xs.length) T.c9) (.inr ⟨_,_,h3⟩) h4 (fun e=>by rw [e] at h3;cases h3);exact ⟨fun hd=>hl hd _,next _ _ _ (.inr ⟨id,rfl,by rw [B0,List.length_append,hk],h4⟩) g1 g2 g3 g4⟩
end GoAbs
namespace GoAbs
open Go Go.ChangeShapes Go.WideShapes Go.RowKit
def G0 (W:World):G where
 lim:=fun b=>match W.heap[b]? with|some (.cells c _ _)=>c.size|_=>0
 wr:=fun _=>false
 loc:=fun _=>0
 buf:=fun _=>⟨none,0,0,0⟩
 dom:=fun _=>false
 top:=0
def h0:H:=fun _=>none
theorem cc0 {env:Nat→Option (List V)} {W:World} (hg:∀ k cs,env k=some cs→RV (G0 W) W (.pointer (some ⟨k,0,none⟩)) (.el cs 0)):Rel env (G0 W) W h0 where
 dom:=fun id=>by simp [G0,h0]
 top:=fun id h=>by simp [h0] at h
 box:=fun id cs h=>by simp [h0] at h
 inj:=fun id id' cs cs' h=>by simp [h0] at h
 tok:=fun id n k h=>by simp [h0] at h
 apart:=fun id id' n k cs h=>by simp [h0] at h
 T8:=fun id id' n n' k k' h=>by simp [h0] at h
 C4:=fun b hb=>by
  show (match W.heap[b]? with|some (.cells c _ _)=>c.size|_=>0)=0;rw [Array.getElem?_eq_none hb]
 glob:=hg
theorem aP9 {W:World} {b off:Nat} {v:Value} (h:W.cell? ⟨b,off,none⟩=some v):off<(G0 W).lim b:=by
 simp only [World.cell?] at h;show off<(match W.heap[b]? with|some (.cells c _ _)=>c.size|_=>0);split at h
 ·rename_i c t fr hb
  rw [hb];simp at h;exact (Array.getElem?_eq_some_iff.1 h).1
 ·cases h
section
variable {H':Type} {enc:TypeId × Value→H'} {P:Program} {W W':World}
theorem bW4 {a:Addr} {v:Value} (h:W.cell? a=some v):a=⟨a.block,a.off,none⟩:=by
 obtain ⟨b,o,s⟩:=a;cases s with
 | none=>rfl
 | some s =>
  simp only [World.cell?] at h;split at h
  ·simp at h
  ·cases h
theorem cI5 {t e:TypeId} (ht:P.underlying t=some (.slice e)) (he:P.underlying e=some (.int .i64)) (hc:P.cellsOf e=1) {base base':Nat} {sp:Nat→Bool} {held:Bool}
  {v:Value} {d:DataW H'} {ps:List MemPlace} (hk:Value.okWide P W .any base' t v) (h:DataW.Trod enc P W base sp held t v d ps) :
  ∃ l:List Int,RV (G0 W) W v (.sl .any (ints l)):=by
 obtain ⟨fuel,h⟩:=h;obtain ⟨a0,len0,cap0,rfl⟩:=okWide_slice ht hk;rcases open_ints ht he hc h with ⟨hcs,_⟩|⟨a,len,cap,zs,hcs,_,hl,hm,hz,_,Y0,_⟩
 ·simp [Value.cells] at hcs
  obtain ⟨rfl,rfl,rfl⟩:=hcs;exact ⟨[],.sl none 0 .any [] 1 (fun _=>.nilFunc) sp_ sp_ sp_ sp_ trivial⟩
 ·simp [Value.cells] at hcs
  obtain ⟨rfl,rfl,rfl⟩:=hcs;have hlz:len0≤zs.length:=by rw [hz];split<;>omega
  refine ⟨zs.take len0,?_⟩;have hel:(ints (zs.take len0)).length=len0:=by rw [ao0,List.length_take];omega
  have key:RV (G0 W) W (.slice (some a) (ints (zs.take len0)).length cap0) (.sl .any (ints (zs.take len0))):=by
   refine .sl (some a) cap0 .any _ 1 (fun i=>.int .i64 (zs.getD i 0)) ?_ om_ ?_ ?_ trivial
   ·intro e he;obtain ⟨n,_,rfl⟩:=List.mem_map.1 he;rfl
   ·intro hne
    have cG7:0<len0:=by
     rcases Nat.eq_zero_or_pos len0 with h0|h0
     ·subst h0;exact absurd rfl hne
     ·exact h0
    have h0:=Y0 0 om_;have ha:a.add 0=a:=by simp [Addr.add]
    rw [ha] at h0;have hs:=bW4 h0;have bd2:∀ i,i<len0→W.cell? ⟨a.block,a.off+i,none⟩=some (.int .i64 (zs.getD i 0)):=by
     intro i hi;have:=Y0 i om_;rw [hs,ag1] at this;exact this
    refine ⟨a.block,a.off,by rw [← hs],?_,fun i hi=>bd2 i om_⟩;have:=aP9 (bd2 (len0 - 1) om_);omega
   ·intro i v hv
    have e:(ints (zs.take len0)).flatten=(zs.take len0).map fun n=>V.int .i64 n:=by
     generalize zs.take len0=l
     induction l with
     | nil=>rfl
     | cons x l ih=>simp [ints] at ih ⊢;exact ih
    rw [e,List.getElem?_map] at hv;cases hx:(zs.take len0)[i]? with
    | none=>simp [hx] at hv
    | some x =>
     simp [hx] at hv;subst hv;have hx':zs[i]? = some x:=by
      rw [List.getElem?_take] at hx;split at hx
      ·exact hx
      ·cases hx
     simp only [List.getD_eq_getElem?_getD,hx',Option.getD_some];exact .int _ _
  rw [hel] at key;exact key
theorem ch0 {t e:TypeId} {n:Nat} (ht:P.underlying t=some (.array n e)) (he:P.underlying e=some (.int .i64)) (hc:P.cellsOf e=1) {base fuel g:Nat} {sp:Nat→Bool} {held:Bool}
  {cs:Array Value} {zs:List Int} {ps:List MemPlace} (hd:DataW.trod enc P W base sp held fuel t cs.toList=some (.agg (zs.map fun z=>.lit (.int .i64 z)),ps))
  (Y0:∀ i,W.cell? ⟨g,i,none⟩=cs[i]?):RV (G0 W) W (.pointer (some ⟨g,0,none⟩)) (.el (zs.map fun z=>.int .i64 z) 0):=by
 obtain ⟨xs,m,_,hx,hlen,hn,hel⟩:=DataW.trod_array ht hd;simp only [Prod.mk.injEq,DataW.agg.injEq] at hx;have hzl:zs.length=xs.length:=by have:=congrArg List.length hx.1;simpa using this
 have bd2:∀ i,i<zs.length→W.cell? ⟨g,i,none⟩=some (.int .i64 (zs.getD i 0)):=by
  intro i hi;have h1:=hel i om_;have hxi:∃ y,xs[i]? = some y:=⟨_,List.getElem?_eq_getElem om_⟩;obtain ⟨y,hy⟩:=hxi;rw [hc,Nat.mul_one,hy] at h1;obtain ⟨k,e1,e2,_⟩:=DataW.trod_int he h1;have hz:zs[i]? = some k:=by
   have e3:(zs.map fun z=>(DataW.lit (.int .i64 z):DataW H'))[i]? = (xs.map (·.1))[i]? := by rw [hx.1]
   rw [List.getElem?_map,List.getElem?_map,hy] at e3;cases hzi:zs[i]? with
   | none=>rw [hzi] at e3;simp at e3
   | some z=>rw [hzi,e2] at e3;simp at e3;rw [e3]
  rw [Y0,List.getD_eq_getElem?_getD,hz,Option.getD_some];have e4:cs.toList[i]? = some (.int .i64 k):=by
   have:=congrArg (fun l:List Value=>l[0]?) e1;simpa [List.getElem?_take,List.getElem?_drop] using this
  simpa using e4
 have key:=RV.el (g:=G0 W) (w:=W) g 0 (zs.map fun z=>V.int .i64 z) 0 (fun i=>.int .i64 (zs.getD i 0)) ?_ ?_ ?_
 ·exact key
 ·rcases Nat.eq_zero_or_pos zs.length with h0|h0
  ·simp [h0]
  ·have:=aP9 (bd2 (zs.length - 1) om_)
   rw [List.length_map];omega
 ·intro i hi
  rw [List.length_map] at hi;rw [Nat.zero_add];exact bd2 i hi
 ·intro i v hv
  rw [List.getElem?_map] at hv;cases hz:zs[i]? with
  | none=>simp [hz] at hv
  | some z =>
   simp [hz] at hv;subst hv;simp only [List.getD_eq_getElem?_getD,hz,Option.getD_some];exact .int _ _
def sizedB (P:Program):Bool:=(List.range P.types.size).all fun t=>match P.underlying t with|some (.slice e)=>decide (0<P.cellsOf e)|_=>true
theorem cT4 (h:sizedB P=true) {t e:TypeId} (ht:t<P.types.size) (hu:P.underlying t=some (.slice e)):0<P.cellsOf e:=by
 have:=List.all_eq_true.1 h t (by simpa using ht);rw [hu] at this;simpa using this
theorem ct7 {g':G} (x:Ext (G0 W) W g' W') {b:Nat} (hb:b<W.heap.size):W'.heap[b]? = W.heap[b]? := (x.wr b hb rfl).1
theorem aE9 (K:Kids P (·<P.types.size)) (hs:sizedB P=true) (hold:∀ b,b<W.heap.size→W'.heap[b]? = W.heap[b]?) {sp:Nat→Bool} :
  ∀ {ts:List TypeId} {vs:List Value} {ds:List (DataW H')} {ps:List MemPlace},(∀ t∈ts,t<P.types.size) →
  DataW.TrodAll enc P W 0 (fun _=>true) true ts vs ds ps→(∀ p∈ps,p.block<W.heap.size)→(∀ p∈ps,sp p.block=true)→DataW.TrodAll enc P W' 0 sp true ts vs ds ps
 | [],[],[],_,_,h,_,_=>h
 | t::ts,v::vs,d::ds,_,ht,⟨p,q,⟨n,h⟩,h',e⟩,hl,hsp=>by
  subst e;refine ⟨p,q,⟨n,?_⟩,aE9 K hs hold (fun t h=>ht t (List.mem_cons_of_mem _ h)) h' (fun x hx=>hl x (List.mem_append_right _ hx)) (fun x hx=>hsp x (List.mem_append_right _ hx)),rfl⟩;refine DataW.trod_stays K (fun ht hu=>cT4 hs ht hu) (fun h=>by cases h) (ht t sp_) h ?_ (fun x hx=>hsp x (List.mem_append_left _ hx));intro x hx;have hb:=hl x (List.mem_append_left _ hx);cases x with
  | cell b off =>
   have:=hold b hb;simp [World.sameAt,World.cell?,this]
  | map b=>exact hold b hb
theorem cq7 {f:Func} {s:ChangeSpec} {args:Array Value} {ds gs:List (DataW H')} {before:List MemPlace} {tb:TypeId} {fresh handsOn again:Bool}
  (K:Kids P (·<P.types.size)) (hs:sizedB P=true) (hts:∀ t∈f.params.toList,t<P.types.size) (cJ2:s.vars=[])
  (hW:DataW.Whole enc P f.params.toList s.vars false W args.toList ds gs before) (m0:f.resultTypes=#[tb]) (htb:P.underlying tb=some .bool)
  (hfn:(s.fn H' ds).results=[.lit (.bool true)]∧(s.fn H' ds).args=ds∧(s.fn H' ds).vars=[])
  (hos:W'.os=W.os) (di5:W'.output=W.output) (cq4:W.heap.size≤W'.heap.size) (hold:∀ b,b<W.heap.size→W'.heap[b]? = W.heap[b]?) :
  s.post enc P f false fresh handsOn again W args (.bool true) W':=by
 have hlt:=hW.lt;have hW0:=hW;obtain ⟨p,q,h1,h2,rfl,h3,h4⟩:=hW;rw [cJ2] at h2;obtain ⟨rfl,rfl⟩:=trodVars_none h2;rw [List.append_nil] at *;have hR:∀ (b:Nat) (sp:Nat→Bool) (hd:Bool),DataW.TrodAll enc P W' b sp hd f.resultTypes.toList ((Value.bool true).resultList f.resultTypes.size) (s.fn H' ds).results []:=by
  intro b sp hd;rw [m0,hfn.1];exact trodAll_mk1 (shut_bool htb true)
 have hA:∀ sp:Nat→Bool,(∀ x∈p,sp x.block=true)→DataW.TrodAll enc P W' 0 sp true f.params.toList args.toList (s.fn H' ds).args p:=by
  intro sp hsp;rw [hfn.2.1];exact aE9 K hs hold hts h1 hlt hsp
 have hV:∀ sp:Nat→Bool,DataW.TrodVars enc P W' sp s.vars (s.fn H' ds).vars []:=by
  intro sp;rw [cJ2,hfn.2.2];exact rfl
 have hfz:∀ b off,MemPlace.cell b off∈p→W'.frozen? ⟨b,off,none⟩=false:=by
  intro b off hp;have:=h3 b off hp;have hb:=hold b (hlt _ hp);simpa [World.frozen?,hb] using this
 refine ⟨ds,[],p,[],p,[],hW0,by rw [List.append_nil];exact hR _ _ _,by rw [List.append_nil];exact hA _ (fun x hx=>by simpa using hlt x hx),by rw [List.append_nil];exact hV _,?_,fun _=>?_⟩
 ·refine ⟨hos,di5,fun i hi=>?_⟩
  rw [hold i hi];have:=(World.keptBut_refl W (fun p=>False)).2.2 i hi;split
  ·rename_i e1 e2
   rw [e1] at e2;cases e2;exact ⟨rfl,rfl,rfl,fun _ _=>rfl⟩
  ·rename_i e1 e2
   rw [e1] at e2;cases e2;exact .inr ⟨rfl,rfl⟩
  ·rfl
 ·refine ⟨ok_one m0 rfl (okWide_bool_mk htb true),_,_,[]++p++[],⟨[]++p,[],trodAll_append (hA _ (fun _ _=>rfl)) (hR _ _ _),hV _,rfl,?_,fun h=>by cases h⟩,?_⟩
  ·intro b off hp
   exact hfz b off (by simpa using hp)
  ·intro x hx _
   simpa using hx
theorem bV7 {env:Nat→Option (List V)} {f:FuncId} {args:Array Value} {vs:List V} (hp:Pure P env f vs (.bool true))
  (hg:∀ k cs,env k=some cs→RV (G0 W) W (.pointer (some ⟨k,0,none⟩)) (.el cs 0)) (ha:RVL (G0 W) W args vs) {Q:Ending→World→Prop}
  (hq:∀ W',W'.os=W.os→W'.output=W.output→W.heap.size≤W'.heap.size→(∀ b,b<W.heap.size→W'.heap[b]? = W.heap[b]?)→Q (.returned (.bool true)) W') :
  Calls P f args W Q:=by
 obtain ⟨_,h⟩:=hp h0;refine (h (G0 W) W args (cc0 hg) ha).mono ?_;rintro e W' ⟨c,g',rfl,x,_,hv⟩;cases hv;exact hq W' x.os x.output x.size (fun b hb=>ct7 x hb)
end
end GoAbs
namespace GoAbs
open Go Go.ChangeShapes Go.WideShapes Go.RowKit
section
variable {H':Type} {enc:TypeId × Value→H'} {P:Program} {W:World} {base:Nat} {sp:Nat→Bool} {held:Bool}
instance:Inhabited Ty:=⟨.mk 0 []⟩
instance:Inhabited Tm:=⟨.mk 0 0 (.mk 0 []) []⟩
instance:Inhabited Fm:=⟨.mk 0 (.mk 0 []) [] []⟩
end
def as6 (P:Program) (env:Nat→Option (List V)) (f:FuncId) (args:List V) (es:List (Id × Obj)) (v:V):Prop :=
 ∀ h:H,(∀ p∈es,h p.1=some p.2)→Ret P env f args h v h
theorem U5 {P:Program} {env:Nat→Option (List V)} {k:FuncId} {args:List V} {h:H} {R:Eff→Prop} {es:List (Id × Obj)} {v:V} (hp:as6 P env k args es v)
  (he:∀ p∈es,h p.1=some p.2) (hr:R ⟨v,es.map (·.1),[]⟩):ao5 P env k args h R :=
 ⟨⟨v,es.map (·.1),[]⟩,sp_,fun h2 hh=>hp h2 (fun p hp=>by rw [hh p.1 (List.mem_map.2 ⟨p,hp,rfl⟩),he p hp]),hr⟩
def Y4 (P:Program) (env:Nat→Option (List V)) (f:FuncId) (args:List V) (es:List (Id × Obj)) (d:Id) (o:Obj) (v:V) (o':Obj):Prop :=
 ∀ h:H,(∀ p∈es,h p.1=some p.2)→h d=some o→Ret P env f args h v (u9 h d o')
theorem N6 {P:Program} {env:Nat→Option (List V)} {k:FuncId} {args:List V} {h:H} {R:Eff→Prop} {es:List (Id × Obj)} {d:Id} {o o':Obj} {v:V}
    (hp:Y4 P env k args es d o v o') (he:∀ p∈es,h p.1=some p.2) (hd:h d=some o) (hr:R ⟨v,d::es.map (·.1),[(d,o')]⟩):ao5 P env k args h R :=
  ⟨⟨v,d::es.map (·.1),[(d,o')]⟩,sp_,fun h2 hh=>by
    have:=hp h2 (fun p hp=>by rw [hh p.1 (by simp only [List.mem_cons,List.mem_map];exact .inr ⟨p,hp,rfl⟩),he p hp]) (by rw [hh d sp_,hd]);simpa [J2] using this,hr⟩

theorem aI2 {P:Program} {env:Nat→Option (List V)} {ops:Array Oper} {draw:Bool} {gen reg:Nat} {rest:List Oper} {i:Nat} {log:List ad3} {Kc:St→Prop}
    {tm:Nat→V} {hp hq h0:H} {dst:Option Nat} {s:V} {es xs:List (List V)} {cc:Cap} {T U:TyI} {nid:Id} {k:Nat}
    (bv0:T7 h0 hq s k es) (hkp:F4 hq hp) (hk:k=T.c9)
    (hc : T.kind=4∧U.kind=4∧T.c9≠0∧T.B9.length=T.c9∧es.all (fun e=>e.length==T.c9)=true∧xs.all (fun e=>e.length==T.c9)=true ∧
        xs.flatten.all ab6=true∧(es.length+xs.length) * T.A1≤140737488355328∧es.length+xs.length≤140737488355328)
    (h1:h0 nid=none) (h2:hp nid=none) (hl:draw=true→∀ e:Eff,ab5 ops i e log)
    (next:∀ v' h' id',T7 h0 h' v' k (es++xs)→(∀ j,ap2 (hp j)=true→h' j=hp j)→(g9 h0 hp→g9 h0 h')→(∀ d,a9 d h0 hp→a9 d h0 h') →
      (∀ j,j≠nid→hp j=none→h' j=none)→(∀ j,ap2 (hp j)=true→(id'=j)=False)→N8 P env ops draw gen reg rest (i+1) ((i,[id'],[id'])::log) Kc ⟨upd tm dst v',h'⟩) :
    okE P env ops draw gen reg rest dst i log Kc ⟨tm,hp⟩ (aH0 (some T) (some U) s (.sl cc xs) hp nid):=by
  have bL6:=bv0.ak5 hkp;have go:∀ id o,(hp id=none∨∃ n q,hp id=some (.tok n q))→h0 id=none→(hp id=none→id=nid)→(∀ j,ap2 (hp j)=true→u9 hp id o j=hp j) ∧
      (g9 h0 hp→g9 h0 (u9 hp id o))∧(∀ d,a9 d h0 hp→a9 d h0 (u9 hp id o))∧(∀ j,j≠nid→hp j=none→u9 hp id o j=none)∧(∀ j,ap2 (hp j)=true→(id=j)=False):=by
    intro id o hid by5 hn;refine ⟨fun j hj=>?_,fun a=>a.new by5,fun d a=>a.new by5,fun j hj hjn=>?_,fun j hj=>?_⟩
    · have:j≠id:=by
        intro e;subst e;rcases hid with h|⟨n,q,h⟩<;>rw [h] at hj<;>simp [ap2] at hj
      exact l8 this
    · have:j≠id:=by
        intro e;subst e;exact hj (hn hjn)
      rw [l8 this];exact hjn
    · simp only [eq_iff_iff,iff_false]
      intro e;subst e;rcases hid with h|⟨n,q,h⟩<;>rw [h] at hj<;>simp [ap2] at hj
  rcases bL6 with rfl|⟨id,rfl,h3,h4⟩
  · simp only [aH0]
    rw [if_pos hc];simp only [h2,okE,J2,St.put];obtain ⟨g1,g2,g3,g4,g5⟩:=go nid (.tok (es.length+xs.length) T.c9) (.inl h2) h1 (fun _=>rfl);exact ⟨fun hd=>hl hd _,next _ _ _ (.inr ⟨nid,rfl,by rw [B0,List.length_append,hk],h1⟩) g1 g2 g3 g4 g5⟩
  · simp only [aH0]
    rw [if_pos hc];simp only [h3,hk,and_self,if_true,okE,J2,St.put];obtain ⟨g1,g2,g3,g4,g5⟩:=go id (.tok (es.length+xs.length) T.c9) (.inr ⟨_,_,h3⟩) h4 (fun e=>by rw [e] at h3;cases h3);exact ⟨fun hd=>hl hd _,next _ _ _ (.inr ⟨id,rfl,by rw [B0,List.length_append,hk],h4⟩) g1 g2 g3 g4 g5⟩

theorem K2 {c:Ctx} {gen:Nat} {σ:St} (h:AR c gen [] .ret σ):AR c gen [] .normal σ:=fun ok hm g a w hx r=>h ok hm g a w hx r
theorem sg_ {p : Prop} (a : p := by simp only [go_sem, *]) : p := a
theorem sr_ {p : Prop} (a : p := by simp only [go_sem, *] <;> rfl) : p := a
theorem so_ {p : Prop} (a : p := by simp only [go_sem, *] <;> omega) : p := a
theorem sf_ {p : Prop} (a : p := by simp only [go_sem, *, List.foldr_cons, List.foldr_nil, ne_eq, reduceCtorEq, not_false_eq_true]) : p := a
theorem kr_ {p : Prop} (a : p := by kernel_rfl) : p := a
theorem fr_ {p : Prop} (a : p := by first | exact m6 _ _ | exact c6 _ _) : p := a
theorem kp_ {h k : H} (a : F4 h k := by repeat (first | exact F4.refl _ | refine F4.new ?_ (hgf _ _) | refine F4.new ?_ (c6 _ _) | refine F4.box ?_ rfl | refine F4.box ?_ (by simp only [go_sem, *]))) : F4 h k := a
theorem lo_ {p : Prop} (a : p := by intro hd e; simp only [bb5, bg0, and_true]; repeat (first | exact trivial | refine ⟨.inr (by kernel_rfl), ?_⟩ | exact .inr (by kernel_rfl))) : p := a
end GoAbs
