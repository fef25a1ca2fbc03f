/-
 The abstract layer: loops, makers, the row.
-/
import Derived.Test.YtmfhhhhnokhggaaGreatDoorAbsB
import Derived.ProofKit
import Derived.ChangeStays
import Derived.ChangeSlices
import Derived.LaidMore
import Derived.OpenShut
import Derived.Stop.Joined
import Derived.Deep.Slices
set_option linter.unusedSimpArgs false
set_option linter.unusedVariables false
set_option linter.unusedSectionVars false
namespace GoAbs
open Go
variable {c:Ctx} {gen:Nat} {k:List It} {σ:St}
theorem ai4 {e:Exit} (h:∀ gn,gen<gn->(∀ id,σ.h id≠none->id.gen<gn)->AR c gn k e σ):AR c gen k e σ :=
 fun ok hm g a w hx r=>h (max g.top (gen+1)) a_ (fun id hid=>aA3 (r.rel.top id hid) a_) ok hm g a w hx r
variable {gn:Nat}
theorem o7 {g:Nat} (h:g<gn):(g=gn)=False:=by grind
theorem n6 {g:Nat} (h:g<gn):(gn=g)=False:=by grind
def ai0 (T:List Nat) (B:List Id) (σ0 σ:St):Prop:=(∀ t∈T,σ.tm t=σ0.tm t)/\∀ b∈B,σ.h b=σ0.h b
@[go_sem] theorem dS0 (T:List Nat) (B:List Id) (σ0 σ:St):ai0 T B σ0 σ=((∀ t∈T,σ.tm t=σ0.tm t)/\∀ b∈B,σ.h b=σ0.h b):=rfl
theorem ai0.refl (T:List Nat) (B:List Id) (σ:St):ai0 T B σ σ:=⟨fun _ _=>rfl,fun _ _=>rfl⟩
variable {σ0:St}
theorem ai0.upd {T:List Nat} {B:List Id} (h:ai0 T B σ0 σ) {t:Nat} (ht:T.contains t=false) (v:V):ai0 T B σ0 ⟨upd σ.tm (some t) v,σ.h⟩ :=
  ⟨fun j hj=>by
    have:j≠t:=by intro e;subst e;simp at ht;exact ht hj
    simp only [aY9,y9 this];exact h.1 j hj,h.2⟩

variable {B C r0 r9 tc tI tN y0 y1 y2 y3 y4 y5:Nat} {p1 p2 p3:String} {a1 a2 a3:Array Edge}
theorem bW3 {ta:Nat} {body:Code}
    (T:List Nat) (Bx:List Id) (K:Nat->St->Prop) (n:Nat) (hn:n<=4611686018427387904)
    (hT:T.contains tc=false/\T.contains ta=false/\T.contains tI=false) (hd:(tI==tc||tI==ta||tN==tc||tN==ta||tN==tI||tc==ta)=false)
    (hI:σ0.tm tI=.int .i64 0) (hN:σ0.tm tN=.int .i64 n) (hK:K 0 σ0)
    (hs:∀ i σ t v,t∈[tc,ta,tI]->K i σ->K i ⟨upd σ.tm (some t) v,σ.h⟩)
    (round:∀ i σ gn,gen<gn->(∀ id,σ.h id≠none->id.gen<gn)->i<n->σ.tm tI=.int .i64 i->σ.tm tN=.int .i64 n->ai0 T Bx σ0 σ->K i σ ->
      AR c gn (.code body::.block C::.inv (fun σ2=>σ2.tm tI=.int .i64 i/\σ2.tm tN=.int .i64 n/\ai0 T Bx σ0 σ2/\K (i+1) σ2)::.block B::k) .normal σ)
    (after:∀ σ gn,gen<gn->(∀ id,σ.h id≠none->id.gen<gn)->ai0 T Bx σ0 σ->K n σ->AR c gn k .normal σ) :
    AR c gen (.code (.loop (.seq (.region r0 #[{ dst:=some tc,op:=.binOp .lss y0 (.tmp tI) (.tmp tN) y1,type:=y2,pos:=p1,after:=a1,guard:=none }] false)
      (.seq (.cond (.tmp tc) .skip (.exit B)) (.seq (.block C body) (.region r9 #[{ dst:=some ta,op:=.binOp .add y3 (.tmp tI) (.const (.int .i64 1)) y4,type:=y5,pos:=p2,after:=a2,guard:=none },
        { dst:=some tI,op:=.move (.tmp ta),type:=y5,pos:=p3,after:=a3,guard:=none }] false)))))::.block B::k) .normal σ0:=by
  simp only [bo5,beq_eq_false_iff_ne,E8] at hd;obtain ⟨⟨⟨⟨⟨d1,d2⟩,d3⟩,d4⟩,d5⟩,d6⟩:=hd;refine E6 (fun i σ=>σ.tm tI=.int .i64 i/\σ.tm tN=.int .i64 n/\ai0 T Bx σ0 σ/\K i σ) n ⟨hI,hN,ai0.refl _ _ _,hK⟩ ?_;intro i σ hi ⟨j1,j2,j3,j4⟩;refine K8 (D2 ?_);simp only [go_sem,j1,j2];refine K8 ?_;have j4':=hs i σ tc (.bool (decide ((i:Int)<n))) b_ j4;have j3':=j3.upd hT.1 (.bool (decide ((i:Int)<n)));refine M6 (b:=decide ((i:Int)<n)) (by simp [av,aY9]) (fun hc=>P8 ?_) (fun hc=>P7 ?_)
  · simp at hc
    refine K8 (K7 ?_);have hgo:AR c gen (.code body::.block C::.inv (fun σ2=>σ2.tm tI=.int .i64 i/\σ2.tm tN=.int .i64 n/\ai0 T Bx σ0 σ2/\K (i+1) σ2)::.block B::k) .normal
        ⟨upd σ.tm (some tc) (.bool (decide ((i:Int)<n))),σ.h⟩:=by
      refine ai4 (fun gn h1 h2=>round i _ gn h1 h2 hc ?_ ?_ j3' j4')
      · grind [aY9]
      · grind [aY9]
    have key:AR c gen (.code body::.block C::.inv (fun σ2=>σ2.tm tI=.int .i64 i/\σ2.tm tN=.int .i64 n/\ai0 T Bx σ0 σ2/\K (i+1) σ2) ::
        .code (.region r9 #[{ dst:=some ta,op:=.binOp .add y3 (.tmp tI) (.const (.int .i64 1)) y4,type:=y5,pos:=p2,after:=a2,guard:=none },
          { dst:=some tI,op:=.move (.tmp ta),type:=y5,pos:=p3,after:=a3,guard:=none }] false) ::
        .inv (fun σ2=>i<n/\σ2.tm tI=.int .i64 ((i+1:Nat):Int)/\σ2.tm tN=.int .i64 n/\ai0 T Bx σ0 σ2/\K (i+1) σ2)::.block B::k) .normal
        ⟨upd σ.tm (some tc) (.bool (decide ((i:Int)<n))),σ.h⟩:=by
      intro ok hm g a w hx r;have:=hgo (by grind [T9]) hm g a w hx r;refine wp_mono this ?_;intro e a' w' hp;cases e<;>exact hp
    have h2:∀ σ':St,(σ'.tm tI=.int .i64 i/\σ'.tm tN=.int .i64 n/\ai0 T Bx σ0 σ'/\K (i+1) σ') ->
        AR c gen (.code (.region r9 #[{ dst:=some ta,op:=.binOp .add y3 (.tmp tI) (.const (.int .i64 1)) y4,type:=y5,pos:=p2,after:=a2,guard:=none },
          { dst:=some tI,op:=.move (.tmp ta),type:=y5,pos:=p3,after:=a3,guard:=none }] false) ::
        .inv (fun σ2=>i<n/\σ2.tm tI=.int .i64 ((i+1:Nat):Int)/\σ2.tm tN=.int .i64 n/\ai0 T Bx σ0 σ2/\K (i+1) σ2)::.block B::k) .normal σ':=by
      intro σ' ⟨q1,q2,q3,q4⟩;refine D2 ?_;simp only [go_sem,q1,q2];refine D3 ⟨hc,?_,?_,?_,?_⟩
      · grind [aY9,wrap_small]
      · grind [aY9]
      · exact (q3.upd hT.2.1 _).upd hT.2.2 _
      · exact hs _ _ tI _ b_ (hs _ _ ta _ b_ q4)
    intro ok hm g a w hx r;simp only [T9,A3] at ok;have:=key (by grind [T9]) hm g a w hx r;refine wp_mono this ?_;intro e a' w' hp;cases e with
    | normal => 
      obtain ⟨g2,σ2,p1,p2,p3⟩:=hp;exact h2 σ2 p3 (by grind [T9]) hm g2 a' w' p1 p2
    | exit id =>
      simp only [aB9] at hp ⊢;split at hp
      · rename_i e
        obtain ⟨g2,σ2,p1,p2,p3⟩:=hp;rw [B8 e];exact h2 σ2 p3 (by simp only [T9,A3];exact ok.2) hm g2 a' w' p1 p2
      grind
    | _=>exact hp
  · simp at hc
    obtain rfl:i=n:=by omega
    exact B5 (E4 (B4 (ai4 (fun gn h1 h2=>after _ gn h1 h2 j3' j4'))))

theorem cq3 {h:H} {a:Id} {x y:Obj}:p8 (p8 h a x) a y=p8 h a y:=by
 grind [p8]
attribute [go_sem] cq3
variable {cs:List V} {a b:V}
theorem dz9 {c d e:V} (h:cs.length=5):G8 cs 0 [a,b,c,d,e]=[a,b,c,d,e]:=P4 (by rw [h];rfl)
theorem dz7 (h:cs.length=2):G8 cs 0 [a,b]=[a,b]:=P4 (by rw [h];rfl)
theorem dz8 {c d:V} (h:cs.length=4):G8 cs 0 [a,b,c,d]=[a,b,c,d]:=P4 (by rw [h];rfl)
attribute [go_sem] List.append_eq
attribute [go_sem] dz9 dz7 dz8
variable {g:G} {w:World} {id:Id}
theorem Rel.dA9 {env:Nat->Option (List V)} {h:H} (r:Rel env g w h) (hb:h id=some (.box cs)) :
    Rel env g w (p8 h id (.box (B1 cs))) where
  dom:=fun i=>by
    by_cases e:i=id
    · subst e;rw [A1,r.dom,hb];simp
    · rw [m7 e];exact r.dom i
  top:=fun i hi=>by
    by_cases e:i=id
    · subst e;exact r.top _ (by rw [hb];simp)
    · rw [m7 e] at hi;exact r.top i hi
  box := fun i cs' hi=>by
    by_cases e:i=id
    · subst e
      rw [A1] at hi;simp only [S6,Obj.box.injEq] at hi;subst hi;obtain ⟨vs,h1,h2,h3,h4,h5⟩:=r.box i cs hb;exact ⟨vs,h1,by grind [P1],fun j c v hc hv=>by
        obtain ⟨u,hu,rfl⟩:=ak5 hv;exact (h3 j c u hc hu).J5,h4,h5⟩
    · rw [m7 e] at hi;exact r.box i cs' hi
  inj := fun i i' c c' hi hi' hl=>by
    have hx:∀ j c,p8 h id (.box (B1 cs)) j=some (.box c)->∃ c2,h j=some (.box c2):=by
      intro j c hj;by_cases e:j=id
      · subst e;exact ⟨cs,hb⟩
      · rw [m7 e] at hj;exact ⟨c,hj⟩
    obtain ⟨c2,h2⟩:=hx i c hi;obtain ⟨c3,h3⟩:=hx i' c' hi';exact r.inj i i' c2 c3 h2 h3 hl
  tok:=fun i n k hi=>by
    have e:i≠id:=by intro e;subst e;rw [A1] at hi;simp at hi
    rw [m7 e] at hi;exact r.tok i n k hi
  apart:=fun i i' n k c hi hn hi' a ha=>by
    have e:i≠id:=by intro e;subst e;rw [A1] at hi;simp at hi
    rw [m7 e] at hi;by_cases e':i'=id
    · subst e';exact r.apart i i' n k cs hi hn hb a ha
    · rw [m7 e'] at hi';exact r.apart i i' n k c hi hn hi' a ha
  U9:=fun i i' n n' k k' hi hn hi' hn' a a' ha ha' hbk=>by
    have e:i≠id:=by intro e;subst e;rw [A1] at hi;simp at hi
    have e':i'≠id:=by intro e;subst e;rw [A1] at hi';simp at hi'
    rw [m7 e] at hi;rw [m7 e'] at hi';exact r.U9 i i' n n' k k' hi hn hi' hn' a a' ha ha' hbk
  map:=r.bp3 fun i l hi=>by
    grind [A1,m7]
  B3:=r.B3
  glob:=r.glob

theorem ax7 {e:Exit} (id:Id) (hb:σ.h id=some (.box cs))
  (h:AR c gen k e ⟨σ.tm,p8 σ.h id (.box (B1 cs))⟩):AR c gen k e σ :=
 fun ok hm g a w hx r=>h ok hm g a w hx ⟨r.rel.dA9 hb,r.tm,r.size,r.defers⟩
def aV4:Option Obj->Bool
 | some (.box _)=>true
 | _=>false
@[go_sem] theorem dR0:aV4 (some (.box cs))=true:=rfl
def O3 (h k:H):Prop:=∀ id n q,h id=some (.tok n q)->k id=some (.tok n q)
theorem O3.refl (h:H):O3 h h:=fun _ _ _ e=>e
variable {o:Obj}
theorem O3.new {h k:H} (a:O3 h k) (hn:h id=none):O3 h (p8 k id o):=fun i n q e=>by
 rw [m7 (by grind)];exact a i n q e
theorem O3.box {h k:H} (a:O3 h k) (hn:aV4 (h id)=true):O3 h (p8 k id o):=fun i n q e=>by
 rw [m7 (by intro e2;rw [e2] at e;rw [e] at hn;cases hn)];exact a i n q e
variable {v:V}
theorem Q4.aU5 {h0 h k:H} {n:Nat} {es:List (List V)} (a:Q4 h0 h v n es) (b:O3 h k):Q4 h0 k v n es:=by
 rcases a with a|⟨i,h1,h2,h3⟩
 ·exact .inl a
 ·exact .inr ⟨i,h1,b _ _ _ h2,h3⟩
section
variable {P:Program} {env:Nat->Option (List V)} {ops:Array Oper} {draw:Bool} {gen reg:Nat} {rest:List Oper} {i:Nat} {log:List av4} {Kc:St->Prop}
    {tm:Nat->V} {hp hq h0:H} {dst:Option Nat} {s:V} {es xs:List (List V)} {cc:Cap} {T U:TyI} {nid:Id} {k:Nat}
    (bl8:Q4 h0 hq s k es) (hkp:O3 hq hp) (hk:k=T.n7)
    (hc : T.kind=4/\U.kind=4/\T.n7≠0/\T.T7.length=T.n7/\es.all (fun e=>e.length==T.n7)=true/\xs.all (fun e=>e.length==T.n7)=true /\
        xs.flatten.all am9=true/\(es.length+xs.length) * T.ah7<=140737488355328/\es.length+xs.length<=140737488355328)
    (h1:h0 nid=none) (h2:hp nid=none) (hl:draw=true->∀ e:Eff,ak3 ops i e log)
include bl8 hkp hk hc h1 h2 hl
theorem bc7
    (next:∀ v' h' id',Q4 h0 h' v' k (es++xs)->(∀ j,aV4 (hp j)=true->h' j=hp j)->(m8 h0 hp->m8 h0 h')->(∀ d,a6 d h0 hp->a6 d h0 h') ->
      (∀ j,j≠nid->hp j=none->h' j=none)->(∀ j,aV4 (hp j)=true->(id'=j)=False)->O1 P env ops draw gen reg rest (i+1) ((i,[id'],[id'])::log) Kc ⟨upd tm dst v',h'⟩) :
    okE P env ops draw gen reg rest dst i log Kc ⟨tm,hp⟩ (bt4 (some T) (some U) s (.sl cc xs) hp nid):=by
  have dv3:=bl8.aU5 hkp;have go:∀ id o,(hp id=none\/∃ n q,hp id=some (.tok n q))->h0 id=none->(hp id=none->id=nid)->(∀ j,aV4 (hp j)=true->p8 hp id o j=hp j) /\
      (m8 h0 hp->m8 h0 (p8 hp id o))/\(∀ d,a6 d h0 hp->a6 d h0 (p8 hp id o))/\(∀ j,j≠nid->hp j=none->p8 hp id o j=none)/\(∀ j,aV4 (hp j)=true->(id=j)=False):=by
    intro id o hid dV0 hn;refine ⟨fun j hj=>?_,fun a=>a.new dV0,fun d a=>a.new dV0,fun j hj hjn=>?_,fun j hj=>?_⟩
    · grind [aV4,m7]
    · grind [m7]
    · grind [aV4]
  rcases dv3 with rfl|⟨id,rfl,h3,h4⟩
  · simp only [bt4]
    rw [B8 hc];simp only [h2,okE,L9,St.put];obtain ⟨g1,g2,g3,g4,g5⟩:=go nid (.tok (es.length+xs.length) T.n7) (.inl h2) h1 (fun _=>rfl);exact ⟨fun hd=>hl hd _,next _ _ _ (.inr ⟨nid,rfl,by rw [A1,F8,hk],h1⟩) g1 g2 g3 g4 g5⟩
  · simp only [bt4]
    rw [B8 hc];simp only [h3,hk,L6,p7,okE,L9,St.put];obtain ⟨g1,g2,g3,g4,g5⟩:=go id (.tok (es.length+xs.length) T.n7) (.inr ⟨_,_,h3⟩) h4 (fun e=>by rw [e] at h3;cases h3);exact ⟨fun hd=>hl hd _,next _ _ _ (.inr ⟨id,rfl,by rw [A1,F8,hk],h4⟩) g1 g2 g3 g4 g5⟩
theorem ab5
    (next:∀ v' h' id',Q4 h0 h' v' k (es++xs)->(∀ j,aV4 (hp j)=true->h' j=hp j)->(m8 h0 hp->m8 h0 h')->(∀ d,a6 d h0 hp->a6 d h0 h') ->
      (∀ j,j≠nid->hp j=none->h' j=none)->O1 P env ops draw gen reg rest (i+1) ((i,[id'],[id'])::log) Kc ⟨upd tm dst v',h'⟩) :
    okE P env ops draw gen reg rest dst i log Kc ⟨tm,hp⟩ (bt4 (some T) (some U) s (.sl cc xs) hp nid):=bc7 bl8 hkp hk hc h1 h2 hl fun v' h' id' a b c d e _=>next v' h' id' a b c d e
theorem X6
    (next:∀ v' h' log',Q4 h0 h' v' k (es++xs)->(∀ j,aV4 (hp j)=true->h' j=hp j)->(m8 h0 hp->m8 h0 h')->(∀ d,a6 d h0 hp->a6 d h0 h') ->
      (∀ j,j≠nid->hp j=none->h' j=none)->O1 P env ops draw gen reg rest (i+1) log' Kc ⟨upd tm dst v',h'⟩) :
    okE P env ops draw gen reg rest dst i log Kc ⟨tm,hp⟩ (bt4 (some T) (some U) s (.sl cc xs) hp nid):=ab5 bl8 hkp hk hc h1 h2 hl fun v' h' _=>next v' h' _
end
theorem rnd {h k:H} (hgn:∀ id,k id≠none->id.gen<gn) (hl:gen<gn) (jA:m8 h k):(∀ r i,k ⟨gn,r,i⟩=none)/\(∀ r i,h ⟨gn,r,i⟩=none)/\(gen=gn)=False/\(gn=gen)=False :=
 ⟨o0 hgn,fun r i=>F3 jA (o0 hgn r i),o7 hl,n6 hl⟩
variable {α:Type}
theorem rnx {l:List α} {i:Nat} (h:i<l.length):∃ x,l[i]? = some x/\x∈l/\min i l.length=i :=
 ⟨_,W4 h,bo8 h,aP5 h⟩
theorem f_ {h k:H} (a:m8 h k:=by repeat (first|exact m8.refl _|assumption|refine m8.new ?_ (l6 _ _)|refine m8.new ?_ (e9 _ _))):m8 h k:=a
theorem v_ {ta:Nat} {body:Code} (T:List Nat) (Bx:List Id) (K:Nat->St->Prop) (n:Nat) (hK:K 0 σ0)
    (round:∀ i σ gn,gen<gn->(∀ id,σ.h id≠none->id.gen<gn)->i<n->σ.tm tI=.int .i64 i->σ.tm tN=.int .i64 n->ai0 T Bx σ0 σ->K i σ ->
      AR c gn (.code body::.block C::.inv (fun σ2=>σ2.tm tI=.int .i64 i/\σ2.tm tN=.int .i64 n/\ai0 T Bx σ0 σ2/\K (i+1) σ2)::.block B::k) .normal σ)
    (after:∀ σ gn,gen<gn->(∀ id,σ.h id≠none->id.gen<gn)->ai0 T Bx σ0 σ->K n σ->AR c gn k .normal σ)
    (hn:n<=4611686018427387904:=by first|omega|(simp only [go_sem, *]<;>omega))
    (hT:T.contains tc=false/\T.contains ta=false/\T.contains tI=false:=by exact ⟨rfl,rfl,rfl⟩) (hd:(tI==tc||tI==ta||tN==tc||tN==ta||tN==tI||tc==ta)=false:=by rfl)
    (hI:σ0.tm tI=.int .i64 0:=by simp only [go_sem, *]) (hN:σ0.tm tN=.int .i64 n:=by simp only [go_sem, *])
    (hs:∀ i σ t v,t∈[tc,ta,tI]->K i σ->K i ⟨upd σ.tm (some t) v,σ.h⟩:=by intro i σ t v ht hK;simp only [D9,K0,D1] at ht;rcases ht with rfl|rfl|rfl<;>exact hK) :
    AR c gen (.code (.loop (.seq (.region r0 #[{ dst:=some tc,op:=.binOp .lss y0 (.tmp tI) (.tmp tN) y1,type:=y2,pos:=p1,after:=a1,guard:=none }] false)
      (.seq (.cond (.tmp tc) .skip (.exit B)) (.seq (.block C body) (.region r9 #[{ dst:=some ta,op:=.binOp .add y3 (.tmp tI) (.const (.int .i64 1)) y4,type:=y5,pos:=p2,after:=a2,guard:=none },
        { dst:=some tI,op:=.move (.tmp ta),type:=y5,pos:=p3,after:=a3,guard:=none }] false)))))::.block B::k) .normal σ0:=bW3 T Bx K n hn hT hd hI hN hK hs round after
variable {P:Program} {fn:Func} {g0:G} {w0:World}
theorem k_ {env:Nat->Option (List V)} {nt:Nat} {h h':H} {ta:Nat} {body:Code} (T:List Nat) (Bx:List Id) (J:Nat->St->Prop) (l:List α) {R:St->Prop} (hK:m8 h σ0.h/\J 0 σ0)
    (round:∀ i x σ gn,gen<gn->(∀ r i,σ.h ⟨gn,r,i⟩=none)->(∀ r i,h ⟨gn,r,i⟩=none)->(gen=gn)=False->(gn=gen)=False->l[i]? = some x->x∈l->min i l.length=i->i<l.length->σ.tm tI=.int .i64 i->σ.tm tN=.int .i64 l.length->R σ->m8 h σ.h->J i σ ->
      AR ⟨P,env,nt,fn,g0,w0,h,v,h'⟩ gn (.code body::.block C::.inv (fun σ2=>σ2.tm tI=.int .i64 i/\σ2.tm tN=.int .i64 l.length/\ai0 T Bx σ0 σ2/\m8 h σ2.h/\J (i+1) σ2)::.block B::k) .normal σ)
    (after:∀ σ gn,gen<gn->(∀ r i,σ.h ⟨gn,r,i⟩=none)->(∀ r i,h ⟨gn,r,i⟩=none)->(gen=gn)=False->(gn=gen)=False->R σ->m8 h σ.h->J l.length σ->AR ⟨P,env,nt,fn,g0,w0,h,v,h'⟩ gn k .normal σ)
    (hR:∀ σ,ai0 T Bx σ0 σ->R σ:=by intro σ zz;first|(simp only [go_sem] at zz;exact zz)|exact trivial)
    (hn:l.length<=4611686018427387904:=by first|omega|(simp only [go_sem, *]<;>omega))
    (hT:T.contains tc=false/\T.contains ta=false/\T.contains tI=false:=by exact ⟨rfl,rfl,rfl⟩) (hd:(tI==tc||tI==ta||tN==tc||tN==ta||tN==tI||tc==ta)=false:=by rfl)
    (hI:σ0.tm tI=.int .i64 0:=by simp only [go_sem, *]) (hN:σ0.tm tN=.int .i64 l.length:=by simp only [go_sem, *])
    (hs:∀ i σ t v,t∈[tc,ta,tI]->m8 h σ.h/\J i σ->m8 h σ.h/\J i ⟨upd σ.tm (some t) v,σ.h⟩:=by intro i σ t v ht hK;simp only [D9,K0,D1] at ht;rcases ht with rfl|rfl|rfl<;>exact hK) :
    AR ⟨P,env,nt,fn,g0,w0,h,v,h'⟩ gen (.code (.loop (.seq (.region r0 #[{ dst:=some tc,op:=.binOp .lss y0 (.tmp tI) (.tmp tN) y1,type:=y2,pos:=p1,after:=a1,guard:=none }] false)
      (.seq (.cond (.tmp tc) .skip (.exit B)) (.seq (.block C body) (.region r9 #[{ dst:=some ta,op:=.binOp .add y3 (.tmp tI) (.const (.int .i64 1)) y4,type:=y5,pos:=p2,after:=a2,guard:=none },
        { dst:=some tI,op:=.move (.tmp ta),type:=y5,pos:=p3,after:=a3,guard:=none }] false)))))::.block B::k) .normal σ0:=by
  refine bW3 T Bx (fun i σ=>m8 h σ.h/\J i σ) l.length hn hT hd hI hN hK hs (fun i σ gn hl hgn hi jI jN jS jA=>?_) fun σ gn hl hgn jS jA=>?_
  · obtain ⟨e1,e2,e3,e4⟩:=rnd hgn hl jA.1
    exact round i _ σ gn hl e1 e2 e3 e4 (W4 hi) (bo8 hi) (aP5 hi) hi jI jN (hR _ jS) jA.1 jA.2
  · obtain ⟨e1,e2,e3,e4⟩:=rnd hgn hl jA.1
    exact after σ gn hl e1 e2 e3 e4 (hR _ jS) jA.1 jA.2

inductive TyW:Ty->Prop
 | mk (k:Int) (l:List Ty) (h:l.length<=100000) (r:∀ x∈l,TyW x):TyW (.mk k l)
variable {t:Ty}
theorem TyW.len (h:TyW t):t.args.length<=100000:=by cases h;assumption
theorem TyW.arg {t x:Ty} (h:TyW t) (hx:x∈t.args):TyW x:=by cases h with|mk k l h r=>exact r x hx
inductive TmW:Tm->Prop
 | mk (k i:Int) (t:Ty) (l:List Tm) (ht:TyW t) (h:l.length<=100000) (r:∀ x∈l,TmW x):TmW (.mk k i t l)
theorem TmW.len {t:Tm} (h:TmW t):t.args.length<=100000:=by cases h;assumption
theorem TmW.ty {t:Tm} (h:TmW t):TyW t.type:=by cases h;assumption
theorem TmW.arg {t x:Tm} (h:TmW t) (hx:x∈t.args):TmW x:=by cases h with|mk k i t l ht h r=>exact r x hx
inductive FmW:Fm->Prop
 | mk (k:Int) (t:Ty) (l:List Tm) (a:List Fm) (ht:TyW t) (h:l.length<=100000) (hl:∀ x∈l,TmW x) (h':a.length<=100000) (r:∀ x∈a,FmW x):FmW (.mk k t l a)
variable {t:Fm}
theorem FmW.len (h:FmW t):t.args.length<=100000:=by cases h;assumption
theorem FmW.au6 (h:FmW t):t.a7.length<=100000:=by cases h;assumption
theorem FmW.ty (h:FmW t):TyW t.type:=by cases h;assumption
theorem FmW.arg {t x:Fm} (h:FmW t) (hx:x∈t.args):FmW x:=by cases h with|mk k t l a ht h hl h' r=>exact r x hx
theorem FmW.term {x:Tm} (h:FmW t) (hx:x∈t.a7):TmW x:=by cases h with|mk k t l a ht h hl h' r=>exact hl x hx
def av0 (a b:Ty):List V:=[.int .i64 a.kind,.sl .any (a.args.map Ty.cells),.int .i64 b.kind,.sl .any (b.args.map Ty.cells)]
@[go_sem] theorem cH2 (a b:Ty):(av0 a b).length=4:=rfl
@[go_sem] theorem dQ8 (a b:Ty):(av0 a b).all am9=true:=rfl
@[go_sem] theorem dC4 (a b:Ty):List.take 2 (av0 a b)=a.cells:=by rw [Ty.l4];rfl
@[go_sem] theorem dC5 (a b:Ty):List.take 2 (List.drop 2 (av0 a b))=b.cells:=by rw [Ty.l4];rfl
@[go_sem] theorem dC6 (a b:Ty):List.take 4 (av0 a b)=av0 a b:=rfl
@[go_sem] theorem do7 {a b:Ty} (h:cs.length=4):G8 cs 0 (av0 a b)=av0 a b:=P4 (by rw [h];rfl)
@[go_sem] theorem dH9 (a b:Ty):B1 (av0 a b)=av0 a b:=by simp only [av0,B1,J5,F4]
@[go_sem] theorem dS4 {S:GoAbs.Id->Prop} (a b:Ty):InL S (av0 a b)=True:=by simp [av0,InL,InV,ae0,ai5]
@[go_sem] theorem ei2:List.range 0=[]:=rfl
def N7:Ty:=.mk 0 []
def sized (a b:Ty):(Ty × Ty) × Int:=if ae5 a≠0 then ((N7,N7),ae5 a) else if ae5 b≠0 then ((N7,N7),ae5 b) else ((a,b),0)
@[go_sem] def ei8 (p:(Ty × Ty) × Int):V:=.tup [.agg (av0 p.1.1 p.1.2),.int .i64 p.2]
def dC7 (p:Ty × Ty):List V:=av0 p.1 p.2
@[go_sem] theorem cV5 (p:Ty × Ty):dC7 p=av0 p.1 p.2:=rfl
@[go_sem] theorem dl8 (l:List (Ty × Ty)):(l.map dC7).all (fun e=>e.length==4)=true:=by simp [cV5,cH2]
theorem br5:TyW O7:=.mk _ _ b_ b_
theorem aC0:TyW N7:=.mk _ _ b_ b_
def cZ9 (k:Int) (t:Ty) (ps:List (Ty × Ty)):Ty × Ty :=
  if k==2 then (bf9 (ps.getD 0 (N7,N7)).1 (ps.getD 1 (N7,N7)).1,bf9 (ps.getD 0 (N7,N7)).2 (ps.getD 1 (N7,N7)).2)
  else if k==3 then (bf9 (cz9 (ps.getD 0 (N7,N7)).1 (ps.getD 1 (N7,N7)).1) (cz9 (ps.getD 0 (N7,N7)).1 (cz9 (ps.getD 1 (N7,N7)).2 (ps.getD 0 (N7,N7)).2)),
    bf9 (ps.getD 0 (N7,N7)).1 (ps.getD 1 (N7,N7)).2)
  else if k==4 then (cz9 t (ps.getD 0 (N7,N7)).1,bf9 t (ps.getD 0 (N7,N7)).2)
  else if k==5 then (bf9 t (ps.getD 0 (N7,N7)).1,(ps.getD 0 (N7,N7)).2)
  else (O7,O7)

mutual
def Fm.ch:Fm->(Ty × Ty) × Int
 | .mk k t _ a=>Fm.chL k t [] a
def Fm.chL (k:Int) (t:Ty) (ps:List (Ty × Ty)):List Fm->(Ty × Ty) × Int
 | []=>sized (cZ9 k t ps).1 (cZ9 k t ps).2
 | f::l=>if f.ch.2==0 then Fm.chL k t (ps++[f.ch.1]) l else ((N7,N7),f.ch.2)
end
@[go_sem] def ei5 (p:Ty × Int):V:=.tup [.agg p.1.cells,.int .i64 p.2]
def Fm.look (f:Fm):(Ty × Ty) × Int:=if Q0 f==0 then (if f.uni then ((N7,N7),41) else f.ch) else ((N7,N7),Q0 f)
@[go_sem] def Fm.witness (f:Fm):Ty × Int:=(f.look.1.1,f.look.2)
@[go_sem] def Fm.dQ9 (f:Fm):Ty × Int:=(f.look.1.2,f.look.2)
theorem Fm.dg8 {f:Fm} (h:Q0 f=0):f.nodes≠none:=by
 grind [Q0,chk]
theorem dx4 {l:List α} (h:l.length=1):∃ a,l=[a]:=by
 match l,h with
 | [a],_=>exact ⟨a,rfl⟩
theorem cO0 {l:List α} (h:l.length=2):∃ a b,l=[a,b]:=by
 match l,h with
 | [a,b],_=>exact ⟨a,b,rfl⟩
theorem eh6 {l:List α} (h:l.length=3):∃ a b c,l=[a,b,c]:=by
 match l,h with
 | [a,b,c],_=>grind
theorem x7 {n m:Int} (h:n=m) (h0 : -9223372036854775808<=m) (h1:m<=9223372036854775807):IntKind.i64.wrap n=m:=by grind [wrap_small]
def G3:Nat->Tm
 | 0=>tm0 4 []
 | n+1=>tm0 5 [G3 n]
variable {k:Int} {l:List Tm}
theorem bn9 (hl:l.length<=1000) (h:∀ x∈l,TmW x):TmW (tm0 k l):=.mk _ _ _ _ aC0 a_ h
theorem aq2:∀ n,TmW (G3 n)
 | 0=>bn9 b_ b_
 | n+1=>bn9 b_ (by simp [aq2 n])
def ax8 (f:Tm):List Tm->Tm
 | []=>f
 | a::l=>ax8 (tm0 3 [f,a]) l
variable {f:Tm}
theorem aH3 {a:Tm}:ax8 f (a::l)=ax8 (tm0 3 [f,a]) l:=rfl
theorem aR7:ax8 f []=f:=rfl
theorem J9:TyW c8:=.mk _ _ b_ b_
theorem Y0:TyW r5:=.mk _ _ b_ b_
theorem cE8 {a b:Ty} (ha:TyW a) (hb:TyW b):TyW (B6 a b):=.mk _ _ b_ (by simp [ha,hb])
theorem au5 {a b:Ty} (ha:TyW a) (hb:TyW b):TyW (x9 a b):=.mk _ _ b_ (by simp [ha,hb])
variable {t:Ty}
theorem bM0 (ht:TyW t) (hl:l.length<=1000) (h:∀ x∈l,TmW x):TmW (tmT k t l):=.mk _ _ _ _ ht a_ h
variable {a:Tm}
theorem az7 (ht:TyW t) (h:TmW a):TmW (tmT k t [a]):=bM0 ht b_ (by simp [h])
variable {b:Tm}
theorem bj0 {c:Tm} (ht:TyW t) (h1:TmW a) (h2:TmW b) (h3:TmW c):TmW (tmT k t [a,b,c]):=bM0 ht b_ (by simp [h1,h2,h3])
theorem A6 (i:Int):TmW (a9 i):=.mk _ _ _ _ aC0 b_ b_
def am5 (t:Tm):Tm:=tmT 2 c8 [t]
def bT7 (b f n:Tm):Tm:=tmT 6 c8 [b,f,n]
theorem V0 {t:Tm} (h:TmW t):TmW (am5 t):=bM0 J9 b_ (by simp [h])
theorem aj4 {n:Tm} (h1:TmW b) (h2:TmW f) (h3:TmW n):TmW (bT7 b f n):=bM0 J9 b_ (by simp [h1,h2,h3])
theorem ah9:TmW (tm0 k []):=bn9 b_ b_
theorem ad7 (h1:TmW a):TmW (tm0 k [a]):=bn9 b_ (by simp [h1])
theorem G9 (h1:TmW a) (h2:TmW b):TmW (tm0 k [a,b]):=bn9 b_ (by simp [h1,h2])
theorem au7 {c:Tm} (h1:TmW a) (h2:TmW b) (h3:TmW c):TmW (tm0 k [a,b,c]):=bn9 b_ (by simp [h1,h2,h3])
def aF0:Tm:=am5 (bT7 (tm0 4 []) (am5 (am5 (a9 1))) (a9 0))
theorem ae4:TmW aF0:=V0 (aj4 ah9 (V0 (V0 (A6 _))) (A6 _))
def aL3:Tm:=am5 (am5 (bT7 (a9 1) (am5 (am5 (tm0 5 [a9 0]))) (a9 0)))
theorem ab6:TmW aL3:=V0 (V0 (aj4 (A6 _) (V0 (V0 (ad7 (A6 _)))) (A6 _)))
def aM5:Tm:=am5 (am5 (bT7 (a9 1) (am5 (am5 (tm0 3 [aF0,a9 0]))) (a9 0)))
theorem aj5:TmW aM5:=V0 (V0 (aj4 (A6 _) (V0 (V0 (G9 ae4 (A6 _)))) (A6 _)))
def r8 (l:List Int) (a:Nat) (n:Int):Int × Nat:=if n<1\/l.length<=a then (0,a) else (cr4 (l.getD a 0) n,a+1)
def F0 (l:List Int) (a:Nat):List V:=[.sl .any (ints l),.int .i64 a]
@[go_sem] theorem bv5 {S:Id->Prop} (l:List Int) (a:Nat):InL S (F0 l a)=True:=by simp [F0,InL,InV,ae0,aD5]
def mkType (l:List Int):Nat->Nat->Ty × Nat
 | 0,a=>(if (r8 l a 7).1==3 then r5 else if (r8 l a 7).1==4 then O7 else c8,(r8 l a 7).2)
 | n+1,a =>
  if (r8 l a 7).1==3 then (r5,(r8 l a 7).2) else if (r8 l a 7).1==4 then (O7,(r8 l a 7).2)
  else if (r8 l a 7).1==5 then
   (B6 (mkType l n (r8 l a 7).2).1 (mkType l n (mkType l n (r8 l a 7).2).2).1,(mkType l n (mkType l n (r8 l a 7).2).2).2)
  else if (r8 l a 7).1==6 then
   (x9 (mkType l n (r8 l a 7).2).1 (mkType l n (mkType l n (r8 l a 7).2).2).1,(mkType l n (mkType l n (r8 l a 7).2).2).2)
  else (c8,(r8 l a 7).2)
theorem aP6 {l:List Int}:∀ (n a:Nat),TyW (mkType l n a).1
 | 0,a=>by grind [mkType,J9,Y0,br5]
 | n+1,a=>by
  rw [mkType];repeat' split
  all_goals first|exact J9|exact Y0|exact br5|exact cE8 (aP6 _ _) (aP6 _ _)|exact au5 (aP6 _ _) (aP6 _ _)
theorem df4 (c:Int):c=0\/c=1\/c=2\/c=3\/c=4\/c=5\/c=6 \/
  ((c==0)=false/\(c==1)=false/\(c==2)=false/\(c==3)=false/\(c==4)=false/\(c==5)=false/\(c==6)=false):=by
 grind
def ci5 (g:List Ty) (t:Ty) (i:Nat):Bool:=match g[g.length - 1 - i]? with|some x=>Ty.same x t|none=>false
def aV9 (g:List Ty) (t:Ty) (n:Nat):List Int:=((List.range n).filter (ci5 g t)).map (fun (j:Nat)=>(j:Int))
variable {g:List Ty}
theorem cv8 {n:Nat}:aV9 g t (n+1)=aV9 g t n++(if ci5 g t n then [(n:Int)] else []):=by
 grind [aV9,List.range_succ]
theorem bM2 {n:Nat}:(aV9 g t n).length<=n:=by
 grind [aV9]
def K4:List Bool->Code->Code
 | [],c=>c
 | true::l,.seq _ b=>K4 l b
 | false::l,.seq a _=>K4 l a
 | _,c=>c
def x8 (f:Func):Code:=f.body.getD .skip
inductive TyF:Ty->Prop
 | nat:TyF c8
 | list:TyF r5
 | unit:TyF O7
 | pair {a b:Ty}:TyF a->TyF b->TyF (B6 a b)
 | func {a b:Ty}:TyF a->TyF b->TyF (x9 a b)
mutual
def tyH:Ty->Nat
 | .mk _ l=>cv5 l+1
def cv5:List Ty->Nat
 | []=>0
 | t::l=>max (tyH t) (cv5 l)
end
theorem Y3:tyH c8=1:=by simp [c8,tyH,cv5]
theorem at3:tyH r5=1:=by simp [r5,tyH,cv5]
theorem at4:tyH O7=1:=by simp [O7,tyH,cv5]
theorem an2 {a b:Ty}:tyH (B6 a b)=max (tyH a) (tyH b)+1:=by simp [B6,tyH,cv5]
theorem ar0 {a b:Ty}:tyH (x9 a b)=max (tyH a) (tyH b)+1:=by simp [x9,tyH,cv5]
theorem TyF.W (h:TyF t):TyW t:=by
 induction h<;>grind [J9,Y0,br5,cE8,au5]
mutual
theorem Ty.N6:∀ {a b:Ty},Ty.same a b=true->a=b
 | .mk k l,.mk k' l',h=>by
  simp only [Ty.same,A3,L1] at h;rw [h.1,Ty.ab8 h.2]
theorem Ty.ab8:∀ {a b:List Ty},Ty.A5 a b=true->a=b
 | [],[],_=>rfl
 | x::l,y::l',h=>by
  simp only [Ty.A5,A3] at h;rw [Ty.N6 h.1,Ty.ab8 h.2]
 | [],_::_,h=>by simp [Ty.A5] at h
 | _::_,[],h=>by simp [Ty.A5] at h
end
mutual
theorem Ty.U5:∀ a:Ty,Ty.same a a=true
 | .mk k l=>by simp [Ty.same,Ty.ab7 l]
theorem Ty.ab7:∀ l:List Ty,Ty.A5 l l=true
 | []=>by simp [Ty.A5]
 | x::l=>by simp [Ty.A5,Ty.U5 x,Ty.ab7 l]
end
inductive N0:Nat->Ty->Prop
 | nat {n:Nat}:N0 n c8
 | list {n:Nat}:N0 n r5
 | unit {n:Nat}:N0 n O7
 | pair {n:Nat} {a b:Ty}:N0 n a->N0 n b->N0 (n+1) (B6 a b)
 | func {n:Nat} {a b:Ty}:N0 n a->N0 n b->N0 (n+1) (x9 a b)
theorem aq0 {l:List Int}:∀ (n a:Nat),N0 n (mkType l n a).1
  | 0, a => by rw [mkType];repeat' split
               all_goals first|exact .nat|exact .list|exact .unit
  | n+1,a=>by
    rw [mkType];repeat' split
    all_goals first|exact .nat|exact .list|exact .unit|exact .pair (aq0 _ _) (aq0 _ _)|exact .func (aq0 _ _) (aq0 _ _)
theorem N0.F {n:Nat} (h:N0 n t):TyF t:=by
 induction h with
 | nat=>exact .nat
 | list=>exact .list
 | unit=>exact .unit
 | pair _ _ h1 h2=>exact .pair h1 h2
 | func _ _ h1 h2=>exact .func h1 h2
theorem N0.H {n:Nat} (h:N0 n t):tyH t<=n+1:=by
 induction h<;>grind [Y3,at3,at4,an2,ar0]
inductive J3:Nat->List Ty->Ty->Tm->Prop
 | var {n:Nat} {g:List Ty} {t:Ty} {i:Nat} (hi:i<g.length) (h:g[g.length - 1 - i]? = some t):J3 n g t (a9 i)
 | app {n:Nat} {g:List Ty} {t s:Ty} {b x:Tm} (hs:N0 0 s):J3 n (g++[s]) t b->J3 n g s x->J3 (n+1) g t (tm0 3 [tmT 2 s [b],x])
 | fst {n:Nat} {g:List Ty} {t s:Ty} {x y:Tm} (hs:N0 0 s):J3 n g t x->J3 n g s y->J3 (n+1) g t (tm0 11 [tm0 10 [x,y]])
 | snd {n:Nat} {g:List Ty} {t s:Ty} {x y:Tm} (hs:N0 0 s):J3 n g s x->J3 n g t y->J3 (n+1) g t (tm0 12 [tm0 10 [x,y]])
 | V8 {n:Nat} {g:List Ty} {t:Ty} {b f:Tm} {k:Nat} (hk:k<3):J3 n (g++[c8,t]) t f->J3 n g t b ->
   J3 (n+1) g t (tmT 6 t [b,tmT 2 c8 [tmT 2 t [f]],G3 k])
 | fold {n:Nat} {g:List Ty} {t:Ty} {b f x:Tm}:J3 n (g++[c8,r5,t]) t f->J3 n g t b->J3 n g r5 x ->
   J3 (n+1) g t (tmT 9 t [b,tmT 2 c8 [tmT 2 r5 [tmT 2 t [f]]],x])
 | fapp {n:Nat} {g:List Ty} {t s:Ty} {x:Tm} {i:Nat} (hi:i<g.length) (h:g[g.length - 1 - i]? = some (x9 s t)):J3 n g s x ->
   J3 (n+1) g t (tm0 3 [a9 i,x])
 | succ {n:Nat} {g:List Ty} {x:Tm}:J3 n g c8 x->J3 (n+1) g c8 (tm0 5 [x])
 | plus {n:Nat} {g:List Ty} {x y:Tm}:J3 n g c8 x->J3 n g c8 y->J3 (n+1) g c8 (tm0 3 [tm0 3 [aL3,x],y])
 | sub {n:Nat} {g:List Ty} {x y:Tm}:J3 n g c8 x->J3 n g c8 y->J3 (n+1) g c8 (tm0 3 [tm0 3 [aM5,x],y])
 | num {n:Nat} {g:List Ty} {k:Nat} (hk:k<3):J3 n g c8 (G3 k)
 | cons {n:Nat} {g:List Ty} {x y:Tm}:J3 n g c8 x->J3 n g r5 y->J3 (n+1) g r5 (tm0 8 [x,y])
 | nil {n:Nat} {g:List Ty}:J3 n g r5 (tm0 7 [])
 | pair {n:Nat} {g:List Ty} {a b:Ty} {x y:Tm}:J3 (n - 1) g a x->J3 (n - 1) g b y->J3 n g (B6 a b) (tm0 10 [x,y])
 | lam {n:Nat} {g:List Ty} {a b:Ty} {x:Tm}:J3 (n - 1) (g++[a]) b x->J3 n g (x9 a b) (tmT 2 a [x])
 | unit {n:Nat} {g:List Ty}:J3 n g O7 (tm0 13 [])
theorem J3.W {n:Nat} {x:Tm} (h:J3 n g t x) (hg:∀ y∈g,TyF y) (ht:TyF t):TmW x:=by
 have app:∀ {g l:List Ty},(∀ y∈g,TyF y)->(∀ y∈l,TyF y)->∀ y∈g++l,TyF y:=by
  intro g l h1 h2 y hy;rcases Q8.1 hy with hy|hy
  ·exact h1 y hy
  ·exact h2 y hy
 induction h with
 | var=>exact A6 _
 | app hs _ _ h1 h2=>exact G9 (bM0 hs.F.W b_ (by simp [h1 (app hg (by simp [hs.F])) ht])) (h2 hg hs.F)
 | fst hs _ _ h1 h2=>exact ad7 (G9 (h1 hg ht) (h2 hg hs.F))
 | snd hs _ _ h1 h2=>exact ad7 (G9 (h1 hg hs.F) (h2 hg ht))
 | V8 hk _ _ h1 h2=>exact bj0 ht.W (h2 hg ht) (az7 J9 (az7 ht.W (h1 (app hg (by simp [ht,TyF.nat])) ht))) (aq2 _)
 | fold _ _ _ h1 h2 h3 =>
  exact bj0 ht.W (h2 hg ht) (az7 J9 (az7 Y0 (az7 ht.W (h1 (app hg (by simp [ht,TyF.nat,TyF.list])) ht)))) (h3 hg .list)
 | fapp hi h _ h1 =>
  have:=hg _ (Q7 h);cases this<;>grind [G9,A6]
 | succ _ h1=>exact ad7 (h1 hg ht)
 | plus _ _ h1 h2=>grind [G9,ab6]
 | sub _ _ h1 h2=>grind [G9,aj5]
 | num=>exact aq2 _
 | cons _ _ h1 h2=>exact G9 (h1 hg .nat) (h2 hg ht)
 | nil=>exact ah9
 | pair _ _ h1 h2=>cases ht with|pair ha hb=>grind [G9]
 | lam _ h1=>cases ht with|func ha hb=>exact bM0 ha.W b_ (by grind)
 | unit=>exact ah9
theorem cr5 {n:Int} (h1:0<k) (h2:k<=1000000):0<=cr4 n k/\cr4 n k<k:=by
 unfold cr4;have a1:=Int.tmod_lt_of_pos n h1;have a2 : -k<n.tmod k:=by
  have:=Int.lt_tmod_of_pos n h1;omega
 rw [wrap_small a_ a_];exact ⟨Int.tmod_nonneg _ a_,Int.tmod_lt_of_pos _ h1⟩
theorem H8 {l:List Int} {a:Nat} {n:Int} (h1:0<n) (h2:n<=1000000):0<=(r8 l a n).1/\(r8 l a n).1<n:=by
 unfold r8;split
 ·omega
 ·exact cr5 h1 h2
def aV3 (g:List Ty) (t:Ty) (i:Nat):Bool :=
 match g[g.length - 1 - i]? with
 | some y=>y.kind==4&&(match y.args[1]? with|some q=>Ty.same q t|none=>false)
 | none=>false
theorem co2 (h:(List.range g.length).find? (aV3 g t)=none) {i:Nat} (hi:i<g.length):aV3 g t i=false:=by
 grind
theorem co3 {k:Nat} (h:(List.range g.length).find? (aV3 g t)=some k):k<g.length/\aV3 g t k=true/\∀ i,i<k->aV3 g t i=false:=by
 simp_all
theorem cL8 {k:Nat} (hg:∀ y∈g,TyF y) (h:aV3 g t k=true):∃ s,g[g.length - 1 - k]? = some (x9 s t)/\TyF s/\x9 s t∈g:=by
 unfold aV3 at h;split at h
 ·rename_i y hy
  have hm:=Q7 hy;have:=hg y hm;cases this<;>grind [x9,Ty.kind,Ty.args,Ty.N6,c8,r5,O7,B6]
 ·simp at h
theorem cR3 {k:Nat} {v:Int} (h:(aV9 g t g.length)[k]? = some v):∃ i:Nat,v=(i:Int)/\i<g.length/\g[g.length - 1 - i]? = some t:=by
 have hm:=Q7 h;obtain ⟨i,hi,rfl⟩:=G5.1 hm;obtain ⟨h1,h2⟩:=List.mem_filter.1 hi;refine ⟨i,rfl,by simpa using h1,?_⟩
 grind [ci5,Ty.N6]
theorem dE5 {y:Ty} (h:TyF y) (hk:(y.kind==4)=true):∃ p q,y=x9 p q:=by
 cases h<;>grind [c8,r5,O7,B6,Ty.kind]
inductive aM1 (u:Bool):Nat->List Ty->Fm->Prop
 | eq {n:Nat} {g:List Ty} {x y:Tm}:J3 1 g c8 x->J3 1 g c8 y->aM1 u n g (u6 x y)
 | two {n:Nat} {g:List Ty} {k:Int} {a b:Fm} (hk:k=2\/k=3):aM1 u n g a->aM1 u n g b->aM1 u (n+1) g (o8 k a b)
 | q {n:Nat} {g:List Ty} {k:Int} {s:Ty} {a:Fm} (hk:k=4\/k=5\/(u=true/\(k=6\/k=7))) (hs:N0 (if u then 1 else 0) s) :
   aM1 u n (g++[s]) a->aM1 u (n+1) g (fmQ k s a)
theorem ap5 {x y:Tm} (hx:TmW x) (hy:TmW y):FmW (u6 x y):=.mk _ _ _ _ aC0 b_ (by simp [hx,hy]) b_ b_
theorem bR4 {a b:Fm} (ha:FmW a) (hb:FmW b):FmW (o8 k a b):=.mk _ _ _ _ aC0 b_ b_ b_ (by simp [ha,hb])
theorem bI4 {a:Fm} (ht:TyW t) (ha:FmW a):FmW (fmQ k t a):=.mk _ _ _ _ ht b_ b_ b_ (by simp [ha])
theorem N0.up {n:Nat} (h:N0 n t):∀ {m:Nat},n<=m->N0 m t:=by
 induction h with
 | nat=>exact fun _=>.nat
 | list=>exact fun _=>.list
 | unit=>exact fun _=>.unit
 | pair _ _ h1 h2=>intro m hm;match m,hm with
           | m+1,hm=>exact .pair (h1 a_) (h2 a_)
 | func _ _ h1 h2=>intro m hm;match m,hm with
           | m+1,hm=>exact .func (h1 a_) (h2 a_)
variable {g':G}
theorem RV.freeze {g:G} {S:Id->Prop} (hl:∀ b,g.lim b<=g'.lim b) (hk:∀ b,g'.nd b=g.nd b) (hS:∀ id,S id->g'.dom id=true/\g'.loc id=g.loc id/\g'.buf id=g.buf id)
  {c:Value} (h:RV g w c v) (hin:InV S v):RV g' w c v:=by
 induction h with
 | undef c=>exact .undef c
 | bool b=>exact .bool b
 | int k n=>exact .int k n
 | str s=>exact .str s
 | agg vs cs h _ ih=>grind [InV,agg,M7]
 | tup vs cs h _ ih=>grind [InV,tup,M7]
 | sl a cap c es k cell hk aa3 F5 _ hc ih =>
  refine .sl a cap c es k cell hk aa3 (fun hne=>?_) (fun i v hv=>ih i v hv (M7 (aD4.1 hin.2) hv)) ?_
  ·grind
  cases c with
  | any=>trivial
  | full=>exact hc
  | own id =>
   obtain ⟨a1,a2,a3⟩:=hS id hin.1;exact ⟨a1,by rw [a3];exact hc.2⟩
 | ptr id off h=>grind [InV,ptr]
 | slb id n cap h h2=>grind [InV,slb]
 | slr id n cap h h2=>grind [InV,slr]
 | mpr id h=>grind [InV,mpr]
 | el b off cs o cell hlm F5 _ ih=>exact .el b off cs o cell (S1 hlm (hl b)) F5 fun i v hv=>ih i v hv (M7 hin hv)
 | nd b cs ok o cell hok hlm F5 _ hf ih=>exact .nd b cs ok o cell ((hk b).trans hok) (S1 hlm (hl b)) F5 (fun i v hv=>ih i v hv (M7 hin hv)) hf
 | U3=>exact .U3
 | fn f fs cs fs' cs' h1 h2 _ _ ih1 ih2 =>
  grind [InV,fn,M7]
 | V7=>exact .V7
 | iface t c v _ ih=>grind [InV,iface]
 | L3=>exact .L3
theorem RV.move {g:G} {S:Id->Prop} (hl:g'.lim=g.lim) (hk:∀ b,g'.nd b=g.nd b) (hS:∀ id,S id->g'.dom id=true/\g'.loc id=g.loc id/\g'.buf id=g.buf id)
  {c:Value} (h:RV g w c v) (hin:InV S v):RV g' w c v :=
 h.freeze (fun b=>by rw [hl];exact w7 _) hk hS hin
theorem Rel.cV6 {env:Nat->Option (List V)} {h0:H} (R6:Rel env g0 w0 h0) {j:Id} (e:h0 j=some (.box cs)):InL (fun j=>h0 j≠none) cs:=by
 obtain ⟨vs0,_,z2,z3,_⟩:=R6.box j cs e;refine aM8 fun i v hv=>?_;obtain ⟨c0,hc0⟩:=bs5 (g:=g0) (w:=w0) z2 hv;exact as3 (fun i hi=>(R6.dom i).1 hi) v ((z3 i c0 v hc0 hv).inV)
theorem cx3 {env:Nat->Option (List V)} {n:Nat} {h0 hT:H} {k:List It}
  {i0:Id} {rv rv':V} (R6:Rel env g0 w0 h0) (hdm:∀ j,hT j≠none↔h0 j≠none) (hbx:∀ j cs',hT j=some (.box cs')->InL (fun j=>h0 j≠none) cs') (hid:h0 id=none) (n8:ax9 P σ fn.results.toList=some [rv])
  (hb:σ.h i0=some (.box cs)) (h00:h0 i0=none) (hin:InL (fun j=>h0 j≠none) cs) (hag:m8 hT σ.h)
  (dM4:∀ {g g':G} {w:World} {cv:Value},g'.lim=g.lim->g'.nd=g.nd->(∀ j,h0 j≠none->g'.dom j=true/\g'.loc j=g.loc j/\g'.buf j=g.buf j)->g'.dom id=true->g.loc i0=g'.loc id->RV g w cv rv->RV g' w cv rv') :
  AR ⟨P,env,n,fn,g0,w0,h0,rv',p8 hT id (.box cs)⟩ gen k .ret σ:=by
 have en6:hT id=none:=Classical.not_not.1 fun e=>(hdm id).1 e hid;refine ao5 ?_;intro _ _ g a w hx r;obtain ⟨cv,h1,h2⟩:=bn2 r fn n8;have q:=r.rel
 let g':G:={ g with dom:=fun j=>decide (p8 hT id (.box cs) j≠none),loc:=fun j=>if j=id then g.loc i0 else g.loc j,top:=max g.top (id.gen+1) }
 have hmv:∀ {c:Value} {v:V},RV g w c v->InV (fun j=>h0 j≠none) v->RV g' w c v:=by
  intro c v hv hi;refine RV.move (g:=g) (g':=g') rfl (fun _=>rfl) ?_ hv hi;intro j hj;exact ⟨by grind [m7],by grind,rfl⟩
 have hold:∀ j,j≠id->p8 hT id (.box cs) j=hT j:=fun j hj=>m7 hj;refine ⟨r.defers,cv,h1,cv,g',rfl,?_,?_,?_⟩
 ·refine ⟨hx.os,hx.tape,hx.output,hx.size,hx.lim,hx.cells,hx.wr,fun j hj=>?_,S1 hx.top (by show g.top<=max _ _;omega)⟩
  obtain ⟨a1,a2,a3⟩:=hx.dom j hj;have hj0:=(R6.dom j).1 hj
  grind
 ·refine ⟨fun j=>by grind,?_,?_,?_,?_,?_,?_,q.bp3 fun j l e=>?_,q.B3,?_⟩
  ·intro j hj
   show _<max _ _;by_cases e:j=id
   ·subst e;omega
   ·have hj:p8 hT id (.box cs) j≠none:=hj
    rw [hold j e] at hj;have:=q.top j (by rw [hag j hj];exact hj);omega
  ·intro j cs' e
   have e:p8 hT id (.box cs) j=some (.box cs'):=e;by_cases hj:j=id
   ·subst hj
    rw [A1] at e;obtain ⟨vs,b1,b2,b3,b4,b5⟩:=q.box i0 cs hb
    grind [M7,cF9]
   ·rw [hold j hj] at e
    obtain ⟨vs,b1,b2,b3,b4,b5⟩:=q.box j cs' (hag.at e)
    grind [cF9,M7]
  ·intro i1 i2 c1 c2 e1 e2 e
   have e1:p8 hT id (.box cs) i1=some (.box c1):=e1;have e2:p8 hT id (.box cs) i2=some (.box c2):=e2;have e':(if i1=id then g.loc i0 else g.loc i1)=(if i2=id then g.loc i0 else g.loc i2):=e;by_cases f1:i1=id<;>by_cases f2:i2=id
   ·rw [f1,f2]
   ·rw [B8 f1,y9 f2] at e'
    rw [hold i2 f2] at e2;have:=q.inj i0 i2 cs c2 hb (hag.at e2) e'
    grind
   ·rw [y9 f1,B8 f2] at e'
    rw [hold i1 f1] at e1;have:=q.inj i1 i0 c1 cs (hag.at e1) hb e'
    grind
   ·rw [y9 f1,y9 f2] at e'
    rw [hold i1 f1] at e1;rw [hold i2 f2] at e2;exact q.inj i1 i2 c1 c2 (hag.at e1) (hag.at e2) e'
  ·intro j n' k' e
   have e:p8 hT id (.box cs) j=some (.tok n' k'):=e;have hj:j≠id:=by intro f;rw [f,A1] at e;simp at e
   rw [hold j hj] at e;exact q.tok j n' k' (hag.at e)
  ·intro i1 i2 n' k' c' e hlt e2 a ha
   have e:p8 hT id (.box cs) i1=some (.tok n' k'):=e;have e2:p8 hT id (.box cs) i2=some (.box c'):=e2;have hj:i1≠id:=by intro f;rw [f,A1] at e;simp at e
   rw [hold i1 hj] at e;show a.block≠(if i2=id then g.loc i0 else g.loc i2);by_cases f2:i2=id
   ·rw [B8 f2];exact q.apart i1 i0 n' k' cs (hag.at e) hlt hb a ha
   ·rw [y9 f2];rw [hold i2 f2] at e2;exact q.apart i1 i2 n' k' c' (hag.at e) hlt (hag.at e2) a ha
  ·intro i1 i2 n1 n2 k1 k2 e hlt e2 an6
   have e:p8 hT id (.box cs) i1=some (.tok n1 k1):=e;have e2:p8 hT id (.box cs) i2=some (.tok n2 k2):=e2;have f1:i1≠id:=by intro f;rw [f,A1] at e;simp at e
   have f2:i2≠id:=by intro f;rw [f,A1] at e2;simp at e2
   rw [hold i1 f1] at e;rw [hold i2 f2] at e2;exact q.U9 i1 i2 n1 n2 k1 k2 (hag.at e) hlt (hag.at e2) an6
  ·have e:p8 hT id (.box cs) j=some (.map l):=e
   have hj:j≠id:=by intro f;rw [f,A1] at e;simp at e
   rw [hold j hj] at e;exact ⟨hag.at e,fun _=>⟨by grind,rfl,fun a=>a⟩⟩
  ·intro k' cs' e
   exact hmv (q.glob k' cs' e) (as3 (fun i hi=>(R6.dom i).1 hi) _ (R6.glob k' cs' e).inV)
 ·have hd:g'.dom id=true:=by show decide _=true;rw [A1];simp
  have hl:g.loc i0=g'.loc id:=by show _=(if id=id then _ else _);rw [B8 rfl]
  exact dM4 (g:=g) (g':=g') rfl rfl (fun j hj=>⟨by grind,by grind,rfl⟩) hd hl h2
theorem dG1 {env:Nat->Option (List V)} {n:Nat} {h0:H} {k:List It}
  {i0:Id} (R6:Rel env g0 w0 h0) (hid:h0 id=none) (n8:ax9 P σ fn.results.toList=some [.ptr i0 0])
  (hb:σ.h i0=some (.box cs)) (h00:h0 i0=none) (hin:InL (fun j=>h0 j≠none) cs) (hag:m8 h0 σ.h) :
  AR ⟨P,env,n,fn,g0,w0,h0,.ptr id 0,p8 h0 id (.box cs)⟩ gen k .ret σ :=
 cx3 R6 (fun _=>Iff.rfl) (fun _ _ e=>R6.cV6 e) hid n8 hb h00 hin hag fun _ _ _ hd hl h=>by
  cases h;rw [hl];exact .ptr id 0 hd
variable {d:Id}
theorem p5 {h k:H} (hd:h d=some o) (a:a6 d h k) (hgf:∀ r i,k ⟨gn,r,i⟩=none) (hk:∀ r i,d≠⟨gn,r,i⟩):∀ r i,h ⟨gn,r,i⟩=none :=
 fun r i=>by
  cases e:h ⟨gn,r,i⟩ with
  | none=>rfl
  | some o=>exact absurd (a _ (fun q=>hk r i q.symm) (by rw [e];simp)) (by rw [hgf,e];simp)
theorem u5 {h:H} (hfr:∀ id,h id≠none->id.gen<gen) (hd:h d=some o) (hlt:gen<gn) (r i:Nat):(d=⟨gn,r,i⟩)=False :=
 n9 (fun id hid=>Nat.lt_trans (hfr id hid) hlt) hd r i
theorem D4 {h:H} (hfr:∀ id,h id≠none->id.gen<gen) (hd:h d=some o) (hlt:gen<gn) (r i:Nat):((⟨gn,r,i⟩:Id)=d)=False :=
 p6 (fun id hid=>Nat.lt_trans (hfr id hid) hlt) hd r i
def dR6 (P:Program) (env:Nat->Option (List V)) (f:FuncId) (args:List V) (cs:List V):Prop :=
 ∀ (h:H) (id:Id),h id=none->Ret P env f args h (.ptr id 0) (p8 h id (.box cs))
theorem bF5 {env:Nat->Option (List V)} {k:FuncId} {args:List V} {h:H} {R:Eff->Prop} (id:Id) (hp:dR6 P env k args cs)
    (hd:h id=none) (hr:R ⟨.ptr id 0,[id],[(id,.box cs)]⟩):ar1 P env k args h R :=
  ⟨⟨.ptr id 0,[id],[(id,.box cs)]⟩,b_,fun h2 hh=>by
    have:=hp h2 id (by rw [hh id b_,hd])
    grind [L9],hr⟩

end GoAbs
namespace GoAbs
open Go Go.ChangeShapes Go.WideShapes Go.RowKit
def G0 (W:World):G where
 lim:=fun b=>match W.heap[b]? with|some (.cells c _ _)=>c.size|_=>0
 wr:=fun _=>false
 nd:=fun _=>none
 loc:=fun _=>0
 buf:=fun _=>⟨none,0,0,0⟩
 dom:=fun _=>false
 top:=0
def h0:H:=fun _=>none
theorem cO9 {env:Nat->Option (List V)} {W:World} (hg:∀ k cs,env k=some cs->RV (G0 W) W (.pointer (some ⟨k,0,none⟩)) (.el cs 0)):Rel env (G0 W) W h0 where
 dom:=fun id=>by simp [G0,h0]
 top:=fun id h=>by simp [h0] at h
 box:=fun id cs h=>by simp [h0] at h
 inj:=fun id id' cs cs' h=>by simp [h0] at h
 tok:=fun id n k h=>by simp [h0] at h
 apart:=fun id id' n k cs h=>by simp [h0] at h
 U9:=fun id id' n n' k k' h=>by simp [h0] at h
 map:=fun id l h=>by simp [h0] at h
 B3:=fun b hb=>by
  show (match W.heap[b]? with|some (.cells c _ _)=>c.size|_=>0)=0;rw [Array.getElem?_eq_none hb]
 glob:=hg
variable {v:Value}
theorem bm3 {W:World} {b off:Nat} (h:W.cell? ⟨b,off,none⟩=some v):off<(G0 W).lim b:=by
 simp only [World.cell?] at h;show off<(match W.heap[b]? with|some (.cells c _ _)=>c.size|_=>0);split at h
 ·rename_i c t fr hb
  rw [hb];simp at h;exact (Z3.1 h).1
 ·cases h
section
variable {H':Type} {enc:TypeId × Value->H'} {P:Program} {W W':World}
theorem cQ4 {a:Addr} (h:W.cell? a=some v):a=⟨a.block,a.off,none⟩:=by
 obtain ⟨b,o,s⟩:=a;cases s with
 | none=>rfl
 | some s =>
  simp only [World.cell?] at h;split at h
  ·simp at h
  ·cases h
variable {t e:TypeId}
theorem dy8 (ht:P.underlying t=some (.slice e)) (he:P.underlying e=some (.int .i64)) (hc:P.cellsOf e=1) {base base':Nat} {sp:Nat->Bool} {held:Bool}
 {d:DataW H'} {ps:List MemPlace} (hk:Value.okWide P W .any base' t v) (h:DataW.Trod enc P W base sp held t v d ps) :
  ∃ l:List Int,RV (G0 W) W v (.sl .any (ints l)):=by
 obtain ⟨fuel,h⟩:=h;obtain ⟨a0,len0,cap0,rfl⟩:=okWide_slice ht hk;rcases open_ints ht he hc h with ⟨hcs,_⟩|⟨a,len,cap,zs,hcs,_,hl,hm,hz,_,ac8,_⟩
 ·simp [Value.cells] at hcs
  obtain ⟨rfl,rfl,rfl⟩:=hcs;exact ⟨[],.sl none 0 .any [] 1 (fun _=>.nilFunc) b_ b_ b_ b_ trivial⟩
 ·simp [Value.cells] at hcs
  obtain ⟨rfl,rfl,rfl⟩:=hcs;have hlz:len0<=zs.length:=by rw [hz];split<;>omega
  refine ⟨zs.take len0,?_⟩;have hel:(ints (zs.take len0)).length=len0:=by rw [bb7,ae6];omega
  have key:RV (G0 W) W (.slice (some a) (ints (zs.take len0)).length cap0) (.sl .any (ints (zs.take len0))):=by
   refine .sl (some a) cap0 .any _ 1 (fun i=>.int .i64 (zs.getD i 0)) ?_ a_ ?_ ?_ trivial
   ·intro e he;obtain ⟨n,_,rfl⟩:=G5.1 he;rfl
   ·intro hne
    have cM7:0<len0:=by
     rcases bC0 len0 with h0|h0
     ·subst h0;exact absurd rfl hne
     ·exact h0
    have h0:=ac8 0 a_;have ha:a.add 0=a:=by simp [Addr.add]
    rw [ha] at h0;have hs:=cQ4 h0;have bE4:∀ i,i<len0->W.cell? ⟨a.block,a.off+i,none⟩=some (.int .i64 (zs.getD i 0)):=by
     intro i hi;have:=ac8 i a_;rw [hs,av5] at this;exact this
    refine ⟨a.block,a.off,by rw [<- hs],?_,fun i hi=>bE4 i a_⟩;have:=bm3 (bE4 (len0 - 1) a_);omega
   ·intro i v hv
    have e:(ints (zs.take len0)).flatten=(zs.take len0).map fun n=>V.int .i64 n:=by
     generalize zs.take len0=l
     induction l with
     | nil=>rfl
     | cons x l ih=>simp [ints] at ih ⊢;exact ih
    rw [e,ah6] at hv;cases hx:(zs.take len0)[i]? with
    | none=>simp [hx] at hv
    | some x =>
     simp [hx] at hv;subst hv;have hx':zs[i]? = some x:=by
      rw [be2] at hx;split at hx
      ·exact hx
      ·cases hx
     simp only [bN0,hx',aa7];exact .int _ _
  rw [hel] at key;exact key
theorem dj0 {n:Nat} (ht:P.underlying t=some (.array n e)) (he:P.underlying e=some (.int .i64)) (hc:P.cellsOf e=1) {base fuel g:Nat} {sp:Nat->Bool} {held:Bool}
  {cs:Array Value} {zs:List Int} {ps:List MemPlace} (hd:DataW.trod enc P W base sp held fuel t cs.toList=some (.agg (zs.map fun z=>.lit (.int .i64 z)),ps))
  (ac8:∀ i,W.cell? ⟨g,i,none⟩=cs[i]?):RV (G0 W) W (.pointer (some ⟨g,0,none⟩)) (.el (zs.map fun z=>.int .i64 z) 0):=by
 obtain ⟨xs,m,_,hx,hlen,hn,hel⟩:=DataW.trod_array ht hd;simp only [aA5,DataW.agg.injEq] at hx;have hzl:zs.length=xs.length:=by have:=congrArg List.length hx.1;simpa using this
 have bE4:∀ i,i<zs.length->W.cell? ⟨g,i,none⟩=some (.int .i64 (zs.getD i 0)):=by
  intro i hi;have h1:=hel i a_;have hxi:∃ y,xs[i]? = some y:=⟨_,W4 a_⟩;obtain ⟨y,hy⟩:=hxi;rw [hc,Nat.mul_one,hy] at h1;obtain ⟨k,e1,e2,_⟩:=DataW.trod_int he h1;have hz:zs[i]? = some k:=by
   have e3:(zs.map fun z=>(DataW.lit (.int .i64 z):DataW H'))[i]? = (xs.map (·.1))[i]? := by rw [hx.1]
   rw [ah6,ah6,hy] at e3;cases hzi:zs[i]? with
   | none=>rw [hzi] at e3;simp at e3
   | some z=>rw [hzi,e2] at e3;simp at e3;rw [e3]
  rw [ac8,bN0,hz,aa7];have e4:cs.toList[i]? = some (.int .i64 k):=by
   have:=congrArg (fun l:List Value=>l[0]?) e1;simpa [be2,List.getElem?_drop] using this
  simpa using e4
 have key:=RV.el (g:=G0 W) (w:=W) g 0 (zs.map fun z=>V.int .i64 z) 0 (fun i=>.int .i64 (zs.getD i 0)) ?_ ?_ ?_
 ·exact key
 ·rcases bC0 zs.length with h0|h0
  ·simp [h0]
  ·have:=bm3 (bE4 (zs.length - 1) a_)
   rw [ao2];omega
 ·intro i hi
  rw [ao2] at hi;rw [aW6];exact bE4 i hi
 ·intro i v hv
  rw [ah6] at hv;cases hz:zs[i]? with
  | none=>simp [hz] at hv
  | some z =>
   simp [hz] at hv;subst hv;simp only [bN0,hz,aa7];exact .int _ _
def sizedB (P:Program):Bool:=(List.range P.types.size).all fun t=>match P.underlying t with|some (.slice e)=>decide (0<P.cellsOf e)|_=>true
theorem dN1 (h:sizedB P=true) (ht:t<P.types.size) (hu:P.underlying t=some (.slice e)):0<P.cellsOf e:=by
 have:=ad2.1 h t (by simpa using ht);rw [hu] at this;simpa using this
theorem dj1 {g':G} (x:Ext (G0 W) W g' W') {b:Nat} (hb:b<W.heap.size):W'.heap[b]? = W.heap[b]? := (x.wr.1 b hb rfl).1
theorem aV7 (K:Kids P (·<P.types.size)) (hs:sizedB P=true) (hold:∀ b,b<W.heap.size->W'.heap[b]? = W.heap[b]?) {sp:Nat->Bool} :
  ∀ {ts:List TypeId} {vs:List Value} {ds:List (DataW H')} {ps:List MemPlace},(∀ t∈ts,t<P.types.size) ->
  DataW.TrodAll enc P W 0 (fun _=>true) true ts vs ds ps->(∀ p∈ps,p.block<W.heap.size)->(∀ p∈ps,sp p.block=true)->DataW.TrodAll enc P W' 0 sp true ts vs ds ps
 | [],[],[],_,_,h,_,_=>h
 | t::ts,v::vs,d::ds,_,ht,⟨p,q,⟨n,h⟩,h',e⟩,hl,hsp=>by
  subst e;refine ⟨p,q,⟨n,?_⟩,aV7 K hs hold (fun t h=>ht t (List.mem_cons_of_mem _ h)) h' (fun x hx=>hl x (List.mem_append_right _ hx)) (fun x hx=>hsp x (List.mem_append_right _ hx)),rfl⟩;refine DataW.trod_stays K (fun ht hu=>dN1 hs ht hu) (fun h=>by cases h) (ht t b_) h ?_ (fun x hx=>hsp x (cw9 _ hx));intro x hx;have hb:=hl x (cw9 _ hx);cases x with
  | cell b off =>
   have:=hold b hb;simp [World.sameAt,World.cell?,this]
  | map b=>exact hold b hb
theorem dh4 {f:Func} {s:ChangeSpec} {args:Array Value} {ds gs:List (DataW H')} {before:List MemPlace} {tb:TypeId} {fresh handsOn again:Bool}
  (K:Kids P (·<P.types.size)) (hs:sizedB P=true) (hts:∀ t∈f.params.toList,t<P.types.size) (dE4:s.vars=[])
  (hW:DataW.Whole enc P f.params.toList s.vars false W args.toList ds gs before) (n8:f.resultTypes=#[tb]) (htb:P.underlying tb=some .bool)
  (hfn:(s.fn H' ds).results=[.lit (.bool true)]/\(s.fn H' ds).args=ds/\(s.fn H' ds).vars=[])
  (hos:W'.os=W.os) (ef1:W'.output=W.output) (dY6:W.heap.size<=W'.heap.size) (hold:∀ b,b<W.heap.size->W'.heap[b]? = W.heap[b]?) :
  s.post enc P f false fresh handsOn again W args (.bool true) W':=by
 have hlt:=hW.lt;have hW0:=hW;obtain ⟨p,q,h1,h2,rfl,h3,h4⟩:=hW;rw [dE4] at h2;obtain ⟨rfl,rfl⟩:=trodVars_none h2;rw [ae7] at *;have hR:∀ (b:Nat) (sp:Nat->Bool) (hd:Bool),DataW.TrodAll enc P W' b sp hd f.resultTypes.toList ((Value.bool true).resultList f.resultTypes.size) (s.fn H' ds).results []:=by
  intro b sp hd;rw [n8,hfn.1];exact trodAll_mk1 (shut_bool htb true)
 have hA:∀ sp:Nat->Bool,(∀ x∈p,sp x.block=true)->DataW.TrodAll enc P W' 0 sp true f.params.toList args.toList (s.fn H' ds).args p:=by
  intro sp hsp;rw [hfn.2.1];exact aV7 K hs hold hts h1 hlt hsp
 have hV:∀ sp:Nat->Bool,DataW.TrodVars enc P W' sp s.vars (s.fn H' ds).vars []:=by
  intro sp;rw [dE4,hfn.2.2];exact rfl
 have hfz:∀ b off,MemPlace.cell b off∈p->W'.frozen? ⟨b,off,none⟩=false:=by
  intro b off hp;have:=h3 b off hp;have hb:=hold b (hlt _ hp);simpa [World.frozen?,hb] using this
 refine ⟨ds,[],p,[],p,[],hW0,by rw [ae7];exact hR _ _ _,by rw [ae7];exact hA _ (fun x hx=>by simpa using hlt x hx),by rw [ae7];exact hV _,?_,fun _=>?_⟩
 ·refine ⟨hos,ef1,fun i hi=>?_⟩
  rw [hold i hi];have:=(World.keptBut_refl W (fun p=>False)).2.2 i hi;split
  ·rename_i e1 e2
   rw [e1] at e2;cases e2;exact ⟨rfl,rfl,rfl,fun _ _=>rfl⟩
  ·rename_i e1 e2
   rw [e1] at e2;cases e2;exact .inr ⟨rfl,rfl⟩
  ·rfl
 ·refine ⟨ok_one n8 rfl (okWide_bool_mk htb true),_,_,[]++p++[],⟨[]++p,[],trodAll_append (hA _ (fun _ _=>rfl)) (hR _ _ _),hV _,rfl,?_,fun h=>by cases h⟩,?_⟩
  ·intro b off hp
   exact hfz b off (by simpa using hp)
  ·intro x hx _
   simpa using hx
theorem cN5 {env:Nat->Option (List V)} {f:FuncId} {args:Array Value} {vs:List V} (hp:Pure P env f vs (.bool true))
  (hg:∀ k cs,env k=some cs->RV (G0 W) W (.pointer (some ⟨k,0,none⟩)) (.el cs 0)) (ha:RVL (G0 W) W args vs) {Q:Ending->World->Prop}
  (hq:∀ W',W'.os=W.os->W'.output=W.output->W.heap.size<=W'.heap.size->(∀ b,b<W.heap.size->W'.heap[b]? = W.heap[b]?)->Q (.returned (.bool true)) W') :
  Calls P f args W Q:=by
 obtain ⟨_,h⟩:=hp h0;refine (h (G0 W) W args (cO9 hg) ha).mono ?_;rintro e W' ⟨c,g',rfl,x,_,hv⟩;cases hv;exact hq W' x.os x.output x.size (fun b hb=>dj1 x hb)
end
end GoAbs
namespace GoAbs
open Go Go.ChangeShapes Go.WideShapes Go.RowKit
section
variable {H':Type} {enc:TypeId × Value->H'} {P:Program} {W:World} {base:Nat} {sp:Nat->Bool} {held:Bool}
instance:Inhabited Ty:=⟨.mk 0 []⟩
instance:Inhabited Tm:=⟨.mk 0 0 (.mk 0 []) []⟩
instance:Inhabited Fm:=⟨.mk 0 (.mk 0 []) [] []⟩
end
def aA8 (P:Program) (env:Nat->Option (List V)) (f:FuncId) (args:List V) (es:List (Id × Obj)) (v:V):Prop :=
 ∀ h:H,(∀ p∈es,h p.1=some p.2)->Ret P env f args h v h
theorem R3 {P:Program} {env:Nat->Option (List V)} {k:FuncId} {args:List V} {h:H} {R:Eff->Prop} {es:List (Id × Obj)} {v:V} (hp:aA8 P env k args es v)
  (he:∀ p∈es,h p.1=some p.2) (hr:R ⟨v,es.map (·.1),[]⟩):ar1 P env k args h R :=
 ⟨⟨v,es.map (·.1),[]⟩,b_,fun h2 hh=>hp h2 (fun p hp=>by rw [hh p.1 (G5.2 ⟨p,hp,rfl⟩),he p hp]),hr⟩
def ad3 (P:Program) (env:Nat->Option (List V)) (f:FuncId) (args:List V) (es:List (Id × Obj)) (d:Id) (o:Obj) (v:V) (o':Obj):Prop :=
 ∀ h:H,(∀ p∈es,h p.1=some p.2)->h d=some o->Ret P env f args h v (p8 h d o')
theorem P2 {P:Program} {env:Nat->Option (List V)} {k:FuncId} {args:List V} {h:H} {R:Eff->Prop} {es:List (Id × Obj)} {d:Id} {o o':Obj} {v:V}
    (hp:ad3 P env k args es d o v o') (he:∀ p∈es,h p.1=some p.2) (hd:h d=some o) (hr:R ⟨v,d::es.map (·.1),[(d,o')]⟩):ar1 P env k args h R :=
  ⟨⟨v,d::es.map (·.1),[(d,o')]⟩,b_,fun h2 hh=>by
    have:=hp h2 (fun p hp=>by rw [hh p.1 (by simp only [D9,G5];exact .inr ⟨p,hp,rfl⟩),he p hp]) (by rw [hh d b_,hd])
    grind [L9],hr⟩

theorem S2 {c:Ctx} {gen:Nat} {σ:St} (h:AR c gen [] .ret σ):AR c gen [] .normal σ:=fun ok hm g a w hx r=>h ok hm g a w hx r
theorem j_ {p : Prop} (a : p := by simp only [go_sem, *]) : p := a
theorem q_ {p : Prop} (a : p := by simp only [go_sem, *] <;> rfl) : p := a
theorem r_ {p : Prop} (a : p := by simp only [go_sem, *] <;> omega) : p := a
theorem h_ {p : Prop} (a : p := by kernel_rfl) : p := a
theorem s_ {p : Prop} (a : p := by first | exact l6 _ _ | exact e9 _ _) : p := a
theorem t_ {h k : H} (a : O3 h k := by repeat (first | exact O3.refl _ | refine O3.new ?_ (hgf _ _) | refine O3.new ?_ (e9 _ _) | refine O3.box ?_ rfl | refine O3.box ?_ (by simp only [go_sem, *]))) : O3 h k := a
end GoAbs
