/-
 The abstract layer: how a function is walked.
-/
import Derived.Test.YtmfhhhhnokhggaaGreatDoorAbsA
set_option linter.unusedSimpArgs false
set_option linter.unusedVariables false
set_option linter.unusedSectionVars false
namespace GoAbs
open Go
def ar1 (P:Program) (env:Nat->Option (List V)) (k:FuncId) (args:List V) (h:H) (R:Eff->Prop):Prop :=
 ∃ e:Eff,(∀ p∈e.writes,p.1∈e.reads)/\(∀ h2:H,(∀ id∈e.reads,h2 id=h id)->Ret P env k args h2 e.v (L9 h2 e.writes))/\R e
variable {P:Program} {k:FuncId} {h:H}
@[congr] theorem dB6 {env:Nat->Option (List V)} {args args':List V} {R:Eff->Prop} (e:args=args') :
  ar1 P env k args h R=ar1 P env k args' h R:=by rw [e]
abbrev av4:=Nat × List Id × List Id
def ak3 (ops:Array Oper) (i:Nat) (e:Eff):List av4->Prop
 | []=>True
 | (j,rs,ws)::l=>(((∀ p∈e.writes,p.1 ∉ rs)/\∀ id∈ws,id ∉ e.reads)\/cs7 ops j i=true)/\ak3 ops i e l
def ad4 (i:Nat) (e:Eff) (log:List av4):List av4 :=
 match e.reads with
 | []=>log
 | r::rs=>(i,r::rs,e.writes.map (·.1))::log
def O1 (P : Program) (env:Nat->Option (List V)) (ops:Array Oper) (draw:Bool) (gen reg:Nat):List Oper->Nat->List av4->(St->Prop)->St->Prop
  | [],_,_,K,σ=>K σ
  | o :: rest,i,log,K,σ =>
    match aB4 ops o σ.tm with
    | none=>False
    | some false=>O1 P env ops draw gen reg rest (i+1) log K ⟨upd σ.tm o.dst (.tup []),σ.h⟩
    | some true =>
      match o.op with
      | .call { callee:=.value x,args:=args,.. } =>
        (match av env σ.tm x with
        | .fn (.func k) first captured =>
          ar1 P env k (B1 (first++args.toList.map (av env σ.tm)++captured)) σ.h fun e =>
            (draw=true->ak3 ops i e log)/\O1 P env ops draw gen reg rest (i+1) (ad4 i e log) K (σ.put o.dst e)
        | _=>False)
      | .call { callee:=.invoke x name,args:=args,.. } =>
        (match av env σ.tm x with
        | .iface t v =>
          (match cO2 P t name with
          | some k=>ar1 P env k (B1 (v::args.toList.map (av env σ.tm))) σ.h fun e =>
            (draw=true->ak3 ops i e log)/\O1 P env ops draw gen reg rest (i+1) (ad4 i e log) K (σ.put o.dst e)
          | none=>False)
        | _=>False)
      | op =>
        match aM4 P (av env σ.tm) σ.h ⟨gen,reg,i⟩ op with
        | some e=>(draw=true->ak3 ops i e log)/\O1 P env ops draw gen reg rest (i+1) (ad4 i e log) K (σ.put o.dst e)
        | none=>False

theorem bx9 {ops:Array Oper} {i:Nat} {e:Eff}:∀ {log:List av4},ak3 ops i e log->∀ j rs ws,(j,rs,ws)∈log ->
  cs7 ops j i=true\/((∀ p∈e.writes,p.1 ∉ rs)/\∀ id∈ws,id ∉ e.reads)
 | [],_,_,_,_,h=>by simp at h
 | (j',rs',ws')::l,⟨h1,h2⟩,j,rs,ws,h=>by
  rcases D9.1 h with e'|h
  ·cases e';exact h1.symm
  ·exact bx9 h2 j rs ws h
variable {ops:Array Oper} {gen reg i:Nat} {rest:List Oper} {log:List av4} {K:St->Prop} {σ:St}
theorem bX8 {env:Nat->Option (List V)} {draw:Bool} {o:Oper}
 (h : O1 P env ops draw gen reg (o::rest) i log K σ) :
    (aB4 ops o σ.tm=some false/\O1 P env ops draw gen reg rest (i+1) log K ⟨upd σ.tm o.dst (.tup []),σ.h⟩) \/
    (aB4 ops o σ.tm=some true/\∃ e,Stp P env (av env σ.tm) σ.h ⟨gen,reg,i⟩ o.op e/\(draw=true->ak3 ops i e log) /\
      O1 P env ops draw gen reg rest (i+1) (ad4 i e log) K (σ.put o.dst e)):=by
  rw [O1] at h;cases hg:aB4 ops o σ.tm with
  | none=>grind
  | some b =>
    rw [hg] at h;cases b with
    | false=>exact .inl ⟨rfl,h⟩
    | true =>
      right
      refine ⟨rfl,?_⟩;simp only at h;split at h
      · rename_i x args ts hop
        split at h
        · rename_i k first captured hf
          obtain ⟨e,h1,h2,h3,h4⟩:=h;exact ⟨e,.inr ⟨_,hop,k,_,.inl ⟨x,first,captured,rfl,hf,rfl⟩,h1,h2⟩,h3,h4⟩
        · exact h.elim
      · rename_i x name args ts hop
        split at h
        · rename_i t v hf
          split at h
          · rename_i k hm
            obtain ⟨e,h1,h2,h3,h4⟩:=h;exact ⟨e,.inr ⟨_,hop,k,_,.inr ⟨x,name,t,v,rfl,hf,hm,rfl⟩,h1,h2⟩,h3,h4⟩
          · exact h.elim
        · exact h.elim
      · split at h
        · rename_i e he
          exact ⟨e,.inl he,h.1,h.2⟩
        · exact h.elim

theorem aH2 {P:Program} {env:Nat->Option (List V)} {ops:Array Oper} {draw:Bool} {gen reg:Nat} {K:St->Prop} :
    ∀ (rest:List Oper) (i:Nat) (log:List av4) (σ:St) (done:List (Nat × Option Eff)),(∀ j,rest[j]? = ops[i+j]?) ->
      (∀ x∈done,∀ e,x.2=some e->e.reads=[]\/(x.1,e.reads,e.writes.map (·.1))∈log)->(∀ x∈done,∀ e,x.2=some e->∀ p∈e.writes,p.1∈e.reads) ->
      O1 P env ops draw gen reg rest i log K σ ->
      ∃ l σe,l.map (·.1)=(List.range rest.length).map (i+·)/\as0 P env ops gen reg l σ σe/\K σe /\
        (draw=true->l.Pairwise (aN0 ops)/\∀ x∈done,∀ y∈l,aN0 ops x y)
  | [],i,log,σ,done,_,_,_,h=>⟨[],σ,rfl,.nil σ,h,fun _=>⟨.nil,b_⟩⟩
  | o :: rest,i,log,σ,done,hr,hl,hw,h=>by
    have ho:ops[i]? = some o:=by have:=hr 0;simpa using this.symm
    have hr':∀ j,rest[j]? = ops[i+1+j]? := fun j=>by
      have:=hr (j+1)
      grind
    have dM5:i::(List.range rest.length).map (i+1+·)=(List.range (o::rest).length).map (i+·):=by
      rw [J1,List.range_succ_eq_map,E0,aR3];simp;omega
    rcases bX8 h with ⟨hg,h'⟩|⟨hg,e,hs,dX2,h'⟩
    · obtain ⟨l,σe,h1,h2,h3,h4⟩:=aH2 rest (i+1) log _ ((i,none)::done) hr'
        (fun x hx e he=>by
          rcases D9.1 hx with rfl|hx
          · simp at he
          · exact hl x hx e he)
        (fun x hx e he=>by
          rcases D9.1 hx with rfl|hx
          · simp at he
          · exact hw x hx e he) h'
      refine ⟨(i,none)::l,σe,by rw [E0,h1];exact dM5,.cons _ _ _ _ _ ⟨o,ho,hg,rfl⟩ h2,h3,fun hd=>?_⟩;obtain ⟨h5,h6⟩:=h4 hd;refine ⟨bC7.2 ⟨fun y hy=>h6 _ b_ y hy,h5⟩,fun x hx y hy=>?_⟩;rcases D9.1 hy with rfl|hy
      · right
        cases x.2<;>trivial
      grind
    · have hws:=bA3 hs
      obtain ⟨l,σe,h1,h2,h3,h4⟩:=aH2 rest (i+1) (ad4 i e log) _ ((i,some e)::done) hr'
        (fun x hx e' he=>by
          unfold ad4;rcases D9.1 hx with rfl|hx
          · cases he
            cases hre:e.reads with
            | nil=>exact .inl rfl
            | cons r rs=>simp
          · rcases hl x hx e' he with h|h
            · exact .inl h
            · right
              split
              · exact h
              · simp [h])
        (fun x hx e' he=>by
          rcases D9.1 hx with rfl|hx
          · cases he;exact hws
          · exact hw x hx e' he) h'
      refine ⟨(i,some e)::l,σe,by rw [E0,h1];exact dM5,.cons _ _ _ _ _ ⟨o,ho,hg,hs,rfl⟩ h2,h3,fun hd=>?_⟩;obtain ⟨h5,h6⟩:=h4 hd;refine ⟨bC7.2 ⟨fun y hy=>h6 _ b_ y hy,h5⟩,fun x hx y hy=>?_⟩;rcases D9.1 hy with rfl|hy
      · unfold aN0 bS2
        cases hx2:x.2 with
        | none=>right;trivial
        | some ex =>
          rcases hl x hx ex hx2 with he|hm
          · right
            have hwx:=hw x hx ex hx2;refine ⟨fun p hp=>?_,fun p hp=>?_⟩
            · have:=hwx p hp;rw [he] at this;simp at this
            · rw [he];simp
          · rcases bx9 (dX2 hd) _ _ _ hm with h|⟨ha,hb⟩
            · exact .inl h
            · right
              exact ⟨fun p hp=>hb p.1 (G5.2 ⟨p,hp,rfl⟩),ha⟩
      grind

structure Ctx where
 P:Program
 env:Nat->Option (List V)
 n:Nat
 fn:Func
 g0:G
 w0:World
 h0:H
 v:V
 h':H
def Ctx.R (c:Ctx) (e:Ending) (w:World):Prop :=
 ∃ cv g',e=.returned cv/\Ext c.g0 c.w0 g' w/\Rel c.env g' w c.h'/\RV g' w cv c.v
inductive It where
 | code (c:Code)
 | block (id:Nat)
 | inv (J:St->Prop)
def aB9 (c:Ctx):List It->Exit->Act->World->Prop
 | [],e,a,w=>bodyPost c.P c.fn c.R e a w
 | .code x::k,.normal,a,w=>x.wp c.P (aB9 c k) a w
 | .code _::k,e,a,w=>aB9 c k e a w
 | .block _::k,.normal,a,w=>aB9 c k .normal a w
 | .block id::k,.exit id',a,w=>if id'=id then aB9 c k .normal a w else aB9 c k (.exit id') a w
 | .block _::k,e,a,w=>aB9 c k e a w
 | .inv J::_,.normal,a,w=>∃ g σ,Ext c.g0 c.w0 g w/\M1 c.env c.n g w a σ/\J σ
 | .inv _::k,e,a,w=>aB9 c k e a w
def O2 (n:Nat):Code->Bool
 | .region _ ops draw=>aL1 n ops&&(!draw||aO0 ops)
 | .seq a b=>O2 n a&&O2 n b
 | .cond _ a b=>O2 n a&&O2 n b
 | .block _ b=>O2 n b
 | .loop b=>O2 n b
 | .exit _ | .ret | .skip=>true
 | _=>false
def T9 (n:Nat):List It->Bool
 | []=>true
 | .code c::k=>O2 n c&&T9 n k
 | _::k=>T9 n k
def AR (c:Ctx) (gen:Nat) (k:List It) (e:Exit) (σ:St):Prop :=
 T9 c.n k=true->c.P.follows .mixedOrders=true->∀ g a w,Ext c.g0 c.w0 g w->M1 c.env c.n g w a σ->aB9 c k e a w
section
variable {c:Ctx} {gen:Nat} {k:List It} {σ:St}
theorem P8 (h:AR c gen k .normal σ):AR c gen (.code .skip::k) .normal σ :=
 fun ok hm g a w x r=>wp_skip (h (by grind [T9]) hm g a w x r)
variable {y:Code}
theorem K8 {x:Code} (h:AR c gen (.code x::.code y::k) .normal σ):AR c gen (.code (.seq x y)::k) .normal σ:=by
 intro ok hm g a w hx r;have ok':T9 c.n (.code x::.code y::k)=true:=by simpa [T9,O2,Bool.and_assoc] using ok
 refine wp_seq (wp_mono (h ok' hm g a w hx r) ?_);intro e a' w' hp;cases e<;>exact hp
variable {b:Bool}
theorem M6 {x:Code} {t:Operand} (ht:av c.env σ.tm t=.bool b) (h1:b=true->AR c gen (.code x::k) .normal σ)
  (h2:b=false->AR c gen (.code y::k) .normal σ):AR c gen (.code (.cond t x y)::k) .normal σ:=by
 intro ok hm g a w hx r;have hr:=bL2 r t;rw [ht] at hr;have hc:a.eval t=.bool b:=by cases hh:a.eval t<;>rw [hh] at hr<;>cases hr;rfl
 simp only [T9,O2,A3] at ok;refine wp_cond_split hc (fun hb=>?_) (fun hb=>?_)
 ·exact h1 hb (by grind [T9]) hm g a w hx r
 ·exact h2 hb (by grind [T9]) hm g a w hx r
variable {id:Nat}
theorem K7 {x:Code} (h:AR c gen (.code x::.block id::k) .normal σ):AR c gen (.code (.block id x)::k) .normal σ:=by
 intro ok hm g a w hx r;have ok':T9 c.n (.code x::.block id::k)=true:=by simpa [T9,O2] using ok
 refine wp_block (wp_mono (h ok' hm g a w hx r) ?_);intro e a' w' hp;cases e<;>exact hp
theorem P7 (h:AR c gen k (.exit id) σ):AR c gen (.code (.exit id)::k) .normal σ :=
 fun ok hm g a w x r=>wp_exit (h (by grind [T9]) hm g a w x r)
theorem Y5 (h:AR c gen k .ret σ):AR c gen (.code .ret::k) .normal σ :=
 fun ok hm g a w x r=>wp_ret (h (by grind [T9]) hm g a w x r)
theorem C8 (h:AR c gen k .normal σ):AR c gen (.block id::k) .normal σ:=fun ok hm g a w x r=>h ok hm g a w x r
theorem B4 (h:AR c gen k .normal σ):AR c gen (.block id::k) (.exit id) σ:=fun ok hm g a w x r=>by
 simp only [aB9,p7];exact h ok hm g a w x r
theorem A8 {id':Nat} (hne:id'≠id) (h:AR c gen k (.exit id') σ):AR c gen (.block id::k) (.exit id') σ:=fun ok hm g a w x r=>by
 simp only [aB9,y9 hne];exact h ok hm g a w x r
theorem B5 {x:Code} (h:AR c gen k (.exit id) σ):AR c gen (.code x::k) (.exit id) σ:=fun ok hm g a w hx r =>
 h (by grind [T9]) hm g a w hx r
theorem E4 {J:St->Prop} (h:AR c gen k (.exit id) σ):AR c gen (.inv J::k) (.exit id) σ:=fun ok hm g a w hx r=>h ok hm g a w hx r
theorem ao5:∀ {k:List It},AR c gen [] .ret σ->AR c gen k .ret σ
 | [],h=>h
 | .code x::k,h=>fun ok hm g a w hx r=>ao5 (k:=k) h (by grind [T9]) hm g a w hx r
 | .block id::k,h=>fun ok hm g a w hx r=>ao5 (k:=k) h (by simpa [T9] using ok) hm g a w hx r
 | .inv J::k,h=>fun ok hm g a w hx r=>ao5 (k:=k) h (by simpa [T9] using ok) hm g a w hx r
theorem D3 {J:St->Prop} (h:J σ):AR c gen (.inv J::k) .normal σ:=fun _ _ g a w hx r=>⟨g,σ,hx,r,h⟩
variable {e:Exit}
theorem at5 {gen':Nat} (h:∀ gn,(∀ id,σ.h id≠none->id.gen<gn)->AR c gn k e σ):AR c gen' k e σ :=
 fun ok hm g a w hx r=>h g.top (fun id hid=>r.rel.top id hid) ok hm g a w hx r
theorem D2 {draw:Bool} (h:O1 c.P c.env ops draw gen id ops.toList 0 [] (fun σ'=>AR c gen k .normal σ') σ) :
  AR c gen (.code (.region id ops draw)::k) .normal σ:=by
 intro ok hm g a w hx r;simp only [T9,O2,A3,bp0,Bool.not_eq_true'] at ok;obtain ⟨⟨hd,hdr⟩,okk⟩:=ok;obtain ⟨l,σe,h1,h2,h3,h4⟩:=aH2 ops.toList 0 [] σ [] (fun j=>by simp) b_ b_ h;have hl:l.map (·.1)=List.range ops.size:=by rw [h1];simp
 have hk:∀ g' a' w',Ext g w g' w'->M1 c.env c.n g' w' a' σe->aB9 c k .normal a' w':=fun g' a' w' hx' r'=>h3 okk hm g' a' w' (hx.trans hx') r';cases draw with
 | false =>
  refine wp_region ?_;rw [<- hl];exact aS5 hd l h2 r hk
 | true =>
  have hdk:aO0 ops=true:=by simpa using hdr
  exact ba5 hd hdk hm hl (h4 rfl).1 h2 r hk
theorem dm2 {body:Code} (J:St->Prop) (μ:St->Nat) (h0:J σ)
  (round:∀ σ',J σ'->AR c gen (.code body::.inv (fun σ2=>J σ2/\μ σ2<μ σ')::k) .normal σ'):AR c gen (.code (.loop body)::k) .normal σ:=by
 intro ok hm g a w hx r;have ok':∀ J',T9 c.n (.code body::.inv J'::k)=true:=fun J'=>by simpa [T9,O2] using ok
 let I:Act->World->Prop:=fun a w=>∃ g σ,Ext c.g0 c.w0 g w/\M1 c.env c.n g w a σ/\J σ
 let S:Act->World->Nat->Prop:=fun a w n=>∃ g σ,Ext c.g0 c.w0 g w/\M1 c.env c.n g w a σ/\J σ/\μ σ=n
 have hS:∀ a w,I a w->∃ n,S a w n:=fun a w ⟨g,σ,h1,h2,h3⟩=>⟨μ σ,g,σ,h1,h2,h3,rfl⟩;have cp7:∀ (p:Nat->Prop),(∃ n,p n)->∃ n,p n/\∀ m,p m->n<=m:=by
  intro p ⟨n,hn⟩
  induction n using Nat.strongRecOn with
  | _ n ih =>
   by_cases hh:∃ m,m<n/\p m
   ·obtain ⟨m,hm1,hm2⟩:=hh;exact ih m hm1 hm2
   ·exact ⟨n,hn,fun m hm=>bC3 fun hlt=>hh ⟨m,hlt,hm⟩⟩
 let M:Act->World->Nat:=fun a w=>by
  classical
  exact if h:∃ n,S a w n then Classical.choose (cp7 _ h) else 0
 have hM:∀ a w,I a w->S a w (M a w)/\∀ m,S a w m->M a w<=m:=by
  intro a w hI;have he:=hS a w hI;have:M a w=Classical.choose (cp7 _ he):=by simp only [M];rw [dif_pos he]
  rw [this];exact bB9 (cp7 _ he)
 refine wp_loop (Q:=aB9 c k) I M ⟨g,σ,hx,r,h0⟩ ?_;intro a w hI;obtain ⟨⟨g,σ',h1,h2,h3,h4⟩,_⟩:=hM a w hI;refine wp_mono (round σ' h3 (ok' _) hm g a w h1 h2) ?_;intro e a' w' hp;cases e with
 | normal =>
  obtain ⟨g2,σ2,p1,p2,p3,p4⟩:=hp;have hI':I a' w':=⟨g2,σ2,p1,p2,p3⟩;refine ⟨hI',?_⟩;have:=(hM a' w' hI').2 (μ σ2) ⟨g2,σ2,p1,p2,p3,rfl⟩;omega
 | _=>exact hp
theorem E6 {body:Code} (J:Nat->St->Prop) (n:Nat) (h0:J 0 σ)
  (round:∀ i σ',i<=n->J i σ'->AR c gen (.code body::.inv (fun σ2=>i<n/\J (i+1) σ2)::k) .normal σ'):AR c gen (.code (.loop body)::k) .normal σ:=by
 have cp7:∀ (p:Nat->Prop),(∃ n,p n)->∃ n,p n/\∀ m,p m->n<=m:=by
  intro p ⟨n,hn⟩
  induction n using Nat.strongRecOn with
  | _ n ih =>
   by_cases hh:∃ m,m<n/\p m
   ·obtain ⟨m,hm1,hm2⟩:=hh;exact ih m hm1 hm2
   ·exact ⟨n,hn,fun m hm=>bC3 fun hlt=>hh ⟨m,hlt,hm⟩⟩
 let S:St->Nat->Prop:=fun σ q=>∃ i,i<=n/\J i σ/\q=n - i
 let M:St->Nat:=fun σ=>by
  classical
  exact if h:∃ q,S σ q then Classical.choose (cp7 _ h) else 0
 have hM:∀ σ,(∃ i,i<=n/\J i σ)->S σ (M σ)/\∀ m,S σ m->M σ<=m:=by
  intro σ ⟨i,h1,h2⟩;have he:∃ q,S σ q:=⟨n - i,i,h1,h2,rfl⟩;have:M σ=Classical.choose (cp7 _ he):=by simp only [M];rw [dif_pos he]
  rw [this];exact bB9 (cp7 _ he)
 refine dm2 (fun σ=>∃ i,i<=n/\J i σ) M ⟨0,az9 _,h0⟩ ?_;intro σ' hJ;obtain ⟨⟨i,h1,h2,h3⟩,_⟩:=hM σ' hJ;have hr:=round i σ' h1 h2;intro ok hm g a w hx r;have:=hr (by simpa [T9] using ok) hm g a w hx r;refine wp_mono this ?_;intro e a' w' hp;cases e with
 | normal =>
  obtain ⟨g2,σ2,p1,p2,p3,p4⟩:=hp;refine ⟨g2,σ2,p1,p2,⟨i+1,a_,p4⟩,?_⟩;have:=(hM σ2 ⟨i+1,a_,p4⟩).2 (n - (i+1)) ⟨i+1,a_,p4,rfl⟩;omega
 | _=>exact hp
end
def ae0 (S:Id->Prop):Cap->Prop
 | .own id=>S id
 | .any=>True
 | .full=>True
mutual
def InV (S:Id->Prop):V->Prop
 | .undef=>True
 | .bool _=>True
 | .int _ _=>True
 | .str _=>True
 | .agg cs=>InL S cs
 | .tup vs=>InL S vs
 | .sl c es=>ae0 S c/\S8 S es
 | .ptr id _=>S id
 | .slb id _=>S id
 | .slr id _ _=>S id
 | .mpr id=>S id
 | .el cs _=>InL S cs
 | .nd cs _ _=>InL S cs
 | .U3=>True
 | .fn _ a b=>InL S a/\InL S b
 | .V7=>True
 | .iface _ v=>InV S v
 | .L3=>True
def InL (S:Id->Prop):List V->Prop
 | []=>True
 | v::vs=>InV S v/\InL S vs
def S8 (S:Id->Prop):List (List V)->Prop
 | []=>True
 | v::vs=>InL S v/\S8 S vs
end
theorem aZ3 {S:Id->Prop}:∀ {l:List V},InL S l↔∀ v∈l,InV S v
 | []=>by simp [InL]
 | v::vs=>by simp [InL,aZ3 (l:=vs)]
theorem R5 {S:Id->Prop}:∀ {l:List (List V)},S8 S l↔∀ v∈l,InL S v
 | []=>by simp [S8]
 | v::vs=>by simp [S8,R5 (l:=vs)]
theorem aD4 {S:Id->Prop} {es:List (List V)}:S8 S es↔InL S es.flatten:=by
 grind [R5,aZ3,List.mem_flatten]
variable {l:List V} {v:V}
theorem M7 {S:Id->Prop} (h:InL S l) (hv:l[i]? = some v):InV S v:=aZ3.1 h v (Q7 hv)
theorem aM8 {S:Id->Prop} (h:∀ (i:Nat) v,l[i]? = some v->InV S v):InL S l:=aZ3.2 fun v hv=>by
 obtain ⟨i,hi,e⟩:=List.mem_iff_getElem.1 hv;exact h i v (by rw [W4 hi,e])
variable {cs:List V}
theorem bp7 {g:G} {w:World} {vs:Array Value} (h:vs.size=cs.length) (hv:cs[i]? = some v):∃ c,vs[i]? = some c:=by
 have hi:i<cs.length:=(F2.1 hv).1
 simp_all
theorem bs5 {g:G} {w:World} {vs:Array Value} (h:cs.length<=vs.size) (hv:cs[i]? = some v):∃ c,vs[i]? = some c:=by
 have hi:i<cs.length:=(F2.1 hv).1;exact ⟨vs[i],aW1 a_⟩
theorem cn1 {S T:Id->Prop} (hst:∀ id,S id->T id):∀ c,ae0 S c->ae0 T c
 | .own id,h=>hst id h
 | .any,_=>trivial
 | .full,_=>trivial
mutual
theorem as3 {S T:Id->Prop} (hst:∀ id,S id->T id):∀ v,InV S v->InV T v
 | .undef,_=>by trivial
 | .bool _,_=>by trivial
 | .int _ _,_=>by trivial
 | .str _,_=>by trivial
 | .agg cs,h=>by exact as2 hst cs h
 | .tup cs,h=>by exact as2 hst cs h
 | .sl c es,h=>by exact ⟨cn1 hst c h.1,bF8 hst es h.2⟩
 | .ptr id off,h=>by grind [InV]
 | .slb id n,h=>by grind [InV]
 | .slr id n cp,h=>by grind [InV]
 | .mpr id,h=>by grind [InV]
 | .el cs _,h=>by exact as2 hst cs h
 | .nd cs _ _,h=>by exact as2 hst cs h
 | .U3,_=>by trivial
 | .fn f a b,h=>by exact ⟨as2 hst a h.1,as2 hst b h.2⟩
 | .V7,_=>by trivial
 | .iface t v,h=>by exact as3 hst v h
 | .L3,_=>by trivial
theorem as2 {S T:Id->Prop} (hst:∀ id,S id->T id):∀ l,InL S l->InL T l
 | [],_=>by rw [InL];trivial
 | v::vs,h=>by rw [InL] at h ⊢;exact ⟨as3 hst v h.1,as2 hst vs h.2⟩
theorem bF8 {S T:Id->Prop} (hst:∀ id,S id->T id):∀ l,S8 S l->S8 T l
 | [],_=>by rw [S8];trivial
 | v::vs,h=>by rw [S8] at h ⊢;exact ⟨as2 hst v h.1,bF8 hst vs h.2⟩
end
variable {g:G} {w:World}
theorem RV.inV {c:Value} (h:RV g w c v):InV (fun id=>g.dom id=true) v:=by
  induction h with
  | undef c=>simp [InV]
  | bool b=>simp [InV]
  | int k n=>simp [InV]
  | str s=>simp [InV]
  | agg vs cs h _ ih=>exact aM8 fun i v hv=>by obtain ⟨c,hc⟩:=bp7 (g:=g) (w:=w) h hv;exact ih i c v hc hv
  | tup vs cs h _ ih=>exact aM8 fun i v hv=>by obtain ⟨c,hc⟩:=bp7 (g:=g) (w:=w) h hv;exact ih i c v hc hv
  | sl a cap c es k cell hk aa3 F5 _ hc ih =>
    refine ⟨?_,aD4.2 (aM8 fun i v hv=>ih i v hv)⟩;cases c with
    | own id=>exact hc.1
    | any=>trivial
    | full=>trivial
  | ptr id off h=>exact h
  | slb id n cap h h2=>exact h
  | slr id n cap h h2=>exact h
  | mpr id h=>exact h
  | el b off cs o cell hl F5 _ ih=>grind [InV,aM8]
  | nd b cs ok o cell hok hl F5 _ hf ih=>grind [InV,aM8]
  | U3=>simp [InV]
  | fn f fs cs fs' cs' h1 h2 _ _ ih1 ih2 =>
    exact ⟨aM8 fun i v hv=>by obtain ⟨c,hc⟩:=bp7 (g:=g) (w:=w) h1 hv;exact ih1 i c v hc hv,
      aM8 fun i v hv=>by obtain ⟨c,hc⟩:=bp7 (g:=g) (w:=w) h2 hv;exact ih2 i c v hc hv⟩
  | V7=>simp [InV]
  | iface t c v _ ih=>exact ih
  | L3=>simp [InV]

def G.trim (g:G) (d:Id->Bool):G:={ g with dom:=d }
theorem RV.trim {d:Id->Bool} {c:Value} (h:RV g w c v) (hin:InV (fun id=>d id=true) v):RV (g.trim d) w c v:=by
 induction h with
 | undef c=>exact .undef c
 | bool b=>exact .bool b
 | int k n=>exact .int k n
 | str s=>exact .str s
 | agg vs cs h _ ih=>grind [InV,agg,M7]
 | tup vs cs h _ ih=>grind [InV,tup,M7]
 | sl a cap c es k cell hk aa3 F5 _ hc ih =>
  refine .sl a cap c es k cell hk aa3 F5 (fun i v hv=>ih i v hv (M7 (aD4.1 hin.2) hv)) ?_;cases c with
  | any=>trivial
  | full=>exact hc
  | own id=>exact ⟨hin.1,hc.2⟩
 | ptr id off h=>exact .ptr (g:=g.trim d) id off hin
 | slb id n cap h h2=>exact .slb (g:=g.trim d) id n cap hin h2
 | slr id n cap h h2=>exact .slr (g:=g.trim d) id n cap hin h2
 | mpr id h=>exact .mpr (g:=g.trim d) id hin
 | el b off cs o cell hl F5 _ ih=>exact .el (g:=g.trim d) b off cs o cell hl F5 fun i v hv=>ih i v hv (M7 hin hv)
 | nd b cs ok o cell hok hl F5 _ hf ih=>exact .nd (g:=g.trim d) b cs ok o cell hok hl F5 (fun i v hv=>ih i v hv (M7 hin hv)) hf
 | U3=>exact .U3
 | fn f fs cs fs' cs' h1 h2 _ _ ih1 ih2 =>
  grind [InV,fn,M7]
 | V7=>exact .V7
 | iface t c v _ ih=>grind [InV,iface]
 | L3=>exact .L3
def m8 (h k:H):Prop:=∀ id,h id≠none->k id=h id
theorem m8.refl (h:H):m8 h h:=fun _ _=>rfl
variable {id:Id} {o:Obj}
theorem m8.new {k:H} (a:m8 h k) (hn:h id=none):m8 h (p8 k id o):=fun i hi=>by
 have:i≠id:=fun e=>hi (by rw [e];exact hn);rw [m7 this];exact a i hi
theorem m8.at {k:H} (a:m8 h k) (e:h id=some o):k id=some o:=by rw [a id (by rw [e];simp),e]
def dn9 (P:Program) (σ:St):ResultVar->Option V
 | .tmp t=>some (σ.tm t)
 | .cell t ty =>
  match tyi P ty,σ.tm t with
  | some i,.ptr id off=>(match σ.h id with|some (.box cs)=>af8 i.agg i.size cs off|_=>none)
  | _,_=>none
def ax9 (P:Program) (σ:St):List ResultVar->Option (List V)
 | []=>some []
 | r::rs=>match dn9 P σ r,ax9 P σ rs with
  | some v,some vs=>some (v::vs)
  | _,_=>none
def bK5:List V->V
 | [v]=>v
 | vs=>.tup vs
def cg4 (P:Program) (a:Act):ResultVar->Sem Value
 | .tmp t=>pure (a.tmps.getD t undef)
 | .cell x t=>do loadVar t (<- asAddr (a.tmps.getD x undef))
theorem cg9 {P:Program} {env:Nat->Option (List V)} {n:Nat} {g:G} {w:World} {a:Act} {σ:St} (r:M1 env n g w a σ) :
    ∀ (rs:List ResultVar) (vs:List V),ax9 P σ rs=some vs->∃ cs:List Value,(rs.mapM (cg4 P a)).run P w=.ok cs w/\RVL g w cs.toArray vs
  | [],vs,h=>by
    simp [ax9] at h;subst h;exact ⟨[],b_,by simp [RVL]⟩
  | x :: rs,vs,h=>by
    simp only [ax9] at h;split at h
    case h_2=>simp at h
    rename_i v vs' h1 h2;cases h;obtain ⟨cs,hc,hr⟩:=cg9 r rs vs' h2;have:∃ cv,(cg4 P a x).run P w=.ok cv w/\RV g w cv v:=by
      cases x with
      | tmp t=>simp [dn9] at h1;subst h1;exact ⟨a.tmps.getD t undef,by simp [cg4],r.tm t⟩
      | cell t ty =>
        simp only [dn9] at h1;split at h1
        case h_2=>simp at h1
        rename_i i id off hi hv;split at h1
        case h_2=>simp at h1
        rename_i cs0 hb;have hx:=r.tm t;rw [hv] at hx;generalize hcx:a.tmps.getD t undef=cc at hx;cases hx;obtain ⟨vs,⟨ty',hb1⟩,hb2,hb3,_,_⟩:=r.rel.box id cs0 hb;obtain ⟨cv,h3,h4⟩:=bd3 (P:=P) (g:=g) (w:=w) hi h1 (b:=g.loc id) (base:=0) (cell:=fun j=>vs[j]?.getD undef)
          (by intro j hj;simp [World.cell?,hb1,show j<vs.size by omega])
          (by
            intro j v hv;obtain ⟨c,hc1,hc2⟩:=(show bW6 g w vs cs0 from ⟨hb2,hb3⟩).at hv;simp only [hc1,aa7];exact hc2)
        grind [cg4,asAddr]
    obtain ⟨cv,h3,h4⟩:=this;refine ⟨cv::cs,?_,?_⟩
    · simp_all
    · have hl:=hr.1
      simp at hl;refine ⟨by simp [hl],fun i c v' hc' hv'=>?_⟩;cases i with
      | zero=>grind
      | succ i=>exact hr.2 i c v' (by simpa using hc') (by simpa using hv')

variable {vs:List V}
theorem bn2 {env:Nat->Option (List V)} {n:Nat} {a:Act} (r:M1 env n g w a σ) (fn:Func)
    (h:ax9 P σ fn.results.toList=some vs):∃ c,(results fn a.tmps).run P w=.ok c w/\RV g w c (bK5 vs):=by
  obtain ⟨cs,h1,h2⟩:=cg9 r _ _ h;have hm:results fn a.tmps=(do
      let vs <- fn.results.mapM (cg4 P a)
      pure (if h:vs.size=1 then vs[0] else .tuple vs)):=rfl
  rw [hm,Array.mapM_eq_mapM_toList];refine ⟨if h:cs.toArray.size=1 then cs.toArray[0] else .tuple cs.toArray,?_,?_⟩
  · simp_all
  have hl:=h2.1
  match cs,vs,hl,h2 with
  | [c],[v],_,h2=>exact h2.2 0 c v b_ b_
  | [],[],_,h2=>exact .tup _ _ h2.1 h2.2
  | c1::c2::cs,v1::v2::vs,_,h2=>exact .tup _ _ h2.1 h2.2

variable {c:Ctx}
theorem bN4 (n8:ax9 c.P σ c.fn.results.toList=some vs) (hv:J5 (bK5 vs)=c.v) (hag:m8 c.h' σ.h)
  (bE7:∀ id,c.h0 id≠none->c.h' id≠none) (hin:InV (fun id=>c.h' id≠none) c.v)
  (ab2:∀ id cs,c.h' id=some (.box cs)->c.h0 id=some (.box cs)\/InL (fun id=>c.h' id≠none) cs)
  (R6:Rel c.env c.g0 c.w0 c.h0):AR c gen [] .ret σ:=by
 intro _ _ g a w hx r;obtain ⟨cv,h1,h2⟩:=bn2 r c.fn n8;refine ⟨r.defers,cv,h1,cv,g.trim (fun id=>decide (c.h' id≠none)),rfl,?_,?_,?_⟩
 ·refine ⟨hx.os,hx.tape,hx.output,hx.size,hx.lim,hx.cells,hx.wr,fun id hid=>?_,hx.top⟩
  obtain ⟨_,a2,a3⟩:=hx.dom id hid;exact ⟨by show decide (c.h' id≠none)=true;simpa using bE7 id ((R6.dom id).1 hid),a2,a3⟩
 ·have q:=r.rel
  have hS:(fun id=>decide (c.h' id≠none)=true)=fun id=>c.h' id≠none:=by simp
  refine ⟨fun id=>by show decide (c.h' id≠none)=true↔_;simp,fun id hid=>q.top id (by rw [hag id hid];exact hid),?_,?_,?_,?_,?_,fun id l e=>⟨(q.map id l (hag.at e)).1,(q.map id l (hag.at e)).2.1,fun id' l' e'=>(q.map id l (hag.at e)).2.2 id' l' (hag.at e')⟩,q.B3,?_⟩
  ·intro id cs e
   obtain ⟨vs',b1,b2,b3,b4,b5⟩:=q.box id cs (hag.at e);refine ⟨vs',b1,b2,fun i c' v hc hv'=>(b3 i c' v hc hv').trim ?_,b4,b5⟩;rw [hS];rcases ab2 id cs e with h0|hI
   ·obtain ⟨vs0,_,z2,z3,_⟩:=R6.box id cs h0
    obtain ⟨c0,hc0⟩:=bs5 (g:=c.g0) (w:=c.w0) z2 hv';have:=(z3 i c0 v hc0 hv').inV;exact as3 (fun id hid=>bE7 id ((R6.dom id).1 hid)) v this
   ·exact M7 hI hv'
  ·intro i1 i2 c1 c2 e1 e2 e
   exact q.inj i1 i2 c1 c2 (hag.at e1) (hag.at e2) e
  ·intro id n' k e;exact q.tok id n' k (hag.at e)
  ·intro i1 i2 n' k c' e hlt e2;exact q.apart i1 i2 n' k c' (hag.at e) hlt (hag.at e2)
  ·intro i1 i2 n1 n2 k1 k2 e hlt e2 an6;exact q.U9 i1 i2 n1 n2 k1 k2 (hag.at e) hlt (hag.at e2) an6
  ·intro k cs e
   refine (q.glob k cs e).trim ?_;have:=(R6.glob k cs e).inV;rw [hS];exact as3 (fun id hid=>bE7 id ((R6.dom id).1 hid)) _ this
 ·have:=h2.J5
  rw [hv] at this;refine this.trim ?_
  grind
def aj8 (args:List V):Nat->V:=fun t=>(args[t]?).getD .undef
variable {fn:Func} {h':H}
theorem cg6 {env:Nat->Option (List V)} {f:FuncId} {body:Code} {args:List V}
    (hf : P.funcs[f]? = some fn) (hb : fn.body = some body) (ai1 : (fn.name == "runtime.NumGoroutine") = false) (hm : P.follows .mixedOrders = true) (hok : O2 fn.ntmps body = true)
    (walk:∀ (g:G) (w:World) (gen:Nat),Rel env g w h->(∀ id,h id≠none->id.gen<gen) ->
      AR ⟨P,env,fn.ntmps,fn,g,w,h,v,h'⟩ gen [.code body] .normal ⟨aj8 args,h⟩):Ret P env f args h v h':=by
  refine ⟨⟨fn,hf,by rw [hb];rfl,ai1⟩,fun g w vs hr hv=>?_⟩;have hw:=walk g w g.top hr (fun id hid=>hr.top id hid);refine calls_of_wp hf hb ?_;have hst:M1 env fn.ntmps g w { tmps:=vs++Array.replicate (fn.ntmps - vs.size) undef,defers:=[] } ⟨aj8 args,h⟩:=by
    refine ⟨hr,fun t=>?_,by simp;omega,rfl⟩;simp only [aj8];cases ha:args[t]? with
    | none=>exact .undef _
    | some v =>
      obtain ⟨c0,h1,h2⟩:=hv.at ha;have hlt:t<vs.size:=(Z3.1 h1).1;have:(vs++Array.replicate (fn.ntmps - vs.size) undef).getD t undef=c0:=by
        simp [aL6 hlt,h1]
      rw [this];exact h2
  have:=hw (by simp [T9,hok]) hm g _ w (Ext.refl g w) hst;refine wp_mono this ?_;intro e a' w' hp;cases e<;>exact hp

inductive Ty where
 | mk (kind:Int) (args:List Ty)
def Ty.kind:Ty->Int | .mk k _=>k
def Ty.args:Ty->List Ty | .mk _ l=>l
theorem Ty.ind {p:Ty->Prop} (h:∀ t,(∀ x∈t.args,p x)->p t):∀ t,p t:=by
 intro t;refine Ty.rec (motive_1:=p) (motive_2:=fun l=>∀ x∈l,p x) (fun k l ih=>h _ ih) b_ (fun a l ha hl x hx=>?_) t
 grind
mutual
def Ty.cells:Ty->List V
 | .mk k l=>[.int .i64 k,.sl .any (Ty.rows l)]
def Ty.rows:List Ty->List (List V)
 | []=>[]
 | t::l=>t.cells::Ty.rows l
end
theorem Ty.X9:∀ l,Ty.rows l=l.map Ty.cells
 | []=>by simp [Ty.rows]
 | t::l=>by simp [Ty.rows,Ty.X9 l]
theorem Ty.l4 (t:Ty):t.cells=[.int .i64 t.kind,.sl .any (t.args.map Ty.cells)]:=by cases t;simp [Ty.cells,Ty.X9,Ty.kind,Ty.args]
theorem Ty.w9 (t:Ty):t.cells.length=2:=by rw [Ty.l4];rfl
theorem Ty.al8 (t:Ty):t.cells[0]? = some (.int .i64 t.kind):=by rw [Ty.l4];rfl
theorem Ty.al9 (t:Ty):t.cells[1]? = some (.sl .any (t.args.map Ty.cells)):=by rw [Ty.l4];rfl
theorem Ty.Q5 (t:Ty):List.take 2 t.cells=t.cells:=ak6 (by grind [Ty.w9])
mutual
def Ty.same:Ty->Ty->Bool
 | .mk k l,.mk k' l'=>k==k'&&Ty.A5 l l'
def Ty.A5:List Ty->List Ty->Bool
 | [],[]=>true
 | a::l,b::l'=>Ty.same a b&&Ty.A5 l l'
 | _,_=>false
end
theorem Ty.aw6 (a b:Ty):Ty.same a b=(a.kind==b.kind&&Ty.A5 a.args b.args):=by cases a;cases b;rfl
@[congr] theorem dR3 {k:List It} {e:Exit} {σ':St} (h:σ=σ'):AR c gen k e σ=AR c gen k e σ':=by rw [h]
section
variable {P:Program} {env:Nat->Option (List V)} {ops:Array Oper} {draw:Bool} {gen reg:Nat} {rest:List Oper} {i:Nat} {log:List av4} {K:St->Prop} {σ:St}
variable {dst:Option Nat} {op:Op} {ty:Nat} {pos:String} {after:Array Edge}
theorem cU0:O1 P env ops draw gen reg [] i log K σ=K σ:=by simp [O1]
def callThen (P:Program) (env:Nat->Option (List V)) (ops:Array Oper) (draw:Bool) (gen reg:Nat) (rest:List Oper) (dst:Option Nat) (i:Nat) (log:List av4)
  (K:St->Prop) (σ:St) (f:V) (args:List V):Prop :=
 match f with
 | .fn (.func k) first captured=>ar1 P env k (B1 (first++args++captured)) σ.h fun e =>
   (draw=true->ak3 ops i e log)/\O1 P env ops draw gen reg rest (i+1) (ad4 i e log) K (σ.put dst e)
 | _=>False
def aT1 (P:Program) (env:Nat->Option (List V)) (ops:Array Oper) (draw:Bool) (gen reg:Nat) (rest:List Oper) (dst:Option Nat) (i:Nat) (log:List av4)
    (K:St->Prop) (σ:St) (f:V) (name:String) (args:List V):Prop :=
  match f with
  | .iface t v =>
    (match cO2 P t name with
    | some k=>ar1 P env k (B1 (v::args)) σ.h fun e =>
      (draw=true->ak3 ops i e log)/\O1 P env ops draw gen reg rest (i+1) (ad4 i e log) K (σ.put dst e)
    | none=>False)
  | _=>False
variable {t:TypeId}
theorem Y9 {env:Nat->Option (List V)} {draw:Bool} {dst:Option Nat}
 {name:String} {args:List V} (hm:cO2 P t name=some k)
  (h:ar1 P env k (B1 (v::args)) σ.h fun e=>(draw=true->ak3 ops i e log)/\O1 P env ops draw gen reg rest (i+1) (ad4 i e log) K (σ.put dst e)) :
  aT1 P env ops draw gen reg rest dst i log K σ (.iface t v) name args:=by
 grind [aT1]
def aop (P:Program) (env:Nat->Option (List V)) (ops:Array Oper) (draw:Bool) (gen reg:Nat) (rest:List Oper) (dst:Option Nat) (i:Nat) (log:List av4)
  (K:St->Prop) (σ:St) (op:Op):Prop :=
 match op with
 | .call { callee:=.value x,args:=args,.. }=>callThen P env ops draw gen reg rest dst i log K σ (av env σ.tm x) (args.toList.map (av env σ.tm))
 | .call { callee:=.invoke x name,args:=args,.. }=>aT1 P env ops draw gen reg rest dst i log K σ (av env σ.tm x) name (args.toList.map (av env σ.tm))
 | op =>
  match aM4 P (av env σ.tm) σ.h ⟨gen,reg,i⟩ op with
  | some e=>(draw=true->ak3 ops i e log)/\O1 P env ops draw gen reg rest (i+1) (ad4 i e log) K (σ.put dst e)
  | none=>False
theorem cG8:O1 P env ops draw gen reg ({ dst:=dst,op:=op,type:=ty,pos:=pos,after:=after,guard:=none }::rest) i log K σ =
  aop P env ops draw gen reg rest dst i log K σ op:=by
 simp only [O1,aB4,aop,callThen,aT1]<;>rfl
def guarded (P:Program) (env:Nat->Option (List V)) (ops:Array Oper) (draw:Bool) (gen reg:Nat) (rest:List Oper) (dst:Option Nat) (i:Nat) (log:List av4)
  (K:St->Prop) (σ:St) (op:Op) (want:Bool) (v:V):Prop :=
 match v with
 | .bool b=>if b=want then aop P env ops draw gen reg rest dst i log K σ op else O1 P env ops draw gen reg rest (i+1) log K ⟨upd σ.tm dst (.tup []),σ.h⟩
 | .tup []=>O1 P env ops draw gen reg rest (i+1) log K ⟨upd σ.tm dst (.tup []),σ.h⟩
 | _=>False
def dP9 (tm:Nat->V):Option Nat->V
 | some t=>tm t
 | none=>.undef
variable {want:Bool}
theorem ck8 {j:Nat}:O1 P env ops draw gen reg ({ dst:=dst,op:=op,type:=ty,pos:=pos,after:=after,guard:=some (j,want) }::rest) i log K σ =
  guarded P env ops draw gen reg rest dst i log K σ op want (dP9 σ.tm ((ops[j]?).bind (·.dst))):=by
 simp only [O1,aB4,guarded,aop,callThen,aT1]
 grind [dP9]
end
section
variable {P:Program} {env:Nat->Option (List V)} {ops:Array Oper} {draw:Bool} {gen reg:Nat} {rest:List Oper} {dst:Option Nat} {i:Nat} {log:List av4} {K:St->Prop} {σ:St} {op:Op}
theorem co8:guarded P env ops draw gen reg rest dst i log K σ op true (.bool true)=aop P env ops draw gen reg rest dst i log K σ op:=by simp [guarded]
theorem co5:guarded P env ops draw gen reg rest dst i log K σ op false (.bool false)=aop P env ops draw gen reg rest dst i log K σ op:=by simp [guarded]
theorem co7:guarded P env ops draw gen reg rest dst i log K σ op true (.bool false)=O1 P env ops draw gen reg rest (i+1) log K ⟨upd σ.tm dst (.tup []),σ.h⟩:=by simp [guarded]
theorem co6:guarded P env ops draw gen reg rest dst i log K σ op false (.bool true)=O1 P env ops draw gen reg rest (i+1) log K ⟨upd σ.tm dst (.tup []),σ.h⟩:=by simp [guarded]
variable {want:Bool}
theorem co9:guarded P env ops draw gen reg rest dst i log K σ op want (.tup [])=O1 P env ops draw gen reg rest (i+1) log K ⟨upd σ.tm dst (.tup []),σ.h⟩:=by simp [guarded]
variable {b:Bool}
theorem A9 (h1:b=want->guarded P env ops draw gen reg rest dst i log K σ op want (.bool want))
  (h2:b=!want->guarded P env ops draw gen reg rest dst i log K σ op want (.bool (!want))):guarded P env ops draw gen reg rest dst i log K σ op want (.bool b):=by
 cases b<;>cases want
 all_goals grind
end
section
variable {P:Program} {env:Nat->Option (List V)} {ops:Array Oper} {draw:Bool} {gen reg:Nat} {rest:List Oper} {i:Nat} {log:List av4} {K:St->Prop} {σ:St} {dst:Option Nat}
def ok1 (P:Program) (env:Nat->Option (List V)) (ops:Array Oper) (draw:Bool) (gen reg:Nat) (rest:List Oper) (dst:Option Nat) (i:Nat) (log:List av4)
  (K:St->Prop) (σ:St):Option V->Prop
 | some v=>O1 P env ops draw gen reg rest (i+1) log K ⟨upd σ.tm dst v,σ.h⟩
 | none=>False
theorem dg6:ok1 P env ops draw gen reg rest dst i log K σ (some v)=O1 P env ops draw gen reg rest (i+1) log K ⟨upd σ.tm dst v,σ.h⟩:=rfl
variable {op:Op}
theorem ae1 {r:Option V} (hp:aM4 P (av env σ.tm) σ.h ⟨gen,reg,i⟩ op=r.map fun v=>⟨v,[],[]⟩) :
    (match aM4 P (av env σ.tm) σ.h ⟨gen,reg,i⟩ op with
    | some e=>(draw=true->ak3 ops i e log)/\O1 P env ops draw gen reg rest (i+1) (ad4 i e log) K (σ.put dst e)
    | none=>False)=ok1 P env ops draw gen reg rest dst i log K σ r:=by
  rw [hp];cases r with
  | none=>rfl
  | some v =>
    simp only [bo9,ok1,ad4,St.put,L9,eq_iff_iff];have:ak3 ops i ⟨v,[],[]⟩ log:=by
      induction log with
      | nil=>trivial
      | cons x l ih=>exact ⟨.inl ⟨b_,b_⟩,ih⟩
    grind

variable {nid:Id}
theorem af9 {ρ:Operand->V} (hn:O6 P ρ h nid op=none):aM4 P ρ h nid op=(H6 P ρ op).map fun v=>⟨v,[],[]⟩:=by
 unfold aM4
 grind
theorem cT7 {x:Operand}:aop P env ops draw gen reg rest dst i log K σ (.move x)=O1 P env ops draw gen reg rest (i+1) log K ⟨upd σ.tm dst (av env σ.tm x),σ.h⟩:=by
 exact ae1 (op:=.move x) (r:=some (av env σ.tm x)) rfl
theorem ck6 {x:Operand}:aop P env ops draw gen reg rest dst i log K σ (.assign x)=O1 P env ops draw gen reg rest (i+1) log K ⟨upd σ.tm dst (av env σ.tm x),σ.h⟩:=by
 exact ae1 (op:=.assign x) (r:=some (av env σ.tm x)) rfl
def dF4 (c a b:V):Option V:=match c with | .bool t=>some (if t then a else b)|_=>none
theorem cT8 {c a b:Operand}:aop P env ops draw gen reg rest dst i log K σ (.pick c a b)=ok1 P env ops draw gen reg rest dst i log K σ (dF4 (av env σ.tm c) (av env σ.tm a) (av env σ.tm b)):=by
 exact ae1 (af9 rfl)
def cV8 (T:Option TyI) (parts:List (Nat × V)):Option V :=
 match T with
 | some i=>if i.kind=3/\i.fok=true then (aO6 (i.fields.map fun f=>(f.1,f.2.1)) i.zero parts).map .agg
       else if i.kind=5/\i.n7≠0 then (aO6 ((List.range i.bs9).map fun j=>(j * i.n7,i.n7)) i.zero parts).map .agg else none
 | none=>none
variable {t:TypeId}
theorem cG3 {ps:Array (Nat × Operand)}:aop P env ops draw gen reg rest dst i log K σ (.build t ps) =
  ok1 P env ops draw gen reg rest dst i log K σ (cV8 (tyi P t) (ps.toList.map fun p=>(p.1,av env σ.tm p.2))):=by
 exact ae1 (af9 rfl)
def ea1 (v:V):Option V:=match v with | .ptr id off=>some (.ptr id off) | .el cs off=>some (.el cs off) | .nd cs ok off=>some (.nd cs ok off)|_=>none
theorem bO4 {x:Operand}:aop P env ops draw gen reg rest dst i log K σ (.nilCheck x)=ok1 P env ops draw gen reg rest dst i log K σ (ea1 (av env σ.tm x)):=by
 exact ae1 (af9 rfl)
variable {y:Operand}
theorem cG2 {op:BinOp} {yt:TypeId} {x:Operand}:aop P env ops draw gen reg rest dst i log K σ (.binOp op t x y yt) =
  ok1 P env ops draw gen reg rest dst i log K σ (do2 (tyi P t) op (av env σ.tm x) (av env σ.tm y)):=by
 exact ae1 (af9 rfl)
def unV (op:UnOp) (x:V):Option V:=match op,x with | .not,.bool b=>some (.bool !b) | .neg,.int k n=>some (.int k (k.wrap (0 - n)))|_,_=>none
theorem cT9 {op:UnOp} {x:Operand}:aop P env ops draw gen reg rest dst i log K σ (.unOp op t x)=ok1 P env ops draw gen reg rest dst i log K σ (unV op (av env σ.tm x)):=by
 exact ae1 (af9 rfl)
def dD0 (S D:Option TyI) (x:V):Option V:=match S,D,x with|some _,some i,.int _ n=>i.ik.map fun k=>.int k (k.wrap n)|_,_,_=>none
variable {s:TypeId}
theorem bX5 {d:TypeId} {x:Operand}:aop P env ops draw gen reg rest dst i log K σ (.convert s d x) =
  ok1 P env ops draw gen reg rest dst i log K σ (dD0 (tyi P s) (tyi P d) (av env σ.tm x)):=by
 simp only [aop];exact ae1 (af9 rfl)
def db5 (T:Option TyI) (f:Nat) (x:V):Option V :=
 match T with
 | some i=>(match i.fields[f]? with|some (off,size,_)=>if size=0 then none else aC7 x off|none=>none)
 | none=>none
theorem bD3 {x:Operand} {f:Nat}:aop P env ops draw gen reg rest dst i log K σ (.fieldAddr s x f) =
  ok1 P env ops draw gen reg rest dst i log K σ (db5 (tyi P s) f (av env σ.tm x)):=by
 exact ae1 (af9 rfl)
def dc0 (T:Option TyI) (f:Nat) (x:V):Option V :=
 match T,x with
 | some i,.agg cs=>(match i.fields[f]? with|some (off,size,a)=>af8 a size cs off|none=>none)
 | _,_=>none
theorem cG4 {x:Operand} {f:Nat}:aop P env ops draw gen reg rest dst i log K σ (.field s x f) =
  ok1 P env ops draw gen reg rest dst i log K σ (dc0 (tyi P s) f (av env σ.tm x)):=by
 exact ae1 (af9 rfl)
def de6 (T:Option TyI) (x ix:V):Option V :=
  match T,ix with
  | some i,.int _ n =>
    if i.kind=4 then
      (match x with
      | .sl _ es=>if 0<=n then (match es[n.toNat]? with|some e=>if e.length=i.n7/\i.n7≠0 then some (.el e 0) else none|none=>none) else none
      | .slb id m=>if 0<=n/\n.toNat<m/\i.n7≠0 then some (.ptr id (n.toNat * i.n7)) else none
      | _=>none)
    else if i.kind=5/\0<=n/\n<i.bs9/\i.n7≠0 then aC7 x (n.toNat * i.n7) else none
  | _,_=>none
theorem bD4 {x ix:Operand}:aop P env ops draw gen reg rest dst i log K σ (.indexAddr t x ix) =
  ok1 P env ops draw gen reg rest dst i log K σ (de6 (tyi P t) (av env σ.tm x) (av env σ.tm ix)):=by
 exact ae1 (af9 rfl)
def de8 (T:Option TyI) (x ix:V):Option V :=
 match T,x,ix with
 | some i,.agg cs,.int _ n=>if i.kind=5/\0<=n/\n<i.bs9 then af8 i.db0 i.n7 cs (n.toNat * i.n7) else none
 | _,_,_=>none
theorem cG5 {x ix:Operand}:aop P env ops draw gen reg rest dst i log K σ (.index t x ix) =
  ok1 P env ops draw gen reg rest dst i log K σ (de8 (tyi P t) (av env σ.tm x) (av env σ.tm ix)):=by
 simp only [aop];exact ae1 (af9 rfl)
def dU2 (x:V) (j:Nat):Option V:=match x with | .tup vs=>vs[j]? | _=>none
theorem bX6 {x:Operand} {j:Nat}:aop P env ops draw gen reg rest dst i log K σ (.extract x j)=ok1 P env ops draw gen reg rest dst i log K σ (dU2 (av env σ.tm x) j):=by
 exact ae1 (af9 rfl)
def dT6 (T:Option TyI) (x:V) (lo hi mx:Option V):Option V :=
 match T,x with
 | some i,.sl c es=>if i.kind=4/\i.n7≠0/\(lo.isNone=true\/es.all (fun e=>e.length==i.n7)=true) then bU1 c es lo hi mx else none
 | _,_=>none
theorem cG6 {x:Operand} {lo hi mx:Option Operand}:aop P env ops draw gen reg rest dst i log K σ (.slice t x lo hi mx) =
  ok1 P env ops draw gen reg rest dst i log K σ (dT6 (tyi P t) (av env σ.tm x) (lo.map (av env σ.tm)) (hi.map (av env σ.tm)) (mx.map (av env σ.tm))):=by
 refine ae1 ((af9 rfl).trans ?_);cases lo<;>rfl
theorem bO3 {f:Fn} {a b:Array Operand}:aop P env ops draw gen reg rest dst i log K σ (.makeFunc f a b) =
  O1 P env ops draw gen reg rest (i+1) log K ⟨upd σ.tm dst (.fn f (a.toList.map (av env σ.tm)) (b.toList.map (av env σ.tm))),σ.h⟩:=by
 exact ae1 (op:=.makeFunc f a b) (r:=some (.fn f (a.toList.map (av env σ.tm)) (b.toList.map (av env σ.tm)))) rfl
def cN8 (T:Option TyI) (x:V):Option V:=match T,ce1 x with|some i,some n=>if i.kind=4 then some (.int .i64 n) else none|_,_=>none
theorem dn6 {x:Operand}:aop P env ops draw gen reg rest dst i log K σ (.call { callee:=.builtin .len,args:=#[x],argTypes:=#[t] }) =
  ok1 P env ops draw gen reg rest dst i log K σ (cN8 (tyi P t) (av env σ.tm x)):=by
 exact ae1 (af9 rfl)
def dN6 (x y:V):Option V:=match x,y with | .int k a,.int k' b=>if k=k' then some (.int k (if b>a then b else a)) else none|_,_=>none
variable {ts:Array TypeId}
theorem dn7 {x:Operand}:aop P env ops draw gen reg rest dst i log K σ (.call { callee:=.builtin .max,args:=#[x,y],argTypes:=ts }) =
  ok1 P env ops draw gen reg rest dst i log K σ (dN6 (av env σ.tm x) (av env σ.tm y)):=by
 simp only [aop];refine ae1 ((af9 rfl).trans ?_);simp only [H6,dN6,E0,B7];cases av env σ.tm x<;>cases av env σ.tm y<;>rfl
def dN8 (x y:V):Option V:=match x,y with | .int k a,.int k' b=>if k=k' then some (.int k (if b<a then b else a)) else none|_,_=>none
theorem dn8 {x:Operand}:aop P env ops draw gen reg rest dst i log K σ (.call { callee:=.builtin .min,args:=#[x,y],argTypes:=ts }) =
  ok1 P env ops draw gen reg rest dst i log K σ (dN8 (av env σ.tm x) (av env σ.tm y)):=by
 refine ae1 ((af9 rfl).trans ?_);simp only [H6,dN8,E0,B7]
 grind
theorem cT5 {x:Operand} {args:Array Operand}:aop P env ops draw gen reg rest dst i log K σ (.call { callee:=.value x,args:=args,argTypes:=ts }) =
  callThen P env ops draw gen reg rest dst i log K σ (av env σ.tm x) (args.toList.map (av env σ.tm)):=rfl
theorem ck7 {x:Operand} {name:String} {args:Array Operand}:aop P env ops draw gen reg rest dst i log K σ (.call { callee:=.invoke x name,args:=args,argTypes:=ts }) =
  aT1 P env ops draw gen reg rest dst i log K σ (av env σ.tm x) name (args.toList.map (av env σ.tm)):=rfl
theorem bZ8 {first captured args:List V}:callThen P env ops draw gen reg rest dst i log K σ (.fn (.func k) first captured) args =
  ar1 P env k (B1 (first++args++captured)) σ.h fun e =>
   (draw=true->ak3 ops i e log)/\O1 P env ops draw gen reg rest (i+1) (ad4 i e log) K (σ.put dst e):=rfl
def okE (P:Program) (env:Nat->Option (List V)) (ops:Array Oper) (draw:Bool) (gen reg:Nat) (rest:List Oper) (dst:Option Nat) (i:Nat) (log:List av4)
  (K:St->Prop) (σ:St):Option Eff->Prop
 | some e=>(draw=true->ak3 ops i e log)/\O1 P env ops draw gen reg rest (i+1) (ad4 i e log) K (σ.put dst e)
 | none=>False
theorem bS7 (hv:H6 P (av env σ.tm) op=none) :
    (match aM4 P (av env σ.tm) σ.h ⟨gen,reg,i⟩ op with
    | some e=>(draw=true->ak3 ops i e log)/\O1 P env ops draw gen reg rest (i+1) (ad4 i e log) K (σ.put dst e)
    | none=>False)=okE P env ops draw gen reg rest dst i log K σ (O6 P (av env σ.tm) σ.h ⟨gen,reg,i⟩ op):=by
  unfold aM4;rw [hv];rfl

def cT4 (T:Option TyI) (there:Option Obj) (nid:Id):Option Eff :=
 match T,there with
 | some i,none=>some ⟨.ptr nid 0,[nid],[(nid,.box i.zero)]⟩
 | _,_=>none
theorem cG1:aop P env ops draw gen reg rest dst i log K σ (.alloc t) =
  okE P env ops draw gen reg rest dst i log K σ (cT4 (tyi P t) (σ.h ⟨gen,reg,i⟩) ⟨gen,reg,i⟩):=by
 rfl
def do8 (cs:Option (List V)) (there:Option Obj) (nid:Id):Option Eff :=
 match cs,there with
 | some cs,none=>some ⟨.ptr nid 0,[nid],[(nid,.box cs)]⟩
 | _,_=>none
def do9 (T:Option TyI) (A B:Prop):Prop:=match T with|some i=>if i.frz=true then A else B|none=>B
variable {g:Nat}
theorem dI1 {a b:Nat} {c:Bool} {d:List V} {e:List (Nat × Nat × Bool)} {f:Bool} {k l m:Nat} {n:Bool} {p:List V} {q:Option IntKind} {A B:Prop}:do9 (some ⟨a,b,c,d,e,f,g,k,l,m,n,p,q,true⟩) A B=A:=rfl
theorem dI0 {a b:Nat} {c:Bool} {d:List V} {e:List (Nat × Nat × Bool)} {f:Bool} {k l m:Nat} {n:Bool} {p:List V} {q:Option IntKind} {A B:Prop}:do9 (some ⟨a,b,c,d,e,f,g,k,l,m,n,p,q,false⟩) A B=B:=rfl
def elV (cs:Option (List V)):Option V:=cs.map fun cs=>.el cs 0
theorem db1:elV (some cs)=some (.el cs 0):=rfl
theorem dn5 {x:Operand}:aop P env ops draw gen reg rest dst i log K σ (.box t x) =
  do9 (tyi P t) (ok1 P env ops draw gen reg rest dst i log K σ (elV (cellsOf (av env σ.tm x))))
   (okE P env ops draw gen reg rest dst i log K σ (do8 (cellsOf (av env σ.tm x)) (σ.h ⟨gen,reg,i⟩) ⟨gen,reg,i⟩)):=by
 have hb:∀ (hz:¬ (tyi P t).any (·.frz)=true),aop P env ops draw gen reg rest dst i log K σ (.box t x)=okE P env ops draw gen reg rest dst i log K σ (do8 (cellsOf (av env σ.tm x)) (σ.h ⟨gen,reg,i⟩) ⟨gen,reg,i⟩):=by
  intro hz;have:O6 P (av env σ.tm) σ.h ⟨gen,reg,i⟩ (.box t x)=do8 (cellsOf (av env σ.tm x)) (σ.h ⟨gen,reg,i⟩) ⟨gen,reg,i⟩:=by
   simp only [O6];rw [y9 hz];rfl
  rw [<- this];exact bS7 rfl
 have hf:∀ (hz:(tyi P t).any (·.frz)=true),aop P env ops draw gen reg rest dst i log K σ (.box t x)=ok1 P env ops draw gen reg rest dst i log K σ (elV (cellsOf (av env σ.tm x))):=by
  intro hz;refine ae1 ?_;simp only [aM4,H6,O6];rw [B8 hz];cases cellsOf (av env σ.tm x)<;>rfl
 unfold do9
 grind
def cy3 (T:Option TyI) (t:TypeId) (ok:Bool) (x:V):Option V :=
 match T,x with
 | some i,.iface t' v=>if i.kind=8 then none else if t'=t then some (if ok then .tup [v,.bool true] else v) else if ok then some (.tup [.undef,.bool false]) else none
 | _,_=>none
theorem bt3 {t0:TypeId} {x:Operand} {ok:Bool}:aop P env ops draw gen reg rest dst i log K σ (.typeAssert x t0 t ok) =
  ok1 P env ops draw gen reg rest dst i log K σ (cy3 (tyi P t) t ok (av env σ.tm x)):=by
 exact ae1 (af9 rfl)
def di2 (T:Option TyI) (len:Nat) (parts:List (Nat × V)):Option V :=
 match T with
 | some i =>
  if i.kind=4/\i.n7≠0/\i.T7.length=i.n7/\len * i.n7<=16777216 then (aq8 i.n7 (List.replicate len i.T7) parts).map fun es=>.sl .full es else none
 | none=>none
theorem bt2 {len:Nat} {ps:Array (Nat × Operand)}:aop P env ops draw gen reg rest dst i log K σ (.buildSlice t len ps) =
  ok1 P env ops draw gen reg rest dst i log K σ (di2 (tyi P t) len (ps.toList.map fun p=>(p.1,av env σ.tm p.2))):=by
 refine ae1 ?_;simp only [aM4,H6,O6,di2];cases tyi P t with
 | none=>rfl
 | some i =>
  simp only;split
  ·cases aq8 i.n7 (List.replicate len i.T7) (ps.toList.map fun p=>(p.1,av env σ.tm p.2))<;>rfl
  ·rfl
def aT4 (P:Program) (env:Nat->Option (List V)) (ops:Array Oper) (draw:Bool) (gen reg:Nat) (rest:List Oper) (dst:Option Nat) (i:Nat) (log:List av4)
    (K:St->Prop) (σ:St) (T:Option TyI) (a:V):Prop :=
  match T,a with
  | some t,.ptr id off =>
    (match σ.h id with
    | some (.box cs)=>okE P env ops draw gen reg rest dst i log K σ ((af8 t.agg t.size cs off).map fun v=>⟨v,[id],[]⟩)
    | _=>False)
  | some t,.el cs off=>ok1 P env ops draw gen reg rest dst i log K σ (af8 t.agg t.size cs off)
  | some t,.nd cs _ off=>ok1 P env ops draw gen reg rest dst i log K σ (af8 t.agg t.size cs off)
  | _,_=>False
theorem cT6 {x:Operand}:aop P env ops draw gen reg rest dst i log K σ (.load t x) =
  aT4 P env ops draw gen reg rest dst i log K σ (tyi P t) (av env σ.tm x):=by
 cases hx:av env σ.tm x<;>cases hT:tyi P t
 case nd.some cs ok off T =>
  refine ae1 (r:=af8 T.agg T.size cs off) ?_;simp only [aM4,H6,O6,hx,hT]
 case el.some cs off T =>
  refine ae1 (r:=af8 T.agg T.size cs off) ?_;simp only [aM4,H6,O6,hx,hT]
 case ptr.some id off T =>
  refine (bS7 rfl).trans ?_;simp only [O6,hx,hT,aT4];cases σ.h id with
  | none=>rfl
  | some o=>cases o<;>rfl
 all_goals
  refine (bS7 rfl).trans ?_;simp only [O6,hx,hT,aT4]
  rfl
def dj5 (T:Option TyI) (a:V) (xs:Option (List V)) (h:H):Option Eff :=
  match T,a,xs with
  | some i,.ptr id off,some xs =>
    (match h id with
    | some (.box cs)=>if xs.length=i.size/\off+xs.length<=cs.length/\xs.all am9=true then some ⟨.undef,[id],[(id,.box (G8 cs off xs))]⟩ else none
    | _=>none)
  | _,_,_=>none
theorem cG7 {x:Operand}:aop P env ops draw gen reg rest dst i log K σ (.store t x y) =
  okE P env ops draw gen reg rest dst i log K σ (dj5 (tyi P t) (av env σ.tm x) (cellsOf (av env σ.tm y)) σ.h):=by
 rfl
def df8 (room:Option Operand) (ok:Bool) (there:Option Obj) (nid:Id):Option Eff :=
 match room,ok,there with
 | none,true,none=>some ⟨.mpr nid,[nid],[(nid,.map [])]⟩
 | _,_,_=>none
theorem bX7 {room:Option Operand}:aop P env ops draw gen reg rest dst i log K σ (.makeMap t room) =
  okE P env ops draw gen reg rest dst i log K σ (df8 room (cr1 P t) (σ.h ⟨gen,reg,i⟩) ⟨gen,reg,i⟩):=by
 rfl
def cF3 (ok:Bool) (m x y:V) (h:H):Option Eff :=
 match ok,m,x,y with
 | true,.mpr id,.int .i64 n,.bool _=>(match h id with|some (.map l)=>(bS3 l n).map fun l2=>⟨.undef,[id],[(id,.map l2)]⟩|_=>none)
 | _,_,_,_=>none
theorem bD5 {m x:Operand}:aop P env ops draw gen reg rest dst i log K σ (.mapUpdate t m x y) =
  okE P env ops draw gen reg rest dst i log K σ (cF3 (cr1 P t) (av env σ.tm m) (av env σ.tm x) (av env σ.tm y) σ.h):=by
 rfl
theorem bS4 {l:List Int} {n:Int} (h:l.length<140737488355328) (h1:0<=n) (h2:n<=4611686018427387903):bS3 l n=some (V2 n l):=by
 grind [bS3]
def bt4 (T U:Option TyI) (s x:V) (h:H) (nid:Id):Option Eff :=
  match s,x,T,U with
  | .sl c es,.sl _ xs,some i,some j =>
    if i.kind=4/\j.kind=4/\i.n7≠0/\i.T7.length=i.n7/\es.all (fun e=>e.length==i.n7)=true/\xs.all (fun e=>e.length==i.n7)=true /\
        xs.flatten.all am9=true/\(es.length+xs.length) * i.ah7<=140737488355328/\es.length+xs.length<=140737488355328 then
      (match c with
      | .own id=>(match h id with|some (.tok n k)=>if n=es.length/\k=i.n7 then some ⟨.sl (.own id) (es++xs),[id],[(id,.tok (es.length+xs.length) i.n7)]⟩ else none|_=>none)
      | .full=>(match h nid with|none=>some ⟨.sl (.own nid) (es++xs),[nid],[(nid,.tok (es.length+xs.length) i.n7)]⟩|some _=>none)
      | .any=>none)
    else none
  | _,_,_,_=>none
theorem cG9 {i j:TyI} {es xs:List (List V)} {cx:Cap}:bt4 (some i) (some j) (.sl .full es) (.sl cx xs) h nid =
  if i.kind=4/\j.kind=4/\i.n7≠0/\i.T7.length=i.n7/\es.all (fun e=>e.length==i.n7)=true/\xs.all (fun e=>e.length==i.n7)=true /\
    xs.flatten.all am9=true/\(es.length+xs.length) * i.ah7<=140737488355328/\es.length+xs.length<=140737488355328 then
   (match h nid with|none=>some ⟨.sl (.own nid) (es++xs),[nid],[(nid,.tok (es.length+xs.length) i.n7)]⟩|some _=>none)
  else none:=rfl
theorem cU1 {i j:TyI} {es xs:List (List V)} {cx:Cap}:bt4 (some i) (some j) (.sl (.own id) es) (.sl cx xs) h nid =
  if i.kind=4/\j.kind=4/\i.n7≠0/\i.T7.length=i.n7/\es.all (fun e=>e.length==i.n7)=true/\xs.all (fun e=>e.length==i.n7)=true /\
    xs.flatten.all am9=true/\(es.length+xs.length) * i.ah7<=140737488355328/\es.length+xs.length<=140737488355328 then
   (match h id with|some (.tok n k)=>if n=es.length/\k=i.n7 then some ⟨.sl (.own id) (es++xs),[id],[(id,.tok (es.length+xs.length) i.n7)]⟩ else none|_=>none)
  else none:=rfl
theorem ck5 {x:Operand} {u:TypeId}:aop P env ops draw gen reg rest dst i log K σ (.call { callee:=.builtin .append,args:=#[x,y],argTypes:=#[t,u] }) =
  okE P env ops draw gen reg rest dst i log K σ (bt4 (tyi P t) (tyi P u) (av env σ.tm x) (av env σ.tm y) σ.h ⟨gen,reg,i⟩):=by
 refine (bS7 rfl).trans ?_;simp only [O6,E0,B7,bt4]
 grind
variable {e:Eff}
theorem dg7:okE P env ops draw gen reg rest dst i log K σ (some e) =
  ((draw=true->ak3 ops i e log)/\O1 P env ops draw gen reg rest (i+1) (ad4 i e log) K (σ.put dst e)):=rfl
end
variable {y:Code}
theorem K3 {k:List It} {x:Code} {t:Operand} (ht:av c.env σ.tm t=.bool true) (h:AR c gen (.code x::k) .normal σ) :
  AR c gen (.code (.cond t x y)::k) .normal σ:=M6 ht (fun _=>h) (fun e=>by cases e)
theorem K1 {k:List It} {x:Code} {t:Operand} (ht:av c.env σ.tm t=.bool false) (h:AR c gen (.code y::k) .normal σ) :
  AR c gen (.code (.cond t x y)::k) .normal σ:=M6 ht (fun e=>by cases e) (fun _=>h)
theorem y7 {env:Nat->Option (List V)} {args:List V} {R:Eff->Prop} (hp:Pure P env k args v) (hr:R ⟨v,[],[]⟩) :
  ar1 P env k args h R:=⟨⟨v,[],[]⟩,b_,fun h2 _=>hp h2,hr⟩
variable {g0:G} {w0:World}
theorem dG0 {env:Nat->Option (List V)} {n:Nat} {h0:H} {k:List It}
  (g9:Rel env g0 w0 h0) (n8:ax9 P σ fn.results.toList=some vs) (hv:J5 (bK5 vs)=v) (hin:InV (fun id=>h0 id≠none) v) (hag:m8 h0 σ.h) :
  AR ⟨P,env,n,fn,g0,w0,h0,v,h0⟩ gen k .ret σ :=
 ao5 (bN4 n8 hv hag (fun _ h=>h) hin (fun _ _ h=>.inl h) g9)
variable {t:Nat}
theorem aY9 {tm:Nat->V} {d:Nat}:upd tm (some d) v t=if t=d then v else tm t:=rfl
theorem dl3 {tm:Nat->V}:upd tm none v=tm:=rfl
theorem dv7 {i j:Id}:p8 h i o j=if j=i then some o else h j:=rfl
variable {e:Eff}
theorem put_eq {d:Option Nat}:σ.put d e=⟨upd σ.tm d e.v,L9 σ.h e.writes⟩:=rfl
theorem cp0:L9 h []=h:=rfl
theorem cp1 {p:Id × Obj}:L9 h [p]=p8 h p.1 p.2:=rfl
theorem cU3:aj8 l t=(l[t]?).getD .undef:=rfl
theorem cj6 {ws:List (Id × Obj)}:ad4 i ⟨v,[],ws⟩ log=log:=rfl
theorem bW9 {r:Id} {rs:List Id} {ws:List (Id × Obj)}:ad4 i ⟨v,r::rs,ws⟩ log=(i,r::rs,ws.map (·.1))::log:=rfl
section
variable {P:Program} {env:Nat->Option (List V)} {ops:Array Oper} {draw:Bool} {gen reg:Nat} {rest:List Oper} {i:Nat} {log:List av4} {K:St->Prop} {σ σ':St} {dst:Option Nat}
variable {op:Op}
@[congr] theorem dH1 (h:σ=σ'):O1 P env ops draw gen reg rest i log K σ=O1 P env ops draw gen reg rest i log K σ':=by rw [h]
@[congr] theorem dQ7 (h:σ=σ'):aop P env ops draw gen reg rest dst i log K σ op=aop P env ops draw gen reg rest dst i log K σ' op:=by rw [h]
@[congr] theorem dR1 {r r':Option V} (h:σ=σ') (hr:r=r'):ok1 P env ops draw gen reg rest dst i log K σ r=ok1 P env ops draw gen reg rest dst i log K σ' r':=by rw [h,hr]
@[congr] theorem dR2 {r r':Option Eff} (h:σ=σ') (hr:r=r'):okE P env ops draw gen reg rest dst i log K σ r=okE P env ops draw gen reg rest dst i log K σ' r':=by rw [h,hr]
@[congr] theorem dH2 {T U:Option TyI} {s s' x x':V} {nid:Id} (hs:s=s') (hx:x=x') (hh:h=h'):bt4 T U s x h nid=bt4 T U s' x' h' nid:=by rw [hs,hx,hh]
@[congr] theorem dm0 {T T':Option TyI} {a a':V} (h:σ=σ') (hT:T=T') (ha:a=a'):aT4 P env ops draw gen reg rest dst i log K σ T a=aT4 P env ops draw gen reg rest dst i log K σ' T' a':=by rw [h,hT,ha]
@[congr] theorem cZ8 {f f':V} {l':List V} (h:σ=σ') (hf:f=f') (hl:l=l'):callThen P env ops draw gen reg rest dst i log K σ f l=callThen P env ops draw gen reg rest dst i log K σ' f' l':=by rw [h,hf,hl]
@[congr] theorem dl9 {want:Bool} {v':V} (h:σ=σ') (hv:v=v'):guarded P env ops draw gen reg rest dst i log K σ op want v=guarded P env ops draw gen reg rest dst i log K σ' op want v':=by rw [h,hv]
theorem ak4:ak3 ops i e []=True:=rfl
theorem af6 {x:av4} {l:List av4}:ak3 ops i e (x::l)=((((∀ p∈e.writes,p.1 ∉ x.2.1)/\∀ id∈x.2.2,id ∉ e.reads)\/cs7 ops x.1 i=true)/\ak3 ops i e l):=by
 rfl
end
variable {off:Nat}
theorem cv1:G8 cs off []=cs:=rfl
theorem cv0 {c:V}:G8 (c::cs) off (v::vs)=G8 ((c::cs).set off v) (off+1) vs:=rfl
attribute [go_sem] B2 false_implies implies_true forall_const ag2 ag3 L6 bB7 bN2 aa7 bo9
 E0 B7 J1 S0 Id.mk.injEq ak4 af6 Option.bind_some bB8 R9 Q3 ae7
 E8 H9 not_true_eq_false false_and and_false false_or D1 true_or or_true p7 r6 K0 D9 an4 bo7
 V.int.injEq V.bool.injEq S6 cx0 List.take_zero bV2 aQ6 List.set_cons_zero List.set_cons_succ aQ7 aQ9 List.replicate_succ List.replicate_zero bj5 J7 E7 M9
theorem ci7:∀ t:Ty,B1 t.cells=t.cells:=by
 intro t
 induction t using Ty.ind with
 | h t ih =>
  rw [Ty.l4];simp only [B1,J5,aL7,V.sl.injEq,ag3,ag2]
  grind [J0,List.map_congr_left]
theorem F4 (l:List Ty):A7 (l.map Ty.cells)=l.map Ty.cells:=by
 grind [J0,List.map_congr_left,ci7]
theorem cS4 {S:Id->Prop}:∀ t:Ty,InL S t.cells:=by
 intro t
 induction t using Ty.ind with
 | h t ih =>
  rw [Ty.l4]
  grind [InL,InV,ae0,R5]
attribute [go_sem] J5 B1 A7 ci7 F4 bK5 ax9 dn9 Ty.al8 Ty.al9 Ty.w9 Ty.Q5
attribute [go_sem] cU0 cG8 ck8 co8 co5 co7 co6 co9 dP9 cT7 ck6 cT8 dF4 cG3 cV8 bO4 ea1 cG2 do2 cq6 cT9 unV bX5 dD0
 bD3 db5 aC7 cG4 dc0 bD4 de6 cG5 de8 bX6 dU2 cG6 dT6 bU1 aB0 by1 bO3 dn6 cN8 ce1 dn7 dN6 dn8 dN8
 cT5 bZ8 ck7 cG1 cT4 dn5 dI1 dI0 db1 bt3 cy3 do8 bt2 di2 aq8 cT6 aT4 cG7 dj5 bX7 df8 bD5 cF3 ck5 cG9 cU1 dg7 dg6
 aY9 dl3 dv7 put_eq cp0 cp1 cU3 cj6 bW9 av toV bj1 cellsOf af8 aO6 cv1 cv0 am9
inductive Tm where
 | mk (kind index:Int) (type:Ty) (args:List Tm)
def Tm.kind:Tm->Int | .mk k _ _ _=>k
def Tm.index:Tm->Int | .mk _ i _ _=>i
def Tm.type:Tm->Ty | .mk _ _ t _=>t
def Tm.args:Tm->List Tm | .mk _ _ _ l=>l
theorem Tm.ind {p:Tm->Prop} (h:∀ t,(∀ x∈t.args,p x)->p t):∀ t,p t:=by
 intro t;refine Tm.rec (motive_1:=p) (motive_2:=fun l=>∀ x∈l,p x) (fun k i ty l ih=>h _ ih) b_ (fun a l ha hl x hx=>?_) t
 grind
mutual
def Tm.cells:Tm->List V
 | .mk k i t l=>[.int .i64 k,.int .i64 i,.int .i64 t.kind,.sl .any (t.args.map Ty.cells),.sl .any (Tm.rows l)]
def Tm.rows:List Tm->List (List V)
 | []=>[]
 | t::l=>t.cells::Tm.rows l
end
theorem Tm.X9:∀ l,Tm.rows l=l.map Tm.cells
 | []=>by simp [Tm.rows]
 | t::l=>by simp [Tm.rows,Tm.X9 l]
theorem Tm.l4 (t:Tm):t.cells=[.int .i64 t.kind,.int .i64 t.index,.int .i64 t.type.kind,.sl .any (t.type.args.map Ty.cells),.sl .any (t.args.map Tm.cells)]:=by
 cases t;simp [Tm.cells,Tm.X9,Tm.kind,Tm.index,Tm.type,Tm.args]
inductive Fm where
 | mk (kind:Int) (type:Ty) (a7:List Tm) (args:List Fm)
def Fm.kind:Fm->Int | .mk k _ _ _=>k
def Fm.type:Fm->Ty | .mk _ t _ _=>t
def Fm.a7:Fm->List Tm | .mk _ _ l _=>l
def Fm.args:Fm->List Fm | .mk _ _ _ l=>l
theorem Fm.ind {p:Fm->Prop} (h:∀ t,(∀ x∈t.args,p x)->p t):∀ t,p t:=by
 intro t;refine Fm.rec (motive_1:=p) (motive_2:=fun l=>∀ x∈l,p x) (fun k i ty l ih=>h _ ih) b_ (fun a l ha hl x hx=>?_) t
 grind
mutual
def Fm.cells:Fm->List V
 | .mk k t l a=>[.int .i64 k,.int .i64 t.kind,.sl .any (t.args.map Ty.cells),.sl .any (l.map Tm.cells),.sl .any (Fm.rows a)]
def Fm.rows:List Fm->List (List V)
 | []=>[]
 | t::l=>t.cells::Fm.rows l
end
theorem Fm.X9:∀ l,Fm.rows l=l.map Fm.cells
 | []=>by simp [Fm.rows]
 | t::l=>by simp [Fm.rows,Fm.X9 l]
theorem Fm.l4 (t:Fm):t.cells=[.int .i64 t.kind,.int .i64 t.type.kind,.sl .any (t.type.args.map Ty.cells),.sl .any (t.a7.map Tm.cells),.sl .any (t.args.map Fm.cells)]:=by
 cases t;simp [Fm.cells,Fm.X9,Fm.kind,Fm.type,Fm.a7,Fm.args]
section
variable (t:Tm) (f:Fm) (y:Ty)
theorem Tm.w9:t.cells.length=5:=by rw [Tm.l4];rfl
theorem Tm.al8:t.cells[0]? = some (.int .i64 t.kind):=by rw [Tm.l4];rfl
theorem Tm.al9:t.cells[1]? = some (.int .i64 t.index):=by rw [Tm.l4];rfl
theorem Tm.av9:t.cells[2]? = some (.int .i64 t.type.kind):=by rw [Tm.l4];rfl
theorem Tm.aH7:t.cells[3]? = some (.sl .any (t.type.args.map Ty.cells)):=by rw [Tm.l4];rfl
theorem Tm.ba4:t.cells[4]? = some (.sl .any (t.args.map Tm.cells)):=by rw [Tm.l4];rfl
theorem Tm.Q5:List.take 5 t.cells=t.cells:=ak6 (by grind [Tm.w9])
theorem Tm.ay3:List.take 2 (List.drop 2 t.cells)=t.type.cells:=by rw [Tm.l4,Ty.l4];rfl
theorem Fm.w9:f.cells.length=5:=by rw [Fm.l4];rfl
theorem Fm.al8:f.cells[0]? = some (.int .i64 f.kind):=by rw [Fm.l4];rfl
theorem Fm.al9:f.cells[1]? = some (.int .i64 f.type.kind):=by rw [Fm.l4];rfl
theorem Fm.av9:f.cells[2]? = some (.sl .any (f.type.args.map Ty.cells)):=by rw [Fm.l4];rfl
theorem Fm.aH7:f.cells[3]? = some (.sl .any (f.a7.map Tm.cells)):=by rw [Fm.l4];rfl
theorem Fm.ba4:f.cells[4]? = some (.sl .any (f.args.map Fm.cells)):=by rw [Fm.l4];rfl
theorem Fm.Q5:List.take 5 f.cells=f.cells:=ak6 (by grind [Fm.w9])
theorem Fm.ay3:List.take 2 (List.drop 1 f.cells)=f.type.cells:=by rw [Fm.l4,Ty.l4];rfl
theorem Ty.N4:y.cells.all am9=true:=by rw [Ty.l4];rfl
theorem Tm.N4:t.cells.all am9=true:=by rw [Tm.l4];rfl
theorem Fm.N4:f.cells.all am9=true:=by rw [Fm.l4];rfl
end
theorem P4 {xs:List V} (h:cs.length=xs.length):G8 cs 0 xs=xs:=by
 grind [bi5]
theorem cu9 {t:Ty} (h:cs.length=2):G8 cs 0 t.cells=t.cells:=P4 (by rw [h,Ty.w9])
theorem cQ2 {t:Ty} (h:2<cs.length):G8 cs off t.cells=G8 cs off [.int .i64 t.kind,.sl .any (t.args.map Ty.cells)]:=by rw [Ty.l4]
theorem cQ1 {t:Tm} (h:cs.length=5):G8 cs 0 t.cells=t.cells:=P4 (by rw [h,Tm.w9])
theorem cP9 {t:Fm} (h:cs.length=5):G8 cs 0 t.cells=t.cells:=P4 (by rw [h,Fm.w9])
theorem aQ5:∀ t:Tm,B1 t.cells=t.cells:=by
 intro t
 induction t using Tm.ind with
 | h t ih =>
  rw [Tm.l4];simp only [B1,J5,aL7,V.sl.injEq,ag3,ag2,F4]
  grind [J0,List.map_congr_left]
theorem ax5 (l:List Tm):A7 (l.map Tm.cells)=l.map Tm.cells:=by
 grind [J0,List.map_congr_left,aQ5]
theorem aQ4:∀ t:Fm,B1 t.cells=t.cells:=by
 intro t
 induction t using Fm.ind with
 | h t ih =>
  rw [Fm.l4];simp only [B1,J5,aL7,V.sl.injEq,ag3,ag2,F4,ax5]
  grind [J0,List.map_congr_left]
theorem aF8 (l:List Fm):A7 (l.map Fm.cells)=l.map Fm.cells:=by
 grind [J0,List.map_congr_left,aQ4]
section
variable {S:Id->Prop}
theorem ai5 (l:List Ty):S8 S (l.map Ty.cells):=by
 grind [R5,cS4]
theorem at6:∀ t:Tm,InL S t.cells:=by
 intro t
 induction t using Tm.ind with
 | h t ih =>
  rw [Tm.l4];simp only [InL,InV,ae0,ag2,ag3,ai5]
  grind [R5]
theorem aH0 (l:List Tm):S8 S (l.map Tm.cells):=by
 grind [R5,at6]
theorem aC6:∀ t:Fm,InL S t.cells:=by
 intro t
 induction t using Fm.ind with
 | h t ih =>
  rw [Fm.l4];simp only [InL,InV,ae0,ag2,ag3,ai5,aH0]
  grind [R5]
theorem aG9 (l:List Fm):S8 S (l.map Fm.cells):=by
 grind [R5,aC6]
end
theorem cj9 (l:List Ty):(l.map Ty.cells).all (fun e=>e.length==2)=true:=by simp [Ty.w9]
theorem bt0 (l:List Tm):(l.map Tm.cells).all (fun e=>e.length==5)=true:=by simp [Tm.w9]
theorem cj7 (l:List Fm):(l.map Fm.cells).all (fun e=>e.length==5)=true:=by simp [Fm.w9]
theorem ck3 (l:List Ty):(l.map Ty.cells).flatten.all am9=true:=by
 grind [Ty.N4]
theorem ck2 (l:List Tm):(l.map Tm.cells).flatten.all am9=true:=by
 grind [Tm.N4]
theorem ck0 (l:List Fm):(l.map Fm.cells).flatten.all am9=true:=by
 grind [Fm.N4]
def ints (l:List Int):List (List V):=l.map fun n=>[.int .i64 n]
theorem bb7 (l:List Int):(ints l).length=l.length:=by simp [ints]
theorem aa6 (l:List Int):A7 (ints l)=ints l:=by
 grind [J0,ints,List.map_congr_left,B1,J5]
theorem aD5 {S:Id->Prop} (l:List Int):S8 S (ints l):=by
 rw [R5];intro x hx;obtain ⟨y,_,rfl⟩:=G5.1 hx;simp [InL,InV]
theorem bx4 (l:List Int) (i:Nat):(ints l)[i]? = (l[i]?).map fun n=>[.int .i64 n]:=by simp [ints]
theorem bO0 (l:List Int):(ints l).all (fun e=>e.length==1)=true:=by simp [ints]
theorem bO1 (l:List Int):(ints l).flatten.all am9=true:=by
 rw [ad2];intro v hv;obtain ⟨c,hc,hv⟩:=bj4.1 hv;obtain ⟨x,_,rfl⟩:=G5.1 hc;simp at hv;subst hv;rfl
def cT0 (P:Program) (env:Nat->Option (List V)) (f:FuncId) (args:List V) (d:Id) (o:Obj) (v:V) (o':Obj):Prop :=
 ∀ h:H,h d=some o->Ret P env f args h v (p8 h d o')
variable {d:Id}
theorem L7 {env:Nat->Option (List V)} {args:List V} {R:Eff->Prop} {o':Obj} (hp:cT0 P env k args d o v o')
    (hd:h d=some o) (hr:R ⟨v,[d],[(d,o')]⟩):ar1 P env k args h R :=
  ⟨⟨v,[d],[(d,o')]⟩,b_,fun h2 hh=>by
    have:=hp h2 (by rw [hh d b_,hd])
    grind [L9],hr⟩

def a6 (d:Id) (h k:H):Prop:=∀ id,id≠d->h id≠none->k id=h id
theorem a6.refl (d:Id) (h:H):a6 d h h:=fun _ _ _=>rfl
theorem a6.new {k:H} (a:a6 d h k) (hn:h id=none):a6 d h (p8 k id o):=fun i hd hi=>by
 have:i≠id:=fun e=>hi (by rw [e];exact hn);rw [m7 this];exact a i hd hi
theorem a6.set {k:H} (a:a6 d h k):a6 d h (p8 k d o):=fun i hd hi=>by
 rw [m7 hd];exact a i hd hi
variable {k:List It} {o':List V}
theorem bW2 {env:Nat->Option (List V)} {n:Nat} {h0:H}
 (g9:Rel env g0 w0 h0) (hd:h0 d=some o) (n8:ax9 P σ fn.results.toList=some vs) (hv:J5 (bK5 vs)=v)
  (hin:InV (fun id=>p8 h0 d (.box o') id≠none) v) (ab2:InL (fun id=>p8 h0 d (.box o') id≠none) o') (hag:a6 d h0 σ.h) (hat:σ.h d=some (.box o')) :
  AR ⟨P,env,n,fn,g0,w0,h0,v,p8 h0 d (.box o')⟩ gen k .ret σ:=by
 refine ao5 (bN4 n8 hv ?_ ?_ hin ?_ g9)
 ·intro id hid
  by_cases e:id=d
  ·subst e;rw [hat];exact A1.symm
  ·simp only [m7 e] at hid ⊢
   exact hag id e hid
 all_goals grind [A1,m7]
theorem o0 (hfr:∀ id,h id≠none->id.gen<gen) (r i:Nat):h ⟨gen,r,i⟩=none:=by
 grind
theorem n9 (hfr:∀ id,h id≠none->id.gen<gen) (hd:h d=some o) (r i:Nat):(d=⟨gen,r,i⟩)=False:=by
 grind
theorem p6 (hfr:∀ id,h id≠none->id.gen<gen) (hd:h d=some o) (r i:Nat):((⟨gen,r,i⟩:Id)=d)=False:=by
 grind
attribute [go_sem] Tm.w9 Tm.al8 Tm.al9 Tm.av9 Tm.aH7 Tm.ba4 Tm.Q5 Tm.ay3 Fm.w9 Fm.al8 Fm.al9 Fm.av9 Fm.aH7 Fm.ba4
 Fm.Q5 Fm.ay3 Ty.N4 Tm.N4 Fm.N4 cu9 cQ2 cQ1 cP9 aQ5 ax5 aQ4 aF8 bb7 aa6
 cj9 bt0 cj7 ck3 ck2 ck0 bO0 bO1 ao2
def bd1 (P:Program) (σ:St) (rs:List ResultVar) (v:V):Prop :=
 match ax9 P σ rs with
 | some vs=>J5 (bK5 vs)=v
 | none=>False
theorem aC5 {env:Nat->Option (List V)} {n:Nat} {h0:H}
  (g9:Rel env g0 w0 h0) (hin:InV (fun id=>h0 id≠none) v) (hag:m8 h0 σ.h) (hv:bd1 P σ fn.results.toList v) :
  AR ⟨P,env,n,fn,g0,w0,h0,v,h0⟩ gen k .ret σ:=by
 unfold bd1 at hv;split at hv
 ·rename_i vs hvs;exact dG0 g9 hvs hv hin hag
 ·exact hv.elim
theorem W5 {env:Nat->Option (List V)} {n:Nat} {h0:H}
 (g9:Rel env g0 w0 h0) (hd:h0 d=some o)
  (hin:InV (fun id=>p8 h0 d (.box o') id≠none) v) (ab2:InL (fun id=>p8 h0 d (.box o') id≠none) o') (hag:a6 d h0 σ.h) (hat:σ.h d=some (.box o'))
  (hv:bd1 P σ fn.results.toList v):AR ⟨P,env,n,fn,g0,w0,h0,v,p8 h0 d (.box o')⟩ gen k .ret σ:=by
 unfold bd1 at hv;split at hv
 ·rename_i vs hvs;exact bW2 g9 hd hvs hv hin ab2 hag hat
 ·exact hv.elim
attribute [go_sem] bd1
attribute [go_sem] InV InL S8 ae0 cS4 at6 aC6 ai5 aH0 aG9 aD5
theorem ap1 {P:Program} {env:Nat->Option (List V)} {ops:Array Oper} {draw:Bool} {gen reg:Nat} {K K':St->Prop} (hK:∀ σ,K σ->K' σ) :
  ∀ (rest:List Oper) (i:Nat) (log:List av4) (σ:St),O1 P env ops draw gen reg rest i log K σ->O1 P env ops draw gen reg rest i log K' σ
 | [],_,_,_,h=>hK _ h
 | o :: rest,i,log,σ,h=>by
  rw [O1] at h ⊢;cases hg:aB4 ops o σ.tm with
  | none=>grind
  | some b =>
   rw [hg] at h;cases b with
   | false=>exact ap1 hK rest (i+1) log _ h
   | true =>
    simp only at h ⊢;split at h
    ·split at h
     ·obtain ⟨e,h1,h2,h3,h4⟩:=h
      exact ⟨e,h1,h2,h3,ap1 hK rest (i+1) _ _ h4⟩
     ·exact h.elim
    ·split at h
     ·split at h
      ·obtain ⟨e,h1,h2,h3,h4⟩:=h
       exact ⟨e,h1,h2,h3,ap1 hK rest (i+1) _ _ h4⟩
      ·exact h.elim
     ·exact h.elim
    ·split at h
     ·exact ⟨h.1,ap1 hK rest (i+1) _ _ h.2⟩
     ·exact h.elim
def aL0 (v:V) (p q:Prop):Prop:=match v with | .bool b=>(b=true->p)/\(b=false->q)|_=>False
variable {p:Prop}
variable {b:Bool}
@[congr] theorem dC9 {v':V} {q:Prop} (h:v=v'):aL0 v p q=aL0 v' p q:=by rw [h]
@[go_sem] theorem dt3 {q:Prop}:aL0 (.bool true) p q=p:=by simp [aL0]
@[go_sem] theorem dt2 {q:Prop}:aL0 (.bool false) p q=q:=by simp [aL0]
theorem spl {q:Prop} (h1:b=true->p) (h2:b=false->q):aL0 (.bool b) p q:=⟨h1,h2⟩
theorem spt {q:Prop} (h:v=.bool true) (h1:p):aL0 v p q:=by grind [dt3]
theorem spf {q:Prop} (h:v=.bool false) (h1:q):aL0 v p q:=by grind [dt2]
def cz:Code->Nat
 | .seq a b=>cz a+cz b+1
 | .cond _ a b=>cz a+cz b+1
 | .block _ b=>cz b+1
 | _=>1
def kz:List It->Nat
 | []=>0
 | .code c::k=>2 * cz c+kz k
 | _::k=>1+kz k
theorem dK3 (c:Code):1<=cz c:=by cases c<;>simp [cz]
def WP (c:Ctx) (gen:Nat):List It->Exit->St->Prop
 | .code .skip::k,.normal,σ=>WP c gen k .normal σ
 | .code (.seq x y)::k,.normal,σ=>WP c gen (.code x::.code y::k) .normal σ
 | .code (.cond t x y)::k,.normal,σ=>aL0 (av c.env σ.tm t) (WP c gen (.code x::k) .normal σ) (WP c gen (.code y::k) .normal σ)
 | .code (.block id x)::k,.normal,σ=>WP c gen (.code x::.block id::k) .normal σ
 | .code (.exit id)::k,.normal,σ=>WP c gen k (.exit id) σ
 | .code .ret::k,.normal,σ=>AR c gen k .ret σ
 | .code (.region id ops draw)::k,.normal,σ=>O1 c.P c.env ops draw gen id ops.toList 0 [] (fun σ'=>WP c gen k .normal σ') σ
 | .block _::k,.normal,σ=>WP c gen k .normal σ
 | .block id::k,.exit id',σ=>if id'=id then WP c gen k .normal σ else WP c gen k (.exit id') σ
 | .code _::k,.exit id,σ=>WP c gen k (.exit id) σ
 | .inv _::k,.exit id,σ=>WP c gen k (.exit id) σ
 | [],.normal,σ=>AR c gen [] .ret σ
 | k,e,σ=>AR c gen k e σ
termination_by k=>kz k
decreasing_by all_goals grind [kz,cz,dK3]
section
variable {c:Ctx} {gen:Nat} {k:List It} {e:Exit} {σ σ':St} {x y:Code} {t:Operand} {id id':Nat} {ops:Array Oper} {draw:Bool} {J:St->Prop}
@[congr] theorem dS1 (h:σ=σ'):WP c gen k e σ=WP c gen k e σ':=by rw [h]
@[go_sem] theorem dn3:WP c gen (.code .skip::k) .normal σ=WP c gen k .normal σ:=by rw [WP]
@[go_sem] theorem dG8:WP c gen (.code (.seq x y)::k) .normal σ=WP c gen (.code x::.code y::k) .normal σ:=by rw [WP]
@[go_sem] theorem dn0:WP c gen (.code (.cond t x y)::k) .normal σ=aL0 (av c.env σ.tm t) (WP c gen (.code x::k) .normal σ) (WP c gen (.code y::k) .normal σ):=by rw [WP]
@[go_sem] theorem cT2:WP c gen (.code (.block id x)::k) .normal σ=WP c gen (.code x::.block id::k) .normal σ:=by rw [WP]
@[go_sem] theorem dn1:WP c gen (.code (.exit id)::k) .normal σ=WP c gen k (.exit id) σ:=by rw [WP]
@[go_sem] theorem dG7:WP c gen (.code .ret::k) .normal σ=AR c gen k .ret σ:=by rw [WP]
@[go_sem] theorem cG0:WP c gen (.code (.region id ops draw)::k) .normal σ=O1 c.P c.env ops draw gen id ops.toList 0 [] (fun σ'=>WP c gen k .normal σ') σ:=by rw [WP]
@[go_sem] theorem bN8:WP c gen (.block id::k) .normal σ=WP c gen k .normal σ:=by rw [WP]
@[go_sem] theorem bD2:WP c gen (.block id::k) (.exit id') σ=if id'=id then WP c gen k .normal σ else WP c gen k (.exit id') σ:=by rw [WP]
@[go_sem] theorem bN9:WP c gen (.code x::k) (.exit id) σ=WP c gen k (.exit id) σ:=by cases x<;>simp [WP]
@[go_sem] theorem bW8:WP c gen (.inv J::k) (.exit id) σ=WP c gen k (.exit id) σ:=by rw [WP]
@[go_sem] theorem cy0:WP c gen [] .normal σ=AR c gen [] .ret σ:=by rw [WP]
@[go_sem] theorem dn2:WP c gen (.code (.loop x)::k) .normal σ=AR c gen (.code (.loop x)::k) .normal σ:=by rw [WP]<;>simp
@[go_sem] theorem dG6:WP c gen (.inv J::k) .normal σ=AR c gen (.inv J::k) .normal σ:=by rw [WP]<;>simp
end
theorem cS0:∀ (n:Nat) (k:List It) (e:Exit) (σ:St),kz k<=n->WP c gen k e σ->AR c gen k e σ:=by
 intro n
 induction n with
 | zero =>
  intro k e σ hn h;cases k with
  | nil=>cases e with
   | normal=>rw [cy0] at h;exact fun ok hm g a w x r=>h ok hm g a w x r
   | _=>rw [WP] at h<;>first|exact h|simp
  | cons i k=>cases i with
   | code c=>cases c<;>simp [kz,cz] at hn<;>omega
   | _=>simp [kz] at hn<;>omega
 | succ n ih =>
  intro k e σ hn h;cases k with
  | nil=>cases e with
   | normal=>rw [cy0] at h;exact fun ok hm g a w x r=>h ok hm g a w x r
   | _=>rw [WP] at h<;>first|exact h|simp
  | cons i k =>
   cases e with
   | normal =>
    cases i with
    | block id=>rw [bN8] at h;simp only [kz] at hn;exact C8 (ih _ _ _ a_ h)
    | inv J=>rw [dG6] at h;exact h
    | code x =>
     cases x with
     | skip=>rw [dn3] at h;simp only [kz,cz] at hn;exact P8 (ih _ _ _ a_ h)
     | seq x y=>rw [dG8] at h;simp only [kz,cz] at hn;exact K8 (ih _ _ _ (by simp only [kz];omega) h)
     | cond t x y =>
      rw [dn0] at h;simp only [kz,cz] at hn;cases hv:av c.env σ.tm t with
      | bool b =>
       rw [hv] at h;exact M6 hv (fun hb=>ih _ _ _ (by simp only [kz];omega) (h.1 hb)) (fun hb=>ih _ _ _ (by simp only [kz];omega) (h.2 hb))
      | _=>rw [hv] at h;exact h.elim
     | block id x=>rw [cT2] at h;simp only [kz,cz] at hn;exact K7 (ih _ _ _ (by simp only [kz];omega) h)
     | exit id=>rw [dn1] at h;simp only [kz,cz] at hn;exact P7 (ih _ _ _ a_ h)
     | ret=>rw [dG7] at h;exact Y5 h
     | region id ops draw =>
      rw [cG0] at h;simp only [kz,cz] at hn;exact D2 (ap1 (fun σ' h'=>ih _ _ _ a_ h') _ _ _ _ h)
     | loop x=>rw [dn2] at h;exact h
     | _=>rw [WP] at h<;>first|exact h|simp
   | exit id =>
    cases i with
    | block id2 =>
     rw [bD2] at h;simp only [kz] at hn;split at h
     ·rename_i e;subst e;exact B4 (ih _ _ _ a_ h)
     ·rename_i e;exact A8 e (ih _ _ _ a_ h)
    | inv J=>rw [bW8] at h;simp only [kz] at hn;exact E4 (ih _ _ _ a_ h)
    | code x=>rw [bN9] at h;simp only [kz] at hn;exact B5 (ih _ _ _ (by cases x<;>simp only [cz] at hn<;>omega) h)
   | _=>rw [WP] at h<;>first|exact h|simp
def goes:List It->Exit->Bool
 | .code (.loop _)::_,.normal=>false
 | .inv _::_,.normal=>false
 | [],.ret=>false
 | _::_,.ret=>false
 | _,_=>true
theorem wp {e:Exit} (_:goes k e=true) (h:WP c gen k e σ):AR c gen k e σ:=cS0 _ k e σ (w7 _) h
def bs3 (h k:H):Prop:=m8 h k
variable {k:H}
@[go_sem] theorem dB4:bs3 h h=True:=eq_true (m8.refl h)
@[go_sem] theorem dG2 (hn:h id=none):bs3 h (p8 k id o)=bs3 h k:=by
 refine propext ⟨fun a i hi=>?_,fun a=>m8.new a hn⟩;have:=a i hi
 grind [m7]
theorem agf (a:m8 h k):bs3 h k:=a
def aG8 (d:Id) (h k:H):Prop:=a6 d h k
@[go_sem] theorem dm3:aG8 d h h=True:=eq_true (a6.refl d h)
@[go_sem] theorem dB3:aG8 d h (p8 k d o)=aG8 d h k:=by
 refine propext ⟨fun a i hd hi=>?_,fun a=>a6.set a⟩;have:=a i hd hi
 grind [m7]
@[go_sem] theorem dB2 (hn:h id=none):aG8 d h (p8 k id o)=aG8 d h k:=by
 refine propext ⟨fun a i hd hi=>?_,fun a=>a6.new a hn⟩;have:=a i hd hi
 grind [m7]
theorem agb (a:a6 d h k):aG8 d h k:=a
theorem Y7 {env:Nat->Option (List V)} {n:Nat} {h0:H} {k:List It}
  (g9:Rel env g0 w0 h0) (hin:InV (fun id=>h0 id≠none) v) (hag:bs3 h0 σ.h) (hv:bd1 P σ fn.results.toList v) :
  AR ⟨P,env,n,fn,g0,w0,h0,v,h0⟩ gen k .ret σ:=aC5 g9 hin hag hv
theorem aX7 {env:Nat->Option (List V)} {n:Nat} {h0:H} {k:List It}
 (g9:Rel env g0 w0 h0) (hd:h0 d=some o)
  (hin:InV (fun id=>p8 h0 d (.box o') id≠none) v) (ab2:InL (fun id=>p8 h0 d (.box o') id≠none) o') (hag:aG8 d h0 σ.h) (hat:σ.h d=some (.box o'))
  (hv:bd1 P σ fn.results.toList v):AR ⟨P,env,n,fn,g0,w0,h0,v,p8 h0 d (.box o')⟩ gen k .ret σ:=W5 g9 hd hin ab2 hag hat hv
theorem enter {env:Nat->Option (List V)} {f:FuncId} {body:Code} {args:List V}
    (hf : P.funcs[f]? = some fn) (rs : List ResultVar) (hb : fn.body = some body) (ai1 : (fn.name == "runtime.NumGoroutine") = false) (hm : P.follows .mixedOrders = true)
    (hok:O2 fn.ntmps body=true) (n8:fn.results.toList=rs)
    (walk:∀ (g:G) (w:World) (gen:Nat),Rel env g w h->(∀ id,h id≠none->id.gen<gen)->(∀ r i,h ⟨gen,r,i⟩=none)->fn.results.toList=rs ->
      AR ⟨P,env,fn.ntmps,fn,g,w,h,v,h'⟩ gen [.code body] .normal ⟨aj8 args,h⟩):Ret P env f args h v h' :=
  cg6 hf hb ai1 hm hok fun g w gen hr hfr=>walk g w gen hr hfr (o0 hfr) n8
/- Short names of the rules that are printed most. -/
theorem cp {env:Nat->Option (List V)} {k:FuncId} {args:List V} {R:Eff->Prop} (hp:Pure P env k args v) (hr:R ⟨v,[],[]⟩):ar1 P env k args h R:=y7 hp hr
theorem ct {env:Nat->Option (List V)} {k:FuncId} {args:List V} {R:Eff->Prop} {o':Obj} (hp:cT0 P env k args d o v o')
  (hd:h d=some o) (hr:R ⟨v,[d],[(d,o')]⟩):ar1 P env k args h R:=L7 hp hd hr
theorem gs {env:Nat->Option (List V)} {draw:Bool} {dst:Option Nat} {op:Op} {want:Bool}
  (h1:b=want->guarded P env ops draw gen reg rest dst i log K σ op want (.bool want))
  (h2:b=!want->guarded P env ops draw gen reg rest dst i log K σ op want (.bool (!want))):guarded P env ops draw gen reg rest dst i log K σ op want (.bool b):=A9 h1 h2
attribute [go_sem] L6 reduceIte Nat.reduceEqDiff Nat.reduceAdd Nat.reduceLeDiff Nat.reduceMul Nat.reduceBEq Nat.reduceLT Nat.reduceSub Int.reduceBEq Int.reduceToNat Int.reduceLE Int.reduceEq
def c8:Ty:=.mk 1 []
def r5:Ty:=.mk 2 []
def O7:Ty:=.mk 5 []
def B6 (a b:Ty):Ty:=.mk 3 [a,b]
def x9 (a b:Ty):Ty:=.mk 4 [a,b]
def tm0 (k:Int) (l:List Tm):Tm:=.mk k 0 (.mk 0 []) l
def tmT (k:Int) (t:Ty) (l:List Tm):Tm:=.mk k 0 t l
def a9 (i:Int):Tm:=.mk 1 i (.mk 0 []) []
def bf9 (a b:Ty):Ty:=if a.kind==5 then b else if b.kind==5 then a else B6 a b
def cz9 (a b:Ty):Ty:=if b.kind==5 then O7 else if a.kind==5 then b else x9 a b
def da0 (k:Int) (mine other:Ty) (t:Tm):Tm:=if mine.kind==5 then tm0 13 [] else if other.kind==5 then t else tm0 k [t]
def dK2 (a b:Ty) (f t:Tm):Tm:=if b.kind==5 then tm0 13 [] else if a.kind==5 then f else tm0 3 [f,t]
def cr4 (n k:Int):Int:=(IntKind.i64.wrap (n.tmod k+k)).tmod k
def u6 (a b:Tm):Fm:=.mk 1 (.mk 0 []) [a,b] []
def o8 (k:Int) (a b:Fm):Fm:=.mk k (.mk 0 []) [] [a,b]
def fmQ (k:Int) (t:Ty) (a:Fm):Fm:=.mk k t [] [a]
theorem Ty.r7 (k:Int) (l:List Ty):(Ty.mk k l).cells=[.int .i64 k,.sl .any (l.map Ty.cells)]:=Ty.l4 _
theorem Tm.r7 (k i:Int) (t:Ty) (l:List Tm) :
  (Tm.mk k i t l).cells=[.int .i64 k,.int .i64 i,.int .i64 t.kind,.sl .any (t.args.map Ty.cells),.sl .any (l.map Tm.cells)]:=Tm.l4 _
theorem Fm.r7 (k:Int) (t:Ty) (l:List Tm) (a:List Fm) :
  (Fm.mk k t l a).cells=[.int .i64 k,.int .i64 t.kind,.sl .any (t.args.map Ty.cells),.sl .any (l.map Tm.cells),.sl .any (a.map Fm.cells)]:=Fm.l4 _
theorem Ty.O0 (k:Int) (l:List Ty):(Ty.mk k l).kind=k:=rfl
theorem Ty.N9 (k:Int) (l:List Ty):(Ty.mk k l).args=l:=rfl
def Q4 (h0 h:H) (v:V) (k:Nat) (es:List (List V)):Prop :=
 v=.sl .full es\/∃ id,v=.sl (.own id) es/\h id=some (.tok es.length k)/\h0 id=none
variable {k:Nat}
theorem Q4.new {h0:H} {es:List (List V)} (a:Q4 h0 h v k es) (hn:h id=none):Q4 h0 (p8 h id o) v k es:=by
 rcases a with a|⟨i,h1,h2,h3⟩
 ·exact .inl a
 ·refine .inr ⟨i,h1,?_,h3⟩
  grind [m7]
theorem Q4.val {h0:H} {es:List (List V)} (a:Q4 h0 h v k es):∃ c,v=.sl c es:=by
 rcases a with a|⟨i,h1,_⟩
 all_goals grind
theorem F3 {k:H} (a:m8 h k) (hk:k id=none):h id=none:=by
 cases e:h id with
 | none=>rfl
 | some o=>rw [a.at e] at hk;cases hk
theorem az6 {a b:Id} {n:Nat} (ha:h a=some (.box cs)) (hb:h b=some (.tok n k)):(a=b)=False:=by
 grind
theorem cC9 {a b:Id} {n:Nat} (ha:h a=some (.box cs)) (hb:h b=some (.tok n k)):(b=a)=False:=by
 grind
theorem ah8 {gn:Nat} (hg:∀ id,h id≠none->id.gen<gn) {g r:Nat} (ha:h ⟨g,r,i⟩=some o):(g=gn)=False:=by
 grind
theorem Z4 {gn:Nat} (hg:∀ id,h id≠none->id.gen<gn) {g r:Nat} (ha:h ⟨g,r,i⟩=some o):(gn=g)=False:=by
 grind
theorem wrap_small {n:Int} (h0 : -9223372036854775808<=n) (h1:n<=9223372036854775807):IntKind.i64.wrap n=n:=IntWalk.i64_in n ⟨h0,h1⟩
theorem E2 (h:i<=4611686018427387904):IntKind.i64.wrap ((i:Int)+1)=((i+1:Nat):Int):=by
 grind [wrap_small]
theorem Z5 {n:Nat} (h:i<n):decide ((i:Int)<(n:Int))=true:=by simp;omega
theorem T5 {n:Nat} (h:n<=i):decide ((i:Int)<(n:Int))=false:=by simp;omega
theorem p9 {α β:Type} {f:α->β} {l:List α} {x:α} (h:l[i]? = some x):(l.take (i+1)).map f=(l.take i).map f++[f x]:=by
 grind [List.take_add_one]
theorem aP5 {n:Nat} (h:i<n):min i n=i:=by omega
attribute [go_sem] aA4 ah6 Int.natCast_nonneg ae6 F8 eq_self_iff_true bo6 List.flatten_nil
variable {k:List It}
theorem cj1 {x:Code} (J:St->Prop) (h1:AR c gen (.code x::.inv J::k) .normal σ)
  (h2:∀ σ',J σ'->AR c gen k .normal σ'):AR c gen (.code x::k) .normal σ:=by
 intro ok hm g a w hx r;simp only [T9,A3] at ok;have:=h1 (by grind [T9]) hm g a w hx r;refine wp_mono this ?_;intro e a' w' hp;cases e with
 | normal=>obtain ⟨g2,σ2,p1,p2,p3⟩:=hp;exact h2 σ2 p3 ok.2 hm g2 a' w' p1 p2
 | _=>exact hp
theorem bp6 {id:Nat} {x:Code} (J:St->Prop) (h1:AR c gen (.code x::.block id::.inv J::k) .normal σ)
  (h2:∀ σ',J σ'->AR c gen k .normal σ'):AR c gen (.code (.block id x)::k) .normal σ:=cj1 J (K7 h1) h2
theorem dm1 {x:Code} (J:St->Prop) (ht:av c.env σ.tm (.tmp t)=.bool b)
  (h1:b=true->AR c gen (.code x::.inv J::k) .normal σ) (h2:b=false->AR c gen (.code y::.inv J::k) .normal σ)
  (h3:∀ σ',J σ'->AR c gen k .normal σ'):AR c gen (.code (.cond (.tmp t) x y)::k) .normal σ:=cj1 J (M6 ht h1 h2) h3
theorem cx2 {id:Nat} {draw:Bool} {x:Code} (J:St->Prop)
  (h1:AR c gen (.code (.region id ops draw)::.code x::.inv J::k) .normal σ)
  (h2:∀ σ',J σ'->AR c gen k .normal σ'):AR c gen (.code (.seq (.region id ops draw) x)::k) .normal σ:=cj1 J (K8 h1) h2
def ad6:Option Int->V
 | some n=>.tup [.int .i64 n,.bool true]
 | none=>.tup [.int .i64 0,.bool false]
theorem cO6 {n:Int}:ad6 (some n)=.tup [.int .i64 n,.bool true]:=rfl
theorem cO5:ad6 none=.tup [.int .i64 0,.bool false]:=rfl
attribute [go_sem] cO6 cO5
def au8 (k:Int):Option Int:=if k==1||k==2||k==5 then some 0 else if k==3||k==4 then some 2 else none
mutual
def Ty.nodes:Ty->Option Int
 | .mk k l=>match au8 k with
  | none=>none
  | some w=>if (l.length:Int)==w then Ty.A2 1 l else none
def Ty.A2:Int->List Ty->Option Int
 | n,[]=>some n
 | n,t::l=>match t.nodes with|none=>none|some k=>Ty.A2 (IntKind.i64.wrap (n+k)) l
end
theorem Ty.V1 (t:Ty):t.nodes=match au8 t.kind with|none=>none|some w=>if (t.args.length:Int)==w then Ty.A2 1 t.args else none:=by
 cases t;rfl
theorem Ty.N1 (n:Int):Ty.A2 n []=some n:=by rw [Ty.A2]
theorem Ty.P3 {n:Int} {t:Ty} {l:List Ty} (h:t.nodes=none):Ty.A2 n (t::l)=none:=by rw [Ty.A2,h]
theorem Ty.H2 {n k:Int} {t:Ty} {l:List Ty} (h:t.nodes=some k):Ty.A2 n (t::l)=Ty.A2 (IntKind.i64.wrap (n+k)) l:=by rw [Ty.A2,h]
def chk (m:Int):Option Int->Int × Int
 | none=>(0,2)
 | some n=>if m<n then (0,4) else (n,0)
def two (p:Int × Int):V:=.tup [.int .i64 p.1,.int .i64 p.2]
def ae5 (t:Ty):Int:=(chk 64 t.nodes).2
def Z1 (t:Ty):Bool:=t.kind==0&&(t.args.length:Int)==0
def arities:List Int:=[0,0,1,2,0,1,3,0,2,3,2,1,1,0]
def arity (k:Int):Option Int:=if k<1\/14<=k then none else arities[k.toNat]?
def typed (k:Int):Bool:=k==2||k==6||k==9
def L5 (k i:Int) (t:Ty) (n:Int):Bool :=
 match arity k with
 | none=>false
 | some a=>n==a&&decide (0<=i)&&(i==0||k==1)&&(if typed k then ae5 t==0 else Z1 t)
mutual
def Tm.nodes:Tm->Option Int
 | .mk k i t l=>if L5 k i t l.length then Tm.A2 1 l else none
def Tm.A2:Int->List Tm->Option Int
 | n,[]=>some n
 | n,t::l=>match t.nodes with|none=>none|some k=>Tm.A2 (IntKind.i64.wrap (n+k)) l
end
theorem Tm.V1 (t:Tm):t.nodes=if L5 t.kind t.index t.type t.args.length then Tm.A2 1 t.args else none:=by
 cases t;rfl
theorem Tm.N1 (n:Int):Tm.A2 n []=some n:=by rw [Tm.A2]
theorem Tm.P3 {n:Int} {t:Tm} {l:List Tm} (h:t.nodes=none):Tm.A2 n (t::l)=none:=by rw [Tm.A2,h]
theorem Tm.H2 {n k:Int} {t:Tm} {l:List Tm} (h:t.nodes=some k):Tm.A2 n (t::l)=Tm.A2 (IntKind.i64.wrap (n+k)) l:=by rw [Tm.A2,h]
def ap7 (k:Int):Option (Int × Int × Bool) :=
 if k==1 then some (2,0,false) else if k==2||k==3 then some (0,2,false) else if k==4||k==5||k==6||k==7 then some (0,1,true) else none
def formed (k:Int) (t:Ty) (n m:Int):Bool :=
 match ap7 k with
 | none=>false
 | some (a,b,ty)=>(if ty then ae5 t==0 else Z1 t)&&n==a&&m==b
mutual
def Fm.nodes:Fm->Option Int
 | .mk k t l a=>if formed k t l.length a.length then (match Tm.A2 1 l with|none=>none|some n=>Fm.A2 n a) else none
def Fm.A2:Int->List Fm->Option Int
 | n,[]=>some n
 | n,t::l=>match t.nodes with|none=>none|some k=>Fm.A2 (IntKind.i64.wrap (n+k)) l
end
theorem Fm.V1 (t:Fm):t.nodes=if formed t.kind t.type t.a7.length t.args.length then (match Tm.A2 1 t.a7 with|none=>none|some n=>Fm.A2 n t.args) else none:=by
 cases t;rfl
theorem Fm.N1 (n:Int):Fm.A2 n []=some n:=by rw [Fm.A2]
theorem Fm.P3 {n:Int} {t:Fm} {l:List Fm} (h:t.nodes=none):Fm.A2 n (t::l)=none:=by rw [Fm.A2,h]
theorem Fm.H2 {n k:Int} {t:Fm} {l:List Fm} (h:t.nodes=some k):Fm.A2 n (t::l)=Fm.A2 (IntKind.i64.wrap (n+k)) l:=by rw [Fm.A2,h]
def Q0 (f:Fm):Int:=(chk 4096 f.nodes).2
mutual
def Fm.uni:Fm->Bool
 | .mk k _ _ a=>k==6||k==7||Fm.ec1 a
def Fm.ec1:List Fm->Bool
 | []=>false
 | f::l=>f.uni||Fm.ec1 l
end
theorem s9 {α:Type} {l:List α} {x:α} (h:l[i]? = some x):l.drop i=x::l.drop (i+1):=by
 grind [List.drop_eq_getElem_cons]
end GoAbs
