/-
 The abstract layer: how a function is walked.
-/
import Derived.Test.YteaijonkbbkkjaaGreatDoorAbsA
set_option linter.unusedSimpArgs false
set_option linter.unusedVariables false
set_option linter.unusedSectionVars false
namespace GoAbs
open Go
def ao5 (P:Program) (env:Nat→Option (List V)) (k:FuncId) (args:List V) (h:H) (R:Eff→Prop):Prop :=
 ∃ e:Eff,(∀ p∈e.writes,p.1∈e.reads)∧(∀ h2:H,(∀ id∈e.reads,h2 id=h id)→Ret P env k args h2 e.v (J2 h2 e.writes))∧R e
@[congr] theorem cJ5 {P:Program} {env:Nat→Option (List V)} {k:FuncId} {args args':List V} {h:H} {R:Eff→Prop} (e:args=args') :
  ao5 P env k args h R=ao5 P env k args' h R:=by rw [e]
abbrev ad3:=Nat × List Id × List Id
def ab5 (ops:Array Oper) (i:Nat) (e:Eff):List ad3→Prop
 | []=>True
 | (j,rs,ws)::l=>(((∀ p∈e.writes,p.1 ∉ rs)∧∀ id∈ws,id ∉ e.reads)∨bl1 ops j i=true)∧ab5 ops i e l
def V5 (i:Nat) (e:Eff) (log:List ad3):List ad3 :=
 match e.reads with
 | []=>log
 | r::rs=>(i,r::rs,e.writes.map (·.1))::log
def N8 (P : Program) (env:Nat→Option (List V)) (ops:Array Oper) (draw:Bool) (gen reg:Nat):List Oper→Nat→List ad3→(St→Prop)→St→Prop
  | [],_,_,K,σ=>K σ
  | o :: rest,i,log,K,σ =>
    match ap4 ops o σ.tm with
    | none=>False
    | some false=>N8 P env ops draw gen reg rest (i+1) log K ⟨upd σ.tm o.dst (.tup []),σ.h⟩
    | some true =>
      match o.op with
      | .call { callee:=.value x,args:=args,.. } =>
        (match av env σ.tm x with
        | .fn (.func k) first captured =>
          ao5 P env k (C7 (first++args.toList.map (av env σ.tm)++captured)) σ.h fun e =>
            (draw=true→ab5 ops i e log)∧N8 P env ops draw gen reg rest (i+1) (V5 i e log) K (σ.put o.dst e)
        | _=>False)
      | .call { callee:=.invoke x name,args:=args,.. } =>
        (match av env σ.tm x with
        | .iface t v =>
          (match bX8 P t name with
          | some k=>ao5 P env k (C7 (v::args.toList.map (av env σ.tm))) σ.h fun e =>
            (draw=true→ab5 ops i e log)∧N8 P env ops draw gen reg rest (i+1) (V5 i e log) K (σ.put o.dst e)
          | none=>False)
        | _=>False)
      | op =>
        match aB7 P (av env σ.tm) σ.h ⟨gen,reg,i⟩ op with
        | some e=>(draw=true→ab5 ops i e log)∧N8 P env ops draw gen reg rest (i+1) (V5 i e log) K (σ.put o.dst e)
        | none=>False

theorem aG2 {ops:Array Oper} {i:Nat} {e:Eff}:∀ {log:List ad3},ab5 ops i e log→∀ j rs ws,(j,rs,ws)∈log →
  bl1 ops j i=true∨((∀ p∈e.writes,p.1 ∉ rs)∧∀ id∈ws,id ∉ e.reads)
 | [],_,_,_,_,h=>by simp at h
 | (j',rs',ws')::l,⟨h1,h2⟩,j,rs,ws,h=>by
  rcases List.mem_cons.1 h with e'|h
  ·cases e';exact h1.symm
  ·exact aG2 h2 j rs ws h
theorem aZ7 {P:Program} {env:Nat→Option (List V)} {ops:Array Oper} {draw:Bool} {gen reg:Nat} {o:Oper} {rest:List Oper} {i:Nat} {log:List ad3}
    {K:St→Prop} {σ:St} (h:N8 P env ops draw gen reg (o::rest) i log K σ) :
    (ap4 ops o σ.tm=some false∧N8 P env ops draw gen reg rest (i+1) log K ⟨upd σ.tm o.dst (.tup []),σ.h⟩) ∨
    (ap4 ops o σ.tm=some true∧∃ e,Stp P env (av env σ.tm) σ.h ⟨gen,reg,i⟩ o.op e∧(draw=true→ab5 ops i e log) ∧
      N8 P env ops draw gen reg rest (i+1) (V5 i e log) K (σ.put o.dst e)):=by
  rw [N8] at h;cases hg:ap4 ops o σ.tm with
  | none=>rw [hg] at h;exact h.elim
  | some b =>
    rw [hg] at h;cases b with
    | false=>exact .inl ⟨rfl,h⟩
    | true =>
      right
      refine ⟨rfl,?_⟩;simp only at h;split at h
      · rename_i x args ts hop
        split at h
        · rename_i k first captured hf
          obtain ⟨e,h1,h2,h3,h4⟩:=h;exact ⟨e,.inr ⟨_,hop,k,_,.inl ⟨x,first,captured,rfl,hf,rfl⟩,h1,h2⟩,h3,h4⟩
        · exact h.elim
      · rename_i x name args ts hop
        split at h
        · rename_i t v hf
          split at h
          · rename_i k hm
            obtain ⟨e,h1,h2,h3,h4⟩:=h;exact ⟨e,.inr ⟨_,hop,k,_,.inr ⟨x,name,t,v,rfl,hf,hm,rfl⟩,h1,h2⟩,h3,h4⟩
          · exact h.elim
        · exact h.elim
      · split at h
        · rename_i e he
          exact ⟨e,.inl he,h.1,h.2⟩
        · exact h.elim

theorem av7 {P:Program} {env:Nat→Option (List V)} {ops:Array Oper} {draw:Bool} {gen reg:Nat} {K:St→Prop} :
    ∀ (rest:List Oper) (i:Nat) (log:List ad3) (σ:St) (done:List (Nat × Option Eff)),(∀ j,rest[j]? = ops[i+j]?) →
      (∀ x∈done,∀ e,x.2=some e→e.reads=[]∨(x.1,e.reads,e.writes.map (·.1))∈log)→(∀ x∈done,∀ e,x.2=some e→∀ p∈e.writes,p.1∈e.reads) →
      N8 P env ops draw gen reg rest i log K σ →
      ∃ l σe,l.map (·.1)=(List.range rest.length).map (i+·)∧af8 P env ops gen reg l σ σe∧K σe ∧
        (draw=true→l.Pairwise (af0 ops)∧∀ x∈done,∀ y∈l,af0 ops x y)
  | [],i,log,σ,done,_,_,_,h=>⟨[],σ,rfl,.nil σ,h,fun _=>⟨.nil,sp_⟩⟩
  | o :: rest,i,log,σ,done,hr,hl,hw,h=>by
    have ho:ops[i]? = some o:=by have:=hr 0;simpa using this.symm
    have hr':∀ j,rest[j]? = ops[i+1+j]? := fun j=>by
      have:=hr (j+1);rw [show i+(j+1)=i+1+j by omega] at this;simpa using this
    have bu4:i::(List.range rest.length).map (i+1+·)=(List.range (o::rest).length).map (i+·):=by
      rw [List.length_cons,List.range_succ_eq_map,List.map_cons,List.map_map];simp only [Nat.add_zero];congr 1;apply List.map_congr_left;intro j _;simp;omega
    rcases aZ7 h with ⟨hg,h'⟩|⟨hg,e,hs,cz8,h'⟩
    · obtain ⟨l,σe,h1,h2,h3,h4⟩:=av7 rest (i+1) log _ ((i,none)::done) hr'
        (fun x hx e he=>by
          rcases List.mem_cons.1 hx with rfl|hx
          · simp at he
          · exact hl x hx e he)
        (fun x hx e he=>by
          rcases List.mem_cons.1 hx with rfl|hx
          · simp at he
          · exact hw x hx e he) h'
      refine ⟨(i,none)::l,σe,by rw [List.map_cons,h1];exact bu4,.cons _ _ _ _ _ ⟨o,ho,hg,rfl⟩ h2,h3,fun hd=>?_⟩;obtain ⟨h5,h6⟩:=h4 hd;refine ⟨List.pairwise_cons.2 ⟨fun y hy=>h6 _ sp_ y hy,h5⟩,fun x hx y hy=>?_⟩;rcases List.mem_cons.1 hy with rfl|hy
      · right
        unfold aG5;cases x.2<;>trivial
      · exact h6 x (by simp [hx]) y hy
    · have hws:=au6 hs
      obtain ⟨l,σe,h1,h2,h3,h4⟩:=av7 rest (i+1) (V5 i e log) _ ((i,some e)::done) hr'
        (fun x hx e' he=>by
          unfold V5;rcases List.mem_cons.1 hx with rfl|hx
          · cases he
            cases hre:e.reads with
            | nil=>exact .inl rfl
            | cons r rs=>right;simp
          · rcases hl x hx e' he with h|h
            · exact .inl h
            · right
              split
              · exact h
              · simp [h])
        (fun x hx e' he=>by
          rcases List.mem_cons.1 hx with rfl|hx
          · cases he;exact hws
          · exact hw x hx e' he) h'
      refine ⟨(i,some e)::l,σe,by rw [List.map_cons,h1];exact bu4,.cons _ _ _ _ _ ⟨o,ho,hg,hs,rfl⟩ h2,h3,fun hd=>?_⟩;obtain ⟨h5,h6⟩:=h4 hd;refine ⟨List.pairwise_cons.2 ⟨fun y hy=>h6 _ sp_ y hy,h5⟩,fun x hx y hy=>?_⟩;rcases List.mem_cons.1 hy with rfl|hy
      · unfold af0 aG5
        cases hx2:x.2 with
        | none=>right;trivial
        | some ex =>
          simp only;rcases hl x hx ex hx2 with he|hm
          · right
            have hwx:=hw x hx ex hx2;refine ⟨fun p hp=>?_,fun p hp=>?_⟩
            · have:=hwx p hp;rw [he] at this;simp at this
            · rw [he];simp
          · rcases aG2 (cz8 hd) _ _ _ hm with h|⟨ha,hb⟩
            · exact .inl h
            · right
              exact ⟨fun p hp=>hb p.1 (List.mem_map.2 ⟨p,hp,rfl⟩),ha⟩
      · exact h6 x (by simp [hx]) y hy

structure Ctx where
 P:Program
 env:Nat→Option (List V)
 n:Nat
 fn:Func
 g0:G
 w0:World
 h0:H
 v:V
 h':H
def Ctx.R (c:Ctx) (e:Ending) (w:World):Prop :=
 ∃ cv g',e=.returned cv∧Ext c.g0 c.w0 g' w∧Rel c.env g' w c.h'∧RV g' w cv c.v
inductive It where
 | code (c:Code)
 | block (id:Nat)
 | inv (J:St→Prop)
def ai9 (c:Ctx):List It→Exit→Act→World→Prop
 | [],e,a,w=>bodyPost c.P c.fn c.R e a w
 | .code x::k,.normal,a,w=>x.wp c.P (ai9 c k) a w
 | .code _::k,e,a,w=>ai9 c k e a w
 | .block _::k,.normal,a,w=>ai9 c k .normal a w
 | .block id::k,.exit id',a,w=>if id'=id then ai9 c k .normal a w else ai9 c k (.exit id') a w
 | .block _::k,e,a,w=>ai9 c k e a w
 | .inv J::_,.normal,a,w=>∃ g σ,Ext c.g0 c.w0 g w∧K1 c.env c.n g w a σ∧J σ
 | .inv _::k,e,a,w=>ai9 c k e a w
def J9 (n:Nat):Code→Bool
 | .region _ ops draw=>aw9 n ops&&(!draw||au3 ops)
 | .seq a b=>J9 n a&&J9 n b
 | .cond _ a b=>J9 n a&&J9 n b
 | .block _ b=>J9 n b
 | .loop b=>J9 n b
 | .exit _ | .ret | .skip=>true
 | _=>false
def R6 (n:Nat):List It→Bool
 | []=>true
 | .code c::k=>J9 n c&&R6 n k
 | _::k=>R6 n k
def AR (c:Ctx) (gen:Nat) (k:List It) (e:Exit) (σ:St):Prop :=
 R6 c.n k=true→c.P.follows .mixedOrders=true→∀ g a w,Ext c.g0 c.w0 g w→K1 c.env c.n g w a σ→ai9 c k e a w
section
variable {c:Ctx} {gen:Nat} {k:List It} {σ:St}
theorem I1 (h:AR c gen k .normal σ):AR c gen (.code .skip::k) .normal σ :=
 fun ok hm g a w x r=>wp_skip (h (by simpa [R6,J9] using ok) hm g a w x r)
theorem D6 {x y:Code} (h:AR c gen (.code x::.code y::k) .normal σ):AR c gen (.code (.seq x y)::k) .normal σ:=by
 intro ok hm g a w hx r;have ok':R6 c.n (.code x::.code y::k)=true:=by simpa [R6,J9,Bool.and_assoc] using ok
 refine wp_seq (wp_mono (h ok' hm g a w hx r) ?_);intro e a' w' hp;cases e<;>exact hp
theorem H5 {x y:Code} {t:Operand} {b:Bool} (ht:av c.env σ.tm t=.bool b) (h1:b=true→AR c gen (.code x::k) .normal σ)
  (h2:b=false→AR c gen (.code y::k) .normal σ):AR c gen (.code (.cond t x y)::k) .normal σ:=by
 intro ok hm g a w hx r;have hr:=bt5 r t;rw [ht] at hr;have hc:a.eval t=.bool b:=by cases hh:a.eval t<;>rw [hh] at hr<;>cases hr;rfl
 simp only [R6,J9,Bool.and_eq_true] at ok;refine wp_cond_split hc (fun hb=>?_) (fun hb=>?_)
 ·exact h1 hb (by simp [R6,ok.1.1,ok.2]) hm g a w hx r
 ·exact h2 hb (by simp [R6,ok.1.2,ok.2]) hm g a w hx r
theorem F2 {id:Nat} {x:Code} (h:AR c gen (.code x::.block id::k) .normal σ):AR c gen (.code (.block id x)::k) .normal σ:=by
 intro ok hm g a w hx r;have ok':R6 c.n (.code x::.block id::k)=true:=by simpa [R6,J9] using ok
 refine wp_block (wp_mono (h ok' hm g a w hx r) ?_);intro e a' w' hp;cases e<;>exact hp
theorem I4 {id:Nat} (h:AR c gen k (.exit id) σ):AR c gen (.code (.exit id)::k) .normal σ :=
 fun ok hm g a w x r=>wp_exit (h (by simpa [R6,J9] using ok) hm g a w x r)
theorem Q0 (h:AR c gen k .ret σ):AR c gen (.code .ret::k) .normal σ :=
 fun ok hm g a w x r=>wp_ret (h (by simpa [R6,J9] using ok) hm g a w x r)
theorem A8 {id:Nat} (h:AR c gen k .normal σ):AR c gen (.block id::k) .normal σ:=fun ok hm g a w x r=>h ok hm g a w x r
theorem A4 {id:Nat} (h:AR c gen k .normal σ):AR c gen (.block id::k) (.exit id) σ:=fun ok hm g a w x r=>by
 simp only [ai9,if_true];exact h ok hm g a w x r
theorem A0 {id id':Nat} (hne:id'≠id) (h:AR c gen k (.exit id') σ):AR c gen (.block id::k) (.exit id') σ:=fun ok hm g a w x r=>by
 simp only [ai9,if_neg hne];exact h ok hm g a w x r
theorem A3 {id:Nat} {x:Code} (h:AR c gen k (.exit id) σ):AR c gen (.code x::k) (.exit id) σ:=fun ok hm g a w hx r =>
 h (by simp [R6] at ok;exact ok.2) hm g a w hx r
theorem B5 {id:Nat} {J:St→Prop} (h:AR c gen k (.exit id) σ):AR c gen (.inv J::k) (.exit id) σ:=fun ok hm g a w hx r=>h ok hm g a w hx r
theorem am3:∀ {k:List It},AR c gen [] .ret σ→AR c gen k .ret σ
 | [],h=>h
 | .code x::k,h=>fun ok hm g a w hx r=>am3 (k:=k) h (by simp [R6] at ok;exact ok.2) hm g a w hx r
 | .block id::k,h=>fun ok hm g a w hx r=>am3 (k:=k) h (by simpa [R6] using ok) hm g a w hx r
 | .inv J::k,h=>fun ok hm g a w hx r=>am3 (k:=k) h (by simpa [R6] using ok) hm g a w hx r
theorem u7 {J:St→Prop} (h:J σ):AR c gen (.inv J::k) .normal σ:=fun _ _ g a w hx r=>⟨g,σ,hx,r,h⟩
theorem ak0 {gen':Nat} {e:Exit} (h:∀ gn,(∀ id,σ.h id≠none→id.gen<gn)→AR c gn k e σ):AR c gen' k e σ :=
 fun ok hm g a w hx r=>h g.top (fun id hid=>r.rel.top id hid) ok hm g a w hx r
theorem B6 {id:Nat} {ops:Array Oper} {draw:Bool} (h:N8 c.P c.env ops draw gen id ops.toList 0 [] (fun σ'=>AR c gen k .normal σ') σ) :
  AR c gen (.code (.region id ops draw)::k) .normal σ:=by
 intro ok hm g a w hx r;simp only [R6,J9,Bool.and_eq_true,Bool.or_eq_true,Bool.not_eq_true'] at ok;obtain ⟨⟨hd,hdr⟩,okk⟩:=ok;obtain ⟨l,σe,h1,h2,h3,h4⟩:=av7 ops.toList 0 [] σ [] (fun j=>by simp) sp_ sp_ h;have hl:l.map (·.1)=List.range ops.size:=by rw [h1];simp
 have hk:∀ g' a' w',Ext g w g' w'→K1 c.env c.n g' w' a' σe→ai9 c k .normal a' w':=fun g' a' w' hx' r'=>h3 okk hm g' a' w' (hx.trans hx') r';cases draw with
 | false =>
  refine wp_region ?_;rw [← hl];exact aO4 hd l h2 r hk
 | true =>
  have hdk:au3 ops=true:=by simpa using hdr
  exact aK0 hd hdk hm hl (h4 rfl).1 h2 r hk
theorem cD3 {body:Code} (J:St→Prop) (μ:St→Nat) (h0:J σ)
  (round:∀ σ',J σ'→AR c gen (.code body::.inv (fun σ2=>J σ2∧μ σ2<μ σ')::k) .normal σ'):AR c gen (.code (.loop body)::k) .normal σ:=by
 intro ok hm g a w hx r;have ok':∀ J',R6 c.n (.code body::.inv J'::k)=true:=fun J'=>by simpa [R6,J9] using ok
 let I:Act→World→Prop:=fun a w=>∃ g σ,Ext c.g0 c.w0 g w∧K1 c.env c.n g w a σ∧J σ
 let S:Act→World→Nat→Prop:=fun a w n=>∃ g σ,Ext c.g0 c.w0 g w∧K1 c.env c.n g w a σ∧J σ∧μ σ=n
 have hS:∀ a w,I a w→∃ n,S a w n:=fun a w ⟨g,σ,h1,h2,h3⟩=>⟨μ σ,g,σ,h1,h2,h3,rfl⟩;have bL1:∀ (p:Nat→Prop),(∃ n,p n)→∃ n,p n∧∀ m,p m→n≤m:=by
  intro p ⟨n,hn⟩
  induction n using Nat.strongRecOn with
  | _ n ih =>
   by_cases hh:∃ m,m<n∧p m
   ·obtain ⟨m,hm1,hm2⟩:=hh;exact ih m hm1 hm2
   ·exact ⟨n,hn,fun m hm=>Nat.le_of_not_lt fun hlt=>hh ⟨m,hlt,hm⟩⟩
 let M:Act→World→Nat:=fun a w=>by
  classical
  exact if h:∃ n,S a w n then Classical.choose (bL1 _ h) else 0
 have hM:∀ a w,I a w→S a w (M a w)∧∀ m,S a w m→M a w≤m:=by
  intro a w hI;have he:=hS a w hI;have:M a w=Classical.choose (bL1 _ he):=by simp only [M];rw [dif_pos he]
  rw [this];exact Classical.choose_spec (bL1 _ he)
 refine wp_loop (Q:=ai9 c k) I M ⟨g,σ,hx,r,h0⟩ ?_;intro a w hI;obtain ⟨⟨g,σ',h1,h2,h3,h4⟩,_⟩:=hM a w hI;refine wp_mono (round σ' h3 (ok' _) hm g a w h1 h2) ?_;intro e a' w' hp;cases e with
 | normal =>
  obtain ⟨g2,σ2,p1,p2,p3,p4⟩:=hp;have hI':I a' w':=⟨g2,σ2,p1,p2,p3⟩;refine ⟨hI',?_⟩;have:=(hM a' w' hI').2 (μ σ2) ⟨g2,σ2,p1,p2,p3,rfl⟩;omega
 | _=>exact hp
theorem B1 {body:Code} (J:Nat→St→Prop) (n:Nat) (h0:J 0 σ)
  (round:∀ i σ',i≤n→J i σ'→AR c gen (.code body::.inv (fun σ2=>i<n∧J (i+1) σ2)::k) .normal σ'):AR c gen (.code (.loop body)::k) .normal σ:=by
 have bL1:∀ (p:Nat→Prop),(∃ n,p n)→∃ n,p n∧∀ m,p m→n≤m:=by
  intro p ⟨n,hn⟩
  induction n using Nat.strongRecOn with
  | _ n ih =>
   by_cases hh:∃ m,m<n∧p m
   ·obtain ⟨m,hm1,hm2⟩:=hh;exact ih m hm1 hm2
   ·exact ⟨n,hn,fun m hm=>Nat.le_of_not_lt fun hlt=>hh ⟨m,hlt,hm⟩⟩
 let S:St→Nat→Prop:=fun σ q=>∃ i,i≤n∧J i σ∧q=n - i
 let M:St→Nat:=fun σ=>by
  classical
  exact if h:∃ q,S σ q then Classical.choose (bL1 _ h) else 0
 have hM:∀ σ,(∃ i,i≤n∧J i σ)→S σ (M σ)∧∀ m,S σ m→M σ≤m:=by
  intro σ ⟨i,h1,h2⟩;have he:∃ q,S σ q:=⟨n - i,i,h1,h2,rfl⟩;have:M σ=Classical.choose (bL1 _ he):=by simp only [M];rw [dif_pos he]
  rw [this];exact Classical.choose_spec (bL1 _ he)
 refine cD3 (fun σ=>∃ i,i≤n∧J i σ) M ⟨0,Nat.zero_le _,h0⟩ ?_;intro σ' hJ;obtain ⟨⟨i,h1,h2,h3⟩,_⟩:=hM σ' hJ;have hr:=round i σ' h1 h2;intro ok hm g a w hx r;have:=hr (by simpa [R6] using ok) hm g a w hx r;simp only [ai9] at this ⊢;refine wp_mono this ?_;intro e a' w' hp;cases e with
 | normal =>
  obtain ⟨g2,σ2,p1,p2,p3,p4⟩:=hp;refine ⟨g2,σ2,p1,p2,⟨i+1,om_,p4⟩,?_⟩;have:=(hM σ2 ⟨i+1,om_,p4⟩).2 (n - (i+1)) ⟨i+1,om_,p4,rfl⟩;omega
 | _=>exact hp
end
def aq0 (S:Id→Prop):Cap→Prop
 | .own id=>S id
 | .any=>True
 | .full=>True
mutual
def InV (S:Id→Prop):V→Prop
 | .undef=>True
 | .bool _=>True
 | .int _ _=>True
 | .str _=>True
 | .agg cs=>InL S cs
 | .tup vs=>InL S vs
 | .sl c es=>aq0 S c∧Z6 S es
 | .ptr id _=>S id
 | .slb id _=>S id
 | .el cs _=>InL S cs
 | .T9=>True
 | .fn _ a b=>InL S a∧InL S b
 | .U9=>True
 | .iface _ v=>InV S v
 | .E7=>True
def InL (S:Id→Prop):List V→Prop
 | []=>True
 | v::vs=>InV S v∧InL S vs
def Z6 (S:Id→Prop):List (List V)→Prop
 | []=>True
 | v::vs=>InL S v∧Z6 S vs
end
theorem aC1 {S:Id→Prop}:∀ {l:List V},InL S l↔∀ v∈l,InV S v
 | []=>by simp [InL]
 | v::vs=>by simp [InL,aC1 (l:=vs)]
theorem S3 {S:Id→Prop}:∀ {l:List (List V)},Z6 S l↔∀ v∈l,InL S v
 | []=>by simp [Z6]
 | v::vs=>by simp [Z6,S3 (l:=vs)]
theorem aD5 {S:Id→Prop} {es:List (List V)}:Z6 S es↔InL S es.flatten:=by
 rw [S3,aC1];simp only [aC1,List.mem_flatten];exact ⟨fun h v ⟨l,hl,hv⟩=>h l hl v hv,fun h l hl v hv=>h v ⟨l,hl,hv⟩⟩
theorem N9 {S:Id→Prop} {l:List V} (h:InL S l) {i:Nat} {v:V} (hv:l[i]? = some v):InV S v:=aC1.1 h v (List.mem_of_getElem? hv)
theorem aN8 {S:Id→Prop} {l:List V} (h:∀ (i:Nat) v,l[i]? = some v→InV S v):InL S l:=aC1.2 fun v hv=>by
 obtain ⟨i,hi,e⟩:=List.mem_iff_getElem.1 hv;exact h i v (by rw [List.getElem?_eq_getElem hi,e])
theorem au5 {g:G} {w:World} {vs:Array Value} {cs:List V} (h:vs.size=cs.length) {i:Nat} {v:V} (hv:cs[i]? = some v):∃ c,vs[i]? = some c:=by
 have hi:i<cs.length:=(List.getElem?_eq_some_iff.1 hv).1;exact ⟨vs[i],by simp [h,hi]⟩
theorem bB8 {S T:Id→Prop} (hst:∀ id,S id→T id):∀ c,aq0 S c→aq0 T c
 | .own id,h=>hst id h
 | .any,_=>trivial
 | .full,_=>trivial
mutual
theorem aj1 {S T:Id→Prop} (hst:∀ id,S id→T id):∀ v,InV S v→InV T v
 | .undef,_=>by rw [InV];trivial
 | .bool _,_=>by rw [InV];trivial
 | .int _ _,_=>by rw [InV];trivial
 | .str _,_=>by rw [InV];trivial
 | .agg cs,h=>by rw [InV] at h ⊢;exact an3 hst cs h
 | .tup cs,h=>by rw [InV] at h ⊢;exact an3 hst cs h
 | .sl c es,h=>by rw [InV] at h ⊢;exact ⟨bB8 hst c h.1,bg5 hst es h.2⟩
 | .ptr id off,h=>by rw [InV] at h ⊢;exact hst id h
 | .slb id n,h=>by rw [InV] at h ⊢;exact hst id h
 | .el cs _,h=>by rw [InV] at h ⊢;exact an3 hst cs h
 | .T9,_=>by rw [InV];trivial
 | .fn f a b,h=>by rw [InV] at h ⊢;exact ⟨an3 hst a h.1,an3 hst b h.2⟩
 | .U9,_=>by rw [InV];trivial
 | .iface t v,h=>by rw [InV] at h ⊢;exact aj1 hst v h
 | .E7,_=>by rw [InV];trivial
theorem an3 {S T:Id→Prop} (hst:∀ id,S id→T id):∀ l,InL S l→InL T l
 | [],_=>by rw [InL];trivial
 | v::vs,h=>by rw [InL] at h ⊢;exact ⟨aj1 hst v h.1,an3 hst vs h.2⟩
theorem bg5 {S T:Id→Prop} (hst:∀ id,S id→T id):∀ l,Z6 S l→Z6 T l
 | [],_=>by rw [Z6];trivial
 | v::vs,h=>by rw [Z6] at h ⊢;exact ⟨an3 hst v h.1,bg5 hst vs h.2⟩
end
theorem RV.inV {g:G} {w:World} {c:Value} {v:V} (h:RV g w c v):InV (fun id=>g.dom id=true) v:=by
  induction h with
  | undef c=>simp [InV]
  | bool b=>simp [InV]
  | int k n=>simp [InV]
  | str s=>simp [InV]
  | agg vs cs h _ ih=>rw [InV];exact aN8 fun i v hv=>by obtain ⟨c,hc⟩:=au5 (g:=g) (w:=w) h hv;exact ih i c v hc hv
  | tup vs cs h _ ih=>rw [InV];exact aN8 fun i v hv=>by obtain ⟨c,hc⟩:=au5 (g:=g) (w:=w) h hv;exact ih i c v hc hv
  | sl a cap c es k cell hk V0 E0 _ hc ih =>
    rw [InV];refine ⟨?_,aD5.2 (aN8 fun i v hv=>ih i v hv)⟩;cases c with
    | own id=>exact hc.1
    | any=>trivial
    | full=>trivial
  | ptr id off h=>rw [InV];exact h
  | slb id n cap h h2=>rw [InV];exact h
  | el b off cs o cell hl E0 _ ih=>rw [InV];exact aN8 fun i v hv=>ih i v hv
  | T9=>simp [InV]
  | fn f fs cs fs' cs' h1 h2 _ _ ih1 ih2 =>
    rw [InV];exact ⟨aN8 fun i v hv=>by obtain ⟨c,hc⟩:=au5 (g:=g) (w:=w) h1 hv;exact ih1 i c v hc hv,
      aN8 fun i v hv=>by obtain ⟨c,hc⟩:=au5 (g:=g) (w:=w) h2 hv;exact ih2 i c v hc hv⟩
  | U9=>simp [InV]
  | iface t c v _ ih=>rw [InV];exact ih
  | E7=>simp [InV]

def G.trim (g:G) (d:Id→Bool):G:={ g with dom:=d }
theorem RV.trim {g:G} {w:World} {d:Id→Bool} {c:Value} {v:V} (h:RV g w c v) (hin:InV (fun id=>d id=true) v):RV (g.trim d) w c v:=by
 induction h with
 | undef c=>exact .undef c
 | bool b=>exact .bool b
 | int k n=>exact .int k n
 | str s=>exact .str s
 | agg vs cs h _ ih=>rw [InV] at hin;exact .agg vs cs h fun i c v hc hv=>ih i c v hc hv (N9 hin hv)
 | tup vs cs h _ ih=>rw [InV] at hin;exact .tup vs cs h fun i c v hc hv=>ih i c v hc hv (N9 hin hv)
 | sl a cap c es k cell hk V0 E0 _ hc ih =>
  rw [InV] at hin;refine .sl a cap c es k cell hk V0 E0 (fun i v hv=>ih i v hv (N9 (aD5.1 hin.2) hv)) ?_;cases c with
  | any=>trivial
  | full=>exact hc
  | own id=>exact ⟨hin.1,hc.2⟩
 | ptr id off h=>rw [InV] at hin;exact .ptr (g:=g.trim d) id off hin
 | slb id n cap h h2=>rw [InV] at hin;exact .slb (g:=g.trim d) id n cap hin h2
 | el b off cs o cell hl E0 _ ih=>rw [InV] at hin;exact .el (g:=g.trim d) b off cs o cell hl E0 fun i v hv=>ih i v hv (N9 hin hv)
 | T9=>exact .T9
 | fn f fs cs fs' cs' h1 h2 _ _ ih1 ih2 =>
  rw [InV] at hin;exact .fn f fs cs fs' cs' h1 h2 (fun i c v hc hv=>ih1 i c v hc hv (N9 hin.1 hv)) (fun i c v hc hv=>ih2 i c v hc hv (N9 hin.2 hv))
 | U9=>exact .U9
 | iface t c v _ ih=>rw [InV] at hin;exact .iface t c v (ih hin)
 | E7=>exact .E7
def g9 (h k:H):Prop:=∀ id,h id≠none→k id=h id
theorem g9.refl (h:H):g9 h h:=fun _ _=>rfl
theorem g9.new {h k:H} {id:Id} {o:Obj} (a:g9 h k) (hn:h id=none):g9 h (u9 k id o):=fun i hi=>by
 have:i≠id:=fun e=>hi (by rw [e];exact hn);rw [l8 this];exact a i hi
theorem g9.at {h k:H} (a:g9 h k) {id:Id} {o:Obj} (e:h id=some o):k id=some o:=by rw [a id (by rw [e];simp),e]
def cD2 (P:Program) (σ:St):ResultVar→Option V
 | .tmp t=>some (σ.tm t)
 | .cell t ty =>
  match tyi P ty,σ.tm t with
  | some i,.ptr id off=>(match σ.h id with|some (.box cs)=>af1 i.agg i.size cs off|_=>none)
  | _,_=>none
def ay2 (P:Program) (σ:St):List ResultVar→Option (List V)
 | []=>some []
 | r::rs=>match cD2 P σ r,ay2 P σ rs with
  | some v,some vs=>some (v::vs)
  | _,_=>none
def aF1:List V→V
 | [v]=>v
 | vs=>.tup vs
def bu5 (P:Program) (a:Act):ResultVar→Sem Value
 | .tmp t=>pure (a.tmps.getD t undef)
 | .cell x t=>do loadVar t (← asAddr (a.tmps.getD x undef))
theorem bs9 {P:Program} {env:Nat→Option (List V)} {n:Nat} {g:G} {w:World} {a:Act} {σ:St} (r:K1 env n g w a σ) :
    ∀ (rs:List ResultVar) (vs:List V),ay2 P σ rs=some vs→∃ cs:List Value,(rs.mapM (bu5 P a)).run P w=.ok cs w∧RVL g w cs.toArray vs
  | [],vs,h=>by
    simp [ay2] at h;subst h;exact ⟨[],sp_,by simp [RVL]⟩
  | x :: rs,vs,h=>by
    simp only [ay2] at h;split at h
    case h_2=>simp at h
    rename_i v vs' h1 h2;cases h;obtain ⟨cs,hc,hr⟩:=bs9 r rs vs' h2;have:∃ cv,(bu5 P a x).run P w=.ok cv w∧RV g w cv v:=by
      cases x with
      | tmp t=>simp [cD2] at h1;subst h1;exact ⟨a.tmps.getD t undef,by simp [bu5],r.tm t⟩
      | cell t ty =>
        simp only [cD2] at h1;split at h1
        case h_2=>simp at h1
        rename_i i id off hi hv;split at h1
        case h_2=>simp at h1
        rename_i cs0 hb;have hx:=r.tm t;rw [hv] at hx;generalize hcx:a.tmps.getD t undef=cc at hx;cases hx;obtain ⟨vs,⟨ty',hb1⟩,hb2,hb3,_,_⟩:=r.rel.box id cs0 hb;obtain ⟨cv,h3,h4⟩:=aZ6 (P:=P) (g:=g) (w:=w) hi h1 (b:=g.loc id) (base:=0) (cell:=fun j=>vs[j]?.getD undef)
          (by intro j hj;simp [World.cell?,hb1,show j<vs.size by omega])
          (by
            intro j v hv;obtain ⟨c,hc1,hc2⟩:=(show RVL g w vs cs0 from ⟨hb2,hb3⟩).at hv;simp only [hc1,Option.getD_some];exact hc2)
        rw [Nat.zero_add] at h3;refine ⟨cv,?_,h4⟩;simp only [bu5,hcx,asAddr];simp [h3]
    obtain ⟨cv,h3,h4⟩:=this;refine ⟨cv::cs,?_,?_⟩
    · rw [List.mapM_cons]
      simp only [Sem.run_bind];rw [h3];simp only [Result.andThen_ok];rw [hc];simp
    · have hl:=hr.1
      simp at hl;refine ⟨by simp [hl],fun i c v' hc' hv'=>?_⟩;cases i with
      | zero=>simp at hc' hv';subst hc';subst hv';exact h4
      | succ i=>exact hr.2 i c v' (by simpa using hc') (by simpa using hv')

theorem aR8 {P:Program} {env:Nat→Option (List V)} {n:Nat} {g:G} {w:World} {a:Act} {σ:St} (r:K1 env n g w a σ) (fn:Func) {vs:List V}
    (h:ay2 P σ fn.results.toList=some vs):∃ c,(results fn a.tmps).run P w=.ok c w∧RV g w c (aF1 vs):=by
  obtain ⟨cs,h1,h2⟩:=bs9 r _ _ h;have hm:results fn a.tmps=(do
      let vs ← fn.results.mapM (bu5 P a)
      pure (if h:vs.size=1 then vs[0] else .tuple vs)):=rfl
  rw [hm,Array.mapM_eq_mapM_toList];refine ⟨if h:cs.toArray.size=1 then cs.toArray[0] else .tuple cs.toArray,?_,?_⟩
  · simp only [Sem.run_bind,Sem.run_map]
    rw [h1];simp
  have hl:=h2.1;simp at hl
  match cs,vs,hl,h2 with
  | [c],[v],_,h2=>simp [aF1];exact h2.2 0 c v sp_ sp_
  | [],[],_,h2=>simp [aF1];exact .tup _ _ h2.1 h2.2
  | c1::c2::cs,v1::v2::vs,_,h2=>simp [aF1];exact .tup _ _ h2.1 h2.2

theorem bR0 {c:Ctx} {gen:Nat} {σ:St} {vs:List V} (m0:ay2 c.P σ c.fn.results.toList=some vs) (hv:H2 (aF1 vs)=c.v) (hag:g9 c.h' σ.h)
  (aK2:∀ id,c.h0 id≠none→c.h' id≠none) (hin:InV (fun id=>c.h' id≠none) c.v)
  (ac0:∀ id cs,c.h' id=some (.box cs)→c.h0 id=some (.box cs)∨InL (fun id=>c.h' id≠none) cs)
  (af2:Rel c.env c.g0 c.w0 c.h0):AR c gen [] .ret σ:=by
 intro _ _ g a w hx r;obtain ⟨cv,h1,h2⟩:=aR8 r c.fn m0;refine ⟨r.defers,cv,h1,cv,g.trim (fun id=>decide (c.h' id≠none)),rfl,?_,?_,?_⟩
 ·refine ⟨hx.os,hx.tape,hx.output,hx.size,hx.lim,hx.cells,hx.wr,fun id hid=>?_,hx.top⟩
  obtain ⟨_,a2,a3⟩:=hx.dom id hid;exact ⟨by show decide (c.h' id≠none)=true;simpa using aK2 id ((af2.dom id).1 hid),a2,a3⟩
 ·have q:=r.rel
  have hS:(fun id=>decide (c.h' id≠none)=true)=fun id=>c.h' id≠none:=by funext id;simp
  refine ⟨fun id=>by show decide (c.h' id≠none)=true↔_;simp,fun id hid=>q.top id (by rw [hag id hid];exact hid),?_,?_,?_,?_,?_,q.C4,?_⟩
  ·intro id cs e
   obtain ⟨vs',b1,b2,b3,b4,b5⟩:=q.box id cs (hag.at e);refine ⟨vs',b1,b2,fun i c' v hc hv'=>(b3 i c' v hc hv').trim ?_,b4,b5⟩;rw [hS];rcases ac0 id cs e with h0|hI
   ·obtain ⟨vs0,_,z2,z3,_⟩:=af2.box id cs h0
    obtain ⟨c0,hc0⟩:=au5 (g:=c.g0) (w:=c.w0) z2 hv';have:=(z3 i c0 v hc0 hv').inV;exact aj1 (fun id hid=>aK2 id ((af2.dom id).1 hid)) v this
   ·exact N9 hI hv'
  ·intro i1 i2 c1 c2 e1 e2 e
   exact q.inj i1 i2 c1 c2 (hag.at e1) (hag.at e2) e
  ·intro id n' k e;exact q.tok id n' k (hag.at e)
  ·intro i1 i2 n' k c' e hlt e2;exact q.apart i1 i2 n' k c' (hag.at e) hlt (hag.at e2)
  ·intro i1 i2 n1 n2 k1 k2 e hlt e2 al9;exact q.T8 i1 i2 n1 n2 k1 k2 (hag.at e) hlt (hag.at e2) al9
  ·intro k cs e
   refine (q.glob k cs e).trim ?_;have:=(af2.glob k cs e).inV;rw [hS];exact aj1 (fun id hid=>aK2 id ((af2.dom id).1 hid)) _ this
 ·have:=h2.H2
  rw [hv] at this;refine this.trim ?_;have hS:(fun id=>decide (c.h' id≠none)=true)=fun id=>c.h' id≠none:=by funext id;simp
  rw [hS];exact hin
def ag6 (args:List V):Nat→V:=fun t=>(args[t]?).getD .undef
theorem bv5 {P:Program} {env:Nat→Option (List V)} {f:FuncId} {fn:Func} {body:Code} {args:List V} {h:H} {v:V} {h':H}
    (hf : P.funcs[f]? = some fn) (hb : fn.body = some body) (aj4 : (fn.name == "runtime.NumGoroutine") = false) (hm : P.follows .mixedOrders = true) (hok : J9 fn.ntmps body = true)
    (walk:∀ (g:G) (w:World) (gen:Nat),Rel env g w h→(∀ id,h id≠none→id.gen<gen) →
      AR ⟨P,env,fn.ntmps,fn,g,w,h,v,h'⟩ gen [.code body] .normal ⟨ag6 args,h⟩):Ret P env f args h v h':=by
  refine ⟨⟨fn,hf,by rw [hb];rfl,aj4⟩,fun g w vs hr hv=>?_⟩
  let c:Ctx:={ P,env,n:=fn.ntmps,fn,g0:=g,w0:=w,h0:=h,v,h' }
  have hw:=walk g w g.top hr (fun id hid=>hr.top id hid);refine calls_of_wp hf hb ?_;have hst:K1 env fn.ntmps g w { tmps:=vs++Array.replicate (fn.ntmps - vs.size) undef,defers:=[] } ⟨ag6 args,h⟩:=by
    refine ⟨hr,fun t=>?_,by simp;omega,rfl⟩;simp only [ag6];cases ha:args[t]? with
    | none=>exact .undef _
    | some v =>
      obtain ⟨c0,h1,h2⟩:=hv.at ha;have hlt:t<vs.size:=(Array.getElem?_eq_some_iff.1 h1).1;have:(vs++Array.replicate (fn.ntmps - vs.size) undef).getD t undef=c0:=by
        simp [Array.getElem?_append_left hlt,h1]
      rw [this];exact h2
  have:=hw (by simp [R6,hok]) hm g _ w (Ext.refl g w) hst;refine wp_mono this ?_;intro e a' w' hp;cases e<;>exact hp

inductive Ty where
 | mk (kind:Int) (args:List Ty)
def Ty.kind:Ty→Int | .mk k _=>k
def Ty.args:Ty→List Ty | .mk _ l=>l
theorem Ty.ind {p:Ty→Prop} (h:∀ t,(∀ x∈t.args,p x)→p t):∀ t,p t:=by
 intro t;refine Ty.rec (motive_1:=p) (motive_2:=fun l=>∀ x∈l,p x) (fun k l ih=>h _ ih) sp_ (fun a l ha hl x hx=>?_) t;rcases List.mem_cons.1 hx with rfl|hx
 ·exact ha
 ·exact hl x hx
mutual
def Ty.cells:Ty→List V
 | .mk k l=>[.int .i64 k,.sl .any (Ty.rows l)]
def Ty.rows:List Ty→List (List V)
 | []=>[]
 | t::l=>t.cells::Ty.rows l
end
theorem Ty.Y8:∀ l,Ty.rows l=l.map Ty.cells
 | []=>by simp [Ty.rows]
 | t::l=>by simp [Ty.rows,Ty.Y8 l]
theorem Ty.m8 (t:Ty):t.cells=[.int .i64 t.kind,.sl .any (t.args.map Ty.cells)]:=by cases t;simp [Ty.cells,Ty.Y8,Ty.kind,Ty.args]
theorem Ty.D3 (t:Ty):t.cells.length=2:=by rw [Ty.m8];rfl
theorem Ty.al0 (t:Ty):t.cells[0]? = some (.int .i64 t.kind):=by rw [Ty.m8];rfl
theorem Ty.al5 (t:Ty):t.cells[1]? = some (.sl .any (t.args.map Ty.cells)):=by rw [Ty.m8];rfl
theorem Ty.W6 (t:Ty):List.take 2 t.cells=t.cells:=List.take_of_length_le (by rw [Ty.D3];exact Nat.le_refl _)
mutual
def Ty.same:Ty→Ty→Bool
 | .mk k l,.mk k' l'=>k==k'&&Ty.w6 l l'
def Ty.w6:List Ty→List Ty→Bool
 | [],[]=>true
 | a::l,b::l'=>Ty.same a b&&Ty.w6 l l'
 | _,_=>false
end
theorem Ty.ac5 (a b:Ty):Ty.same a b=(a.kind==b.kind&&Ty.w6 a.args b.args):=by cases a;cases b;simp [Ty.same,Ty.kind,Ty.args]
@[congr] theorem db3 {c:Ctx} {gen:Nat} {k:List It} {e:Exit} {σ σ':St} (h:σ=σ'):AR c gen k e σ=AR c gen k e σ':=by rw [h]
section
variable {P:Program} {env:Nat→Option (List V)} {ops:Array Oper} {draw:Bool} {gen reg:Nat} {rest:List Oper} {i:Nat} {log:List ad3} {K:St→Prop} {σ:St}
variable {dst:Option Nat} {op:Op} {ty:Nat} {pos:String} {after:Array Edge}
theorem ck2:N8 P env ops draw gen reg [] i log K σ=K σ:=by simp [N8]
def callThen (P:Program) (env:Nat→Option (List V)) (ops:Array Oper) (draw:Bool) (gen reg:Nat) (rest:List Oper) (dst:Option Nat) (i:Nat) (log:List ad3)
  (K:St→Prop) (σ:St) (f:V) (args:List V):Prop :=
 match f with
 | .fn (.func k) first captured=>ao5 P env k (C7 (first++args++captured)) σ.h fun e =>
   (draw=true→ab5 ops i e log)∧N8 P env ops draw gen reg rest (i+1) (V5 i e log) K (σ.put dst e)
 | _=>False
def aE0 (P:Program) (env:Nat→Option (List V)) (ops:Array Oper) (draw:Bool) (gen reg:Nat) (rest:List Oper) (dst:Option Nat) (i:Nat) (log:List ad3)
    (K:St→Prop) (σ:St) (f:V) (name:String) (args:List V):Prop :=
  match f with
  | .iface t v =>
    (match bX8 P t name with
    | some k=>ao5 P env k (C7 (v::args)) σ.h fun e =>
      (draw=true→ab5 ops i e log)∧N8 P env ops draw gen reg rest (i+1) (V5 i e log) K (σ.put dst e)
    | none=>False)
  | _=>False
theorem U7 {P:Program} {env:Nat→Option (List V)} {ops:Array Oper} {draw:Bool} {gen reg:Nat} {rest:List Oper} {dst:Option Nat} {i:Nat} {log:List ad3}
  {K:St→Prop} {σ:St} {t:TypeId} {v:V} {name:String} {args:List V} {k:FuncId} (hm:bX8 P t name=some k)
  (h:ao5 P env k (C7 (v::args)) σ.h fun e=>(draw=true→ab5 ops i e log)∧N8 P env ops draw gen reg rest (i+1) (V5 i e log) K (σ.put dst e)) :
  aE0 P env ops draw gen reg rest dst i log K σ (.iface t v) name args:=by
 simp only [aE0,hm];exact h
def aop (P:Program) (env:Nat→Option (List V)) (ops:Array Oper) (draw:Bool) (gen reg:Nat) (rest:List Oper) (dst:Option Nat) (i:Nat) (log:List ad3)
  (K:St→Prop) (σ:St) (op:Op):Prop :=
 match op with
 | .call { callee:=.value x,args:=args,.. }=>callThen P env ops draw gen reg rest dst i log K σ (av env σ.tm x) (args.toList.map (av env σ.tm))
 | .call { callee:=.invoke x name,args:=args,.. }=>aE0 P env ops draw gen reg rest dst i log K σ (av env σ.tm x) name (args.toList.map (av env σ.tm))
 | op =>
  match aB7 P (av env σ.tm) σ.h ⟨gen,reg,i⟩ op with
  | some e=>(draw=true→ab5 ops i e log)∧N8 P env ops draw gen reg rest (i+1) (V5 i e log) K (σ.put dst e)
  | none=>False
theorem bZ3:N8 P env ops draw gen reg ({ dst:=dst,op:=op,type:=ty,pos:=pos,after:=after,guard:=none }::rest) i log K σ =
  aop P env ops draw gen reg rest dst i log K σ op:=by
 simp only [N8,ap4,aop,callThen,aE0]<;>rfl
def guarded (P:Program) (env:Nat→Option (List V)) (ops:Array Oper) (draw:Bool) (gen reg:Nat) (rest:List Oper) (dst:Option Nat) (i:Nat) (log:List ad3)
  (K:St→Prop) (σ:St) (op:Op) (want:Bool) (v:V):Prop :=
 match v with
 | .bool b=>if b=want then aop P env ops draw gen reg rest dst i log K σ op else N8 P env ops draw gen reg rest (i+1) log K ⟨upd σ.tm dst (.tup []),σ.h⟩
 | .tup []=>N8 P env ops draw gen reg rest (i+1) log K ⟨upd σ.tm dst (.tup []),σ.h⟩
 | _=>False
def cy8 (tm:Nat→V):Option Nat→V
 | some t=>tm t
 | none=>.undef
theorem bC5 {j:Nat} {want:Bool}:N8 P env ops draw gen reg ({ dst:=dst,op:=op,type:=ty,pos:=pos,after:=after,guard:=some (j,want) }::rest) i log K σ =
  guarded P env ops draw gen reg rest dst i log K σ op want (cy8 σ.tm ((ops[j]?).bind (·.dst))):=by
 simp only [N8,ap4,guarded,aop,callThen,aE0];cases (ops[j]?).bind (·.dst) with
 | none=>simp [cy8]
 | some t =>
  simp only [cy8];cases σ.tm t with
  | bool b =>
   simp only;cases b<;>cases want<;>rfl
  | tup l=>cases l<;>rfl
  | _=>rfl
end
section
variable {P:Program} {env:Nat→Option (List V)} {ops:Array Oper} {draw:Bool} {gen reg:Nat} {rest:List Oper} {dst:Option Nat} {i:Nat} {log:List ad3} {K:St→Prop} {σ:St} {op:Op}
theorem bE8:guarded P env ops draw gen reg rest dst i log K σ op true (.bool true)=aop P env ops draw gen reg rest dst i log K σ op:=by simp [guarded]
theorem bJ5:guarded P env ops draw gen reg rest dst i log K σ op false (.bool false)=aop P env ops draw gen reg rest dst i log K σ op:=by simp [guarded]
theorem bK4:guarded P env ops draw gen reg rest dst i log K σ op true (.bool false)=N8 P env ops draw gen reg rest (i+1) log K ⟨upd σ.tm dst (.tup []),σ.h⟩:=by simp [guarded]
theorem bF2:guarded P env ops draw gen reg rest dst i log K σ op false (.bool true)=N8 P env ops draw gen reg rest (i+1) log K ⟨upd σ.tm dst (.tup []),σ.h⟩:=by simp [guarded]
theorem bD9 {want:Bool}:guarded P env ops draw gen reg rest dst i log K σ op want (.tup [])=N8 P env ops draw gen reg rest (i+1) log K ⟨upd σ.tm dst (.tup []),σ.h⟩:=by simp [guarded]
theorem z9 {want b:Bool} (h1:b=want→guarded P env ops draw gen reg rest dst i log K σ op want (.bool want))
  (h2:b=!want→guarded P env ops draw gen reg rest dst i log K σ op want (.bool (!want))):guarded P env ops draw gen reg rest dst i log K σ op want (.bool b):=by
 cases b<;>cases want
 ·exact h1 rfl
 ·exact h2 rfl
 ·exact h2 rfl
 ·exact h1 rfl
end
section
variable {P:Program} {env:Nat→Option (List V)} {ops:Array Oper} {draw:Bool} {gen reg:Nat} {rest:List Oper} {i:Nat} {log:List ad3} {K:St→Prop} {σ:St} {dst:Option Nat}
def ok1 (P:Program) (env:Nat→Option (List V)) (ops:Array Oper) (draw:Bool) (gen reg:Nat) (rest:List Oper) (dst:Option Nat) (i:Nat) (log:List ad3)
  (K:St→Prop) (σ:St):Option V→Prop
 | some v=>N8 P env ops draw gen reg rest (i+1) log K ⟨upd σ.tm dst v,σ.h⟩
 | none=>False
theorem cp8 {v:V}:ok1 P env ops draw gen reg rest dst i log K σ (some v)=N8 P env ops draw gen reg rest (i+1) log K ⟨upd σ.tm dst v,σ.h⟩:=rfl
theorem aa1 {op:Op} {r:Option V} (hp:aB7 P (av env σ.tm) σ.h ⟨gen,reg,i⟩ op=r.map fun v=>⟨v,[],[]⟩) :
    (match aB7 P (av env σ.tm) σ.h ⟨gen,reg,i⟩ op with
    | some e=>(draw=true→ab5 ops i e log)∧N8 P env ops draw gen reg rest (i+1) (V5 i e log) K (σ.put dst e)
    | none=>False)=ok1 P env ops draw gen reg rest dst i log K σ r:=by
  rw [hp];cases r with
  | none=>rfl
  | some v =>
    simp only [Option.map_some,ok1,V5,St.put,J2,eq_iff_iff];have:ab5 ops i ⟨v,[],[]⟩ log:=by
      induction log with
      | nil=>trivial
      | cons x l ih=>obtain ⟨a,b,c⟩:=x;exact ⟨.inl ⟨sp_,sp_⟩,ih⟩
    exact ⟨fun h=>h.2,fun h=>⟨fun _=>this,h⟩⟩

theorem aa7 {op:Op} {ρ:Operand→V} {h:H} {nid:Id} (hn:Q7 P ρ h nid op=none):aB7 P ρ h nid op=(E5 P ρ op).map fun v=>⟨v,[],[]⟩:=by
 unfold aB7;cases E5 P ρ op<;>simp [hn]
theorem cj7 {x:Operand}:aop P env ops draw gen reg rest dst i log K σ (.move x)=N8 P env ops draw gen reg rest (i+1) log K ⟨upd σ.tm dst (av env σ.tm x),σ.h⟩:=by
 simp only [aop];exact aa1 (op:=.move x) (r:=some (av env σ.tm x)) rfl
theorem bF5 {x:Operand}:aop P env ops draw gen reg rest dst i log K σ (.assign x)=N8 P env ops draw gen reg rest (i+1) log K ⟨upd σ.tm dst (av env σ.tm x),σ.h⟩:=by
 simp only [aop];exact aa1 (op:=.assign x) (r:=some (av env σ.tm x)) rfl
def cJ0 (c a b:V):Option V:=match c with | .bool t=>some (if t then a else b)|_=>none
theorem cj9 {c a b:Operand}:aop P env ops draw gen reg rest dst i log K σ (.pick c a b)=ok1 P env ops draw gen reg rest dst i log K σ (cJ0 (av env σ.tm c) (av env σ.tm a) (av env σ.tm b)):=by
 simp only [aop];exact aa1 (aa7 rfl)
def cv9 (T:Option TyI) (parts:List (Nat × V)):Option V :=
 match T with
 | some i=>if i.kind=3∧i.fok=true then (aB0 (i.fields.map fun f=>(f.1,f.2.1)) i.zero parts).map .agg
       else if i.kind=5∧i.c9≠0 then (aB0 ((List.range i.J6).map fun j=>(j * i.c9,i.c9)) i.zero parts).map .agg else none
 | none=>none
theorem bX6 {t:TypeId} {ps:Array (Nat × Operand)}:aop P env ops draw gen reg rest dst i log K σ (.build t ps) =
  ok1 P env ops draw gen reg rest dst i log K σ (cv9 (tyi P t) (ps.toList.map fun p=>(p.1,av env σ.tm p.2))):=by
 simp only [aop];exact aa1 (aa7 rfl)
def cZ3 (v:V):Option V:=match v with | .ptr id off=>some (.ptr id off) | .el cs off=>some (.el cs off)|_=>none
theorem bq1 {x:Operand}:aop P env ops draw gen reg rest dst i log K σ (.nilCheck x)=ok1 P env ops draw gen reg rest dst i log K σ (cZ3 (av env σ.tm x)):=by
 simp only [aop];exact aa1 (aa7 rfl)
theorem bY2 {op:BinOp} {t yt:TypeId} {x y:Operand}:aop P env ops draw gen reg rest dst i log K σ (.binOp op t x y yt) =
  ok1 P env ops draw gen reg rest dst i log K σ (cB2 (tyi P t) op (av env σ.tm x) (av env σ.tm y)):=by
 simp only [aop];exact aa1 (aa7 rfl)
def unV (op:UnOp) (x:V):Option V:=match op,x with | .not,.bool b=>some (.bool !b) | .neg,.int k n=>some (.int k (k.wrap (0 - n)))|_,_=>none
theorem co2 {op:UnOp} {t:TypeId} {x:Operand}:aop P env ops draw gen reg rest dst i log K σ (.unOp op t x)=ok1 P env ops draw gen reg rest dst i log K σ (unV op (av env σ.tm x)):=by
 simp only [aop];exact aa1 (aa7 rfl)
def cK6 (S D:Option TyI) (x:V):Option V:=match S,D,x with|some _,some i,.int _ n=>i.ik.map fun k=>.int k (k.wrap n)|_,_,_=>none
theorem bt8 {s d:TypeId} {x:Operand}:aop P env ops draw gen reg rest dst i log K σ (.convert s d x) =
  ok1 P env ops draw gen reg rest dst i log K σ (cK6 (tyi P s) (tyi P d) (av env σ.tm x)):=by
 simp only [aop];exact aa1 (aa7 rfl)
def cm4 (T:Option TyI) (f:Nat) (x:V):Option V :=
 match T with
 | some i=>(match i.fields[f]? with|some (off,size,_)=>if size=0 then none else aw6 x off|none=>none)
 | none=>none
theorem bd3 {s:TypeId} {x:Operand} {f:Nat}:aop P env ops draw gen reg rest dst i log K σ (.fieldAddr s x f) =
  ok1 P env ops draw gen reg rest dst i log K σ (cm4 (tyi P s) f (av env σ.tm x)):=by
 simp only [aop];exact aa1 (aa7 rfl)
def cu4 (T:Option TyI) (f:Nat) (x:V):Option V :=
 match T,x with
 | some i,.agg cs=>(match i.fields[f]? with|some (off,size,a)=>af1 a size cs off|none=>none)
 | _,_=>none
theorem bX1 {s:TypeId} {x:Operand} {f:Nat}:aop P env ops draw gen reg rest dst i log K σ (.field s x f) =
  ok1 P env ops draw gen reg rest dst i log K σ (cu4 (tyi P s) f (av env σ.tm x)):=by
 simp only [aop];exact aa1 (aa7 rfl)
def cv8 (T:Option TyI) (x ix:V):Option V :=
  match T,ix with
  | some i,.int _ n =>
    if i.kind=4 then
      (match x with
      | .sl _ es=>if 0≤n then (match es[n.toNat]? with|some e=>if e.length=i.c9∧i.c9≠0 then some (.el e 0) else none|none=>none) else none
      | .slb id m=>if 0≤n∧n.toNat<m∧i.c9≠0 then some (.ptr id (n.toNat * i.c9)) else none
      | _=>none)
    else if i.kind=5∧0≤n∧n<i.J6∧i.c9≠0 then aw6 x (n.toNat * i.c9) else none
  | _,_=>none
theorem bd0 {t:TypeId} {x ix:Operand}:aop P env ops draw gen reg rest dst i log K σ (.indexAddr t x ix) =
  ok1 P env ops draw gen reg rest dst i log K σ (cv8 (tyi P t) (av env σ.tm x) (av env σ.tm ix)):=by
 simp only [aop];exact aa1 (aa7 rfl)
def cv2 (T:Option TyI) (x ix:V):Option V :=
 match T,x,ix with
 | some i,.agg cs,.int _ n=>if i.kind=5∧0≤n∧n<i.J6 then af1 i.M0 i.c9 cs (n.toNat * i.c9) else none
 | _,_,_=>none
theorem bX7 {t:TypeId} {x ix:Operand}:aop P env ops draw gen reg rest dst i log K σ (.index t x ix) =
  ok1 P env ops draw gen reg rest dst i log K σ (cv2 (tyi P t) (av env σ.tm x) (av env σ.tm ix)):=by
 simp only [aop];exact aa1 (aa7 rfl)
def cZ1 (x:V) (j:Nat):Option V:=match x with | .tup vs=>vs[j]? | _=>none
theorem bv2 {x:Operand} {j:Nat}:aop P env ops draw gen reg rest dst i log K σ (.extract x j)=ok1 P env ops draw gen reg rest dst i log K σ (cZ1 (av env σ.tm x) j):=by
 simp only [aop];exact aa1 (aa7 rfl)
def cR7 (T:Option TyI) (x:V) (lo hi mx:Option V):Option V :=
 match T,x with
 | some i,.sl c es=>if i.kind=4∧i.c9≠0∧(lo.isNone=true∨es.all (fun e=>e.length==i.c9)=true) then bo1 c es lo hi mx else none
 | _,_=>none
theorem bZ7 {t:TypeId} {x:Operand} {lo hi mx:Option Operand}:aop P env ops draw gen reg rest dst i log K σ (.slice t x lo hi mx) =
  ok1 P env ops draw gen reg rest dst i log K σ (cR7 (tyi P t) (av env σ.tm x) (lo.map (av env σ.tm)) (hi.map (av env σ.tm)) (mx.map (av env σ.tm))):=by
 simp only [aop];refine aa1 ((aa7 rfl).trans ?_);simp only [E5,cR7];cases lo<;>rfl
theorem bl5 {f:Fn} {a b:Array Operand}:aop P env ops draw gen reg rest dst i log K σ (.makeFunc f a b) =
  N8 P env ops draw gen reg rest (i+1) log K ⟨upd σ.tm dst (.fn f (a.toList.map (av env σ.tm)) (b.toList.map (av env σ.tm))),σ.h⟩:=by
 simp only [aop];exact aa1 (op:=.makeFunc f a b) (r:=some (.fn f (a.toList.map (av env σ.tm)) (b.toList.map (av env σ.tm)))) rfl
def df9 (T:Option TyI) (x:V):Option V:=match T,bH6 x with|some i,some n=>if i.kind=4 then some (.int .i64 n) else none|_,_=>none
theorem cz4 {x:Operand} {t:TypeId}:aop P env ops draw gen reg rest dst i log K σ (.call { callee:=.builtin .len,args:=#[x],argTypes:=#[t] }) =
  ok1 P env ops draw gen reg rest dst i log K σ (df9 (tyi P t) (av env σ.tm x)):=by
 simp only [aop];exact aa1 (aa7 rfl)
def cW3 (x y:V):Option V:=match x,y with | .int k a,.int k' b=>if k=k' then some (.int k (if b>a then b else a)) else none|_,_=>none
theorem cG3 {x y:Operand} {ts:Array TypeId}:aop P env ops draw gen reg rest dst i log K σ (.call { callee:=.builtin .max,args:=#[x,y],argTypes:=ts }) =
  ok1 P env ops draw gen reg rest dst i log K σ (cW3 (av env σ.tm x) (av env σ.tm y)):=by
 simp only [aop];refine aa1 ((aa7 rfl).trans ?_);simp only [E5,cW3,List.map_cons,List.map_nil];cases av env σ.tm x<;>cases av env σ.tm y<;>rfl
def cR6 (x y:V):Option V:=match x,y with | .int k a,.int k' b=>if k=k' then some (.int k (if b<a then b else a)) else none|_,_=>none
theorem cG6 {x y:Operand} {ts:Array TypeId}:aop P env ops draw gen reg rest dst i log K σ (.call { callee:=.builtin .min,args:=#[x,y],argTypes:=ts }) =
  ok1 P env ops draw gen reg rest dst i log K σ (cR6 (av env σ.tm x) (av env σ.tm y)):=by
 simp only [aop];refine aa1 ((aa7 rfl).trans ?_);simp only [E5,cR6,List.map_cons,List.map_nil];cases av env σ.tm x<;>cases av env σ.tm y<;>rfl
theorem cm1 {x:Operand} {args:Array Operand} {ts:Array TypeId}:aop P env ops draw gen reg rest dst i log K σ (.call { callee:=.value x,args:=args,argTypes:=ts }) =
  callThen P env ops draw gen reg rest dst i log K σ (av env σ.tm x) (args.toList.map (av env σ.tm)):=rfl
theorem bL0 {x:Operand} {name:String} {args:Array Operand} {ts:Array TypeId}:aop P env ops draw gen reg rest dst i log K σ (.call { callee:=.invoke x name,args:=args,argTypes:=ts }) =
  aE0 P env ops draw gen reg rest dst i log K σ (av env σ.tm x) name (args.toList.map (av env σ.tm)):=rfl
theorem by4 {k:FuncId} {first captured args:List V}:callThen P env ops draw gen reg rest dst i log K σ (.fn (.func k) first captured) args =
  ao5 P env k (C7 (first++args++captured)) σ.h fun e =>
   (draw=true→ab5 ops i e log)∧N8 P env ops draw gen reg rest (i+1) (V5 i e log) K (σ.put dst e):=rfl
def okE (P:Program) (env:Nat→Option (List V)) (ops:Array Oper) (draw:Bool) (gen reg:Nat) (rest:List Oper) (dst:Option Nat) (i:Nat) (log:List ad3)
  (K:St→Prop) (σ:St):Option Eff→Prop
 | some e=>(draw=true→ab5 ops i e log)∧N8 P env ops draw gen reg rest (i+1) (V5 i e log) K (σ.put dst e)
 | none=>False
theorem aO7 {op:Op} (hv:E5 P (av env σ.tm) op=none) :
    (match aB7 P (av env σ.tm) σ.h ⟨gen,reg,i⟩ op with
    | some e=>(draw=true→ab5 ops i e log)∧N8 P env ops draw gen reg rest (i+1) (V5 i e log) K (σ.put dst e)
    | none=>False)=okE P env ops draw gen reg rest dst i log K σ (Q7 P (av env σ.tm) σ.h ⟨gen,reg,i⟩ op):=by
  unfold aB7;rw [hv];rfl

def cl6 (T:Option TyI) (there:Option Obj) (nid:Id):Option Eff :=
 match T,there with
 | some i,none=>some ⟨.ptr nid 0,[nid],[(nid,.box i.zero)]⟩
 | _,_=>none
theorem bZ2 {t:TypeId}:aop P env ops draw gen reg rest dst i log K σ (.alloc t) =
  okE P env ops draw gen reg rest dst i log K σ (cl6 (tyi P t) (σ.h ⟨gen,reg,i⟩) ⟨gen,reg,i⟩):=by
 simp only [aop];exact aO7 rfl
def cx1 (cs:Option (List V)) (there:Option Obj) (nid:Id):Option Eff :=
 match cs,there with
 | some cs,none=>some ⟨.ptr nid 0,[nid],[(nid,.box cs)]⟩
 | _,_=>none
def cF8 (T:Option TyI) (A B:Prop):Prop:=match T with|some i=>if i.frz=true then A else B|none=>B
theorem cO0 {a b:Nat} {c:Bool} {d:List V} {e:List (Nat × Nat × Bool)} {f:Bool} {g k l m:Nat} {n:Bool} {p:List V} {q:Option IntKind} {A B:Prop}:cF8 (some ⟨a,b,c,d,e,f,g,k,l,m,n,p,q,true⟩) A B=A:=rfl
theorem cS5 {a b:Nat} {c:Bool} {d:List V} {e:List (Nat × Nat × Bool)} {f:Bool} {g k l m:Nat} {n:Bool} {p:List V} {q:Option IntKind} {A B:Prop}:cF8 (some ⟨a,b,c,d,e,f,g,k,l,m,n,p,q,false⟩) A B=B:=rfl
def elV (cs:Option (List V)):Option V:=cs.map fun cs=>.el cs 0
theorem cu9 {cs:List V}:elV (some cs)=some (.el cs 0):=rfl
theorem cC1 {t:TypeId} {x:Operand}:aop P env ops draw gen reg rest dst i log K σ (.box t x) =
  cF8 (tyi P t) (ok1 P env ops draw gen reg rest dst i log K σ (elV (cellsOf (av env σ.tm x))))
   (okE P env ops draw gen reg rest dst i log K σ (cx1 (cellsOf (av env σ.tm x)) (σ.h ⟨gen,reg,i⟩) ⟨gen,reg,i⟩)):=by
 have hb:∀ (hz:¬ (tyi P t).any (·.frz)=true),aop P env ops draw gen reg rest dst i log K σ (.box t x)=okE P env ops draw gen reg rest dst i log K σ (cx1 (cellsOf (av env σ.tm x)) (σ.h ⟨gen,reg,i⟩) ⟨gen,reg,i⟩):=by
  intro hz;have:Q7 P (av env σ.tm) σ.h ⟨gen,reg,i⟩ (.box t x)=cx1 (cellsOf (av env σ.tm x)) (σ.h ⟨gen,reg,i⟩) ⟨gen,reg,i⟩:=by
   simp only [Q7];rw [if_neg hz];rfl
  rw [← this];simp only [aop];exact aO7 rfl
 have hf:∀ (hz:(tyi P t).any (·.frz)=true),aop P env ops draw gen reg rest dst i log K σ (.box t x)=ok1 P env ops draw gen reg rest dst i log K σ (elV (cellsOf (av env σ.tm x))):=by
  intro hz;simp only [aop];refine aa1 ?_;simp only [aB7,E5,Q7];rw [if_pos hz];cases cellsOf (av env σ.tm x)<;>rfl
 unfold cF8;split
 ·rename_i j hj
  split
  ·rename_i h;exact hf (by rw [hj];exact h)
  ·rename_i h;exact hb (by rw [hj];exact h)
 ·rename_i hj;exact hb (by rw [hj];simp)
def bN3 (T:Option TyI) (t:TypeId) (ok:Bool) (x:V):Option V :=
 match T,x with
 | some i,.iface t' v=>if i.kind=8 then none else if t'=t then some (if ok then .tup [v,.bool true] else v) else if ok then some (.tup [.undef,.bool false]) else none
 | _,_=>none
theorem bb1 {t0 t:TypeId} {x:Operand} {ok:Bool}:aop P env ops draw gen reg rest dst i log K σ (.typeAssert x t0 t ok) =
  ok1 P env ops draw gen reg rest dst i log K σ (bN3 (tyi P t) t ok (av env σ.tm x)):=by
 simp only [aop];exact aa1 (aa7 rfl)
def ci6 (T:Option TyI) (len:Nat) (parts:List (Nat × V)):Option V :=
 match T with
 | some i =>
  if i.kind=4∧i.c9≠0∧i.B9.length=i.c9∧len * i.c9≤16777216 then (ak9 i.c9 (List.replicate len i.B9) parts).map fun es=>.sl .full es else none
 | none=>none
theorem aX4 {t:TypeId} {len:Nat} {ps:Array (Nat × Operand)}:aop P env ops draw gen reg rest dst i log K σ (.buildSlice t len ps) =
  ok1 P env ops draw gen reg rest dst i log K σ (ci6 (tyi P t) len (ps.toList.map fun p=>(p.1,av env σ.tm p.2))):=by
 simp only [aop];refine aa1 ?_;simp only [aB7,E5,Q7,ci6];cases tyi P t with
 | none=>rfl
 | some i =>
  simp only;split
  ·cases ak9 i.c9 (List.replicate len i.B9) (ps.toList.map fun p=>(p.1,av env σ.tm p.2))<;>rfl
  ·rfl
def aD6 (P:Program) (env:Nat→Option (List V)) (ops:Array Oper) (draw:Bool) (gen reg:Nat) (rest:List Oper) (dst:Option Nat) (i:Nat) (log:List ad3)
    (K:St→Prop) (σ:St) (T:Option TyI) (a:V):Prop :=
  match T,a with
  | some t,.ptr id off =>
    (match σ.h id with
    | some (.box cs)=>okE P env ops draw gen reg rest dst i log K σ ((af1 t.agg t.size cs off).map fun v=>⟨v,[id],[]⟩)
    | _=>False)
  | some t,.el cs off=>ok1 P env ops draw gen reg rest dst i log K σ (af1 t.agg t.size cs off)
  | _,_=>False
theorem co7 {t:TypeId} {x:Operand}:aop P env ops draw gen reg rest dst i log K σ (.load t x) =
  aD6 P env ops draw gen reg rest dst i log K σ (tyi P t) (av env σ.tm x):=by
 simp only [aop];cases hx:av env σ.tm x<;>cases hT:tyi P t
 case el.some cs off T =>
  refine aa1 (r:=af1 T.agg T.size cs off) ?_;simp only [aB7,E5,Q7,hx,hT]
 case ptr.some id off T =>
  refine (aO7 rfl).trans ?_;simp only [Q7,hx,hT,aD6];cases σ.h id with
  | none=>rfl
  | some o=>cases o<;>rfl
 all_goals
  refine (aO7 rfl).trans ?_;simp only [Q7,hx,hT,aD6]
  rfl
def ch3 (T:Option TyI) (a:V) (xs:Option (List V)) (h:H):Option Eff :=
  match T,a,xs with
  | some i,.ptr id off,some xs =>
    (match h id with
    | some (.box cs)=>if xs.length=i.size∧off+xs.length≤cs.length∧xs.all ab6=true then some ⟨.undef,[id],[(id,.box (I2 cs off xs))]⟩ else none
    | _=>none)
  | _,_,_=>none
theorem cd3 {t:TypeId} {x y:Operand}:aop P env ops draw gen reg rest dst i log K σ (.store t x y) =
  okE P env ops draw gen reg rest dst i log K σ (ch3 (tyi P t) (av env σ.tm x) (cellsOf (av env σ.tm y)) σ.h):=by
 simp only [aop];exact aO7 rfl
def aH0 (T U:Option TyI) (s x:V) (h:H) (nid:Id):Option Eff :=
  match s,x,T,U with
  | .sl c es,.sl _ xs,some i,some j =>
    if i.kind=4∧j.kind=4∧i.c9≠0∧i.B9.length=i.c9∧es.all (fun e=>e.length==i.c9)=true∧xs.all (fun e=>e.length==i.c9)=true ∧
        xs.flatten.all ab6=true∧(es.length+xs.length) * i.A1≤140737488355328∧es.length+xs.length≤140737488355328 then
      (match c with
      | .own id=>(match h id with|some (.tok n k)=>if n=es.length∧k=i.c9 then some ⟨.sl (.own id) (es++xs),[id],[(id,.tok (es.length+xs.length) i.c9)]⟩ else none|_=>none)
      | .full=>(match h nid with|none=>some ⟨.sl (.own nid) (es++xs),[nid],[(nid,.tok (es.length+xs.length) i.c9)]⟩|some _=>none)
      | .any=>none)
    else none
  | _,_,_,_=>none
theorem cd1 {i j:TyI} {es xs:List (List V)} {cx:Cap} {h:H} {nid:Id}:aH0 (some i) (some j) (.sl .full es) (.sl cx xs) h nid =
  if i.kind=4∧j.kind=4∧i.c9≠0∧i.B9.length=i.c9∧es.all (fun e=>e.length==i.c9)=true∧xs.all (fun e=>e.length==i.c9)=true ∧
    xs.flatten.all ab6=true∧(es.length+xs.length) * i.A1≤140737488355328∧es.length+xs.length≤140737488355328 then
   (match h nid with|none=>some ⟨.sl (.own nid) (es++xs),[nid],[(nid,.tok (es.length+xs.length) i.c9)]⟩|some _=>none)
  else none:=rfl
theorem cg3 {i j:TyI} {es xs:List (List V)} {id:Id} {cx:Cap} {h:H} {nid:Id}:aH0 (some i) (some j) (.sl (.own id) es) (.sl cx xs) h nid =
  if i.kind=4∧j.kind=4∧i.c9≠0∧i.B9.length=i.c9∧es.all (fun e=>e.length==i.c9)=true∧xs.all (fun e=>e.length==i.c9)=true ∧
    xs.flatten.all ab6=true∧(es.length+xs.length) * i.A1≤140737488355328∧es.length+xs.length≤140737488355328 then
   (match h id with|some (.tok n k)=>if n=es.length∧k=i.c9 then some ⟨.sl (.own id) (es++xs),[id],[(id,.tok (es.length+xs.length) i.c9)]⟩ else none|_=>none)
  else none:=rfl
theorem bE2 {x y:Operand} {t u:TypeId}:aop P env ops draw gen reg rest dst i log K σ (.call { callee:=.builtin .append,args:=#[x,y],argTypes:=#[t,u] }) =
  okE P env ops draw gen reg rest dst i log K σ (aH0 (tyi P t) (tyi P u) (av env σ.tm x) (av env σ.tm y) σ.h ⟨gen,reg,i⟩):=by
 simp only [aop];refine (aO7 rfl).trans ?_;congr 1;simp only [Q7,List.map_cons,List.map_nil,aH0];cases av env σ.tm x<;>cases av env σ.tm y<;>cases tyi P t<;>cases tyi P u<;>rfl
theorem cl8 {e:Eff}:okE P env ops draw gen reg rest dst i log K σ (some e) =
  ((draw=true→ab5 ops i e log)∧N8 P env ops draw gen reg rest (i+1) (V5 i e log) K (σ.put dst e)):=rfl
end
theorem E3 {c:Ctx} {gen:Nat} {k:List It} {σ:St} {x y:Code} {t:Operand} (ht:av c.env σ.tm t=.bool true) (h:AR c gen (.code x::k) .normal σ) :
  AR c gen (.code (.cond t x y)::k) .normal σ:=H5 ht (fun _=>h) (fun e=>by cases e)
theorem E4 {c:Ctx} {gen:Nat} {k:List It} {σ:St} {x y:Code} {t:Operand} (ht:av c.env σ.tm t=.bool false) (h:AR c gen (.code y::k) .normal σ) :
  AR c gen (.code (.cond t x y)::k) .normal σ:=H5 ht (fun e=>by cases e) (fun _=>h)
theorem y9 {P:Program} {env:Nat→Option (List V)} {k:FuncId} {args:List V} {h:H} {R:Eff→Prop} {v:V} (hp:Pure P env k args v) (hr:R ⟨v,[],[]⟩) :
  ao5 P env k args h R:=⟨⟨v,[],[]⟩,sp_,fun h2 _=>hp h2,hr⟩
theorem cU1 {P:Program} {env:Nat→Option (List V)} {n:Nat} {fn:Func} {g0:G} {w0:World} {h0:H} {v:V} {gen:Nat} {σ:St} {k:List It} {vs:List V}
  (b7:Rel env g0 w0 h0) (m0:ay2 P σ fn.results.toList=some vs) (hv:H2 (aF1 vs)=v) (hin:InV (fun id=>h0 id≠none) v) (hag:g9 h0 σ.h) :
  AR ⟨P,env,n,fn,g0,w0,h0,v,h0⟩ gen k .ret σ :=
 am3 (bR0 m0 hv hag (fun _ h=>h) hin (fun _ _ h=>.inl h) b7)
theorem aG9 {tm:Nat→V} {d t:Nat} {v:V}:upd tm (some d) v t=if t=d then v else tm t:=rfl
theorem ci7 {tm:Nat→V} {v:V}:upd tm none v=tm:=rfl
theorem cA7 {h:H} {i j:Id} {o:Obj}:u9 h i o j=if j=i then some o else h j:=rfl
theorem put_eq {σ:St} {d:Option Nat} {e:Eff}:σ.put d e=⟨upd σ.tm d e.v,J2 σ.h e.writes⟩:=rfl
theorem bL5 {h:H}:J2 h []=h:=rfl
theorem bM3 {h:H} {p:Id × Obj}:J2 h [p]=u9 h p.1 p.2:=rfl
theorem cm3 {l:List V} {t:Nat}:ag6 l t=(l[t]?).getD .undef:=rfl
theorem bD7 {i:Nat} {v:V} {ws:List (Id × Obj)} {log:List ad3}:V5 i ⟨v,[],ws⟩ log=log:=rfl
theorem bA7 {i:Nat} {v:V} {r:Id} {rs:List Id} {ws:List (Id × Obj)} {log:List ad3}:V5 i ⟨v,r::rs,ws⟩ log=(i,r::rs,ws.map (·.1))::log:=rfl
section
variable {P:Program} {env:Nat→Option (List V)} {ops:Array Oper} {draw:Bool} {gen reg:Nat} {rest:List Oper} {i:Nat} {log:List ad3} {K:St→Prop} {σ σ':St} {dst:Option Nat}
@[congr] theorem cR5 (h:σ=σ'):N8 P env ops draw gen reg rest i log K σ=N8 P env ops draw gen reg rest i log K σ':=by rw [h]
@[congr] theorem cX2 {op:Op} (h:σ=σ'):aop P env ops draw gen reg rest dst i log K σ op=aop P env ops draw gen reg rest dst i log K σ' op:=by rw [h]
@[congr] theorem cW6 {r r':Option V} (h:σ=σ') (hr:r=r'):ok1 P env ops draw gen reg rest dst i log K σ r=ok1 P env ops draw gen reg rest dst i log K σ' r':=by rw [h,hr]
@[congr] theorem cW9 {r r':Option Eff} (h:σ=σ') (hr:r=r'):okE P env ops draw gen reg rest dst i log K σ r=okE P env ops draw gen reg rest dst i log K σ' r':=by rw [h,hr]
@[congr] theorem cP9 {T U:Option TyI} {s s' x x':V} {h h':H} {nid:Id} (hs:s=s') (hx:x=x') (hh:h=h'):aH0 T U s x h nid=aH0 T U s' x' h' nid:=by rw [hs,hx,hh]
@[congr] theorem cw0 {T T':Option TyI} {a a':V} (h:σ=σ') (hT:T=T') (ha:a=a'):aD6 P env ops draw gen reg rest dst i log K σ T a=aD6 P env ops draw gen reg rest dst i log K σ' T' a':=by rw [h,hT,ha]
@[congr] theorem cs9 {f f':V} {l l':List V} (h:σ=σ') (hf:f=f') (hl:l=l'):callThen P env ops draw gen reg rest dst i log K σ f l=callThen P env ops draw gen reg rest dst i log K σ' f' l':=by rw [h,hf,hl]
@[congr] theorem cw1 {op:Op} {want:Bool} {v v':V} (h:σ=σ') (hv:v=v'):guarded P env ops draw gen reg rest dst i log K σ op want v=guarded P env ops draw gen reg rest dst i log K σ' op want v':=by rw [h,hv]
theorem bg0 {e:Eff}:ab5 ops i e []=True:=rfl
theorem bb5 {e:Eff} {x:ad3} {l:List ad3}:ab5 ops i e (x::l)=((((∀ p∈e.writes,p.1 ∉ x.2.1)∧∀ id∈x.2.2,id ∉ e.reads)∨bl1 ops x.1 i=true)∧ab5 ops i e l):=by
 obtain ⟨a,b,c⟩:=x;rfl
end
theorem bB6 {cs:List V} {off:Nat}:I2 cs off []=cs:=rfl
theorem bK2 {c v:V} {cs vs:List V} {off:Nat}:I2 (c::cs) off (v::vs)=I2 ((c::cs).set off v) (off+1) vs:=rfl
attribute [go_sem] Bool.false_eq_true false_implies implies_true forall_const true_and and_true and_self List.getElem?_cons_zero List.getElem?_cons_succ Option.getD_some Option.map_some
 List.map_cons List.map_nil List.length_cons List.length_nil Id.mk.injEq bg0 bb5 Option.bind_some List.getElem?_toArray List.cons_append List.nil_append List.append_nil
 ne_eq not_false_eq_true not_true_eq_false false_and and_false false_or or_false true_or or_true if_true if_false List.not_mem_nil List.mem_cons forall_eq forall_eq_or_imp
 V.int.injEq V.bool.injEq Option.some.injEq List.take_succ_cons List.take_zero List.drop_succ_cons List.drop_zero List.set_cons_zero List.set_cons_succ List.all_cons List.all_nil List.replicate_succ List.replicate_zero Bool.and_true Bool.true_and Bool.not_true Bool.not_false
theorem by3:∀ t:Ty,C7 t.cells=t.cells:=by
 intro t
 induction t using Ty.ind with
 | h t ih =>
  rw [Ty.m8];simp only [C7,H2,List.cons.injEq,V.sl.injEq,and_true,true_and];rw [H6,List.map_map];exact List.map_congr_left fun x hx=>ih x hx
theorem H8 (l:List Ty):B2 (l.map Ty.cells)=l.map Ty.cells:=by
 rw [H6,List.map_map];exact List.map_congr_left fun x _=>by3 x
theorem ci2 {S:Id→Prop}:∀ t:Ty,InL S t.cells:=by
 intro t
 induction t using Ty.ind with
 | h t ih =>
  rw [Ty.m8];simp only [InL,InV,aq0,true_and,and_true];rw [S3];intro l hl;obtain ⟨x,hx,rfl⟩:=List.mem_map.1 hl;exact ih x hx
attribute [go_sem] H2 C7 B2 by3 H8 aF1 ay2 cD2 Ty.al0 Ty.al5 Ty.D3 Ty.W6
attribute [go_sem] ck2 bZ3 bC5 bE8 bJ5 bK4 bF2 bD9 cy8 cj7 bF5 cj9 cJ0 bX6 cv9 bq1 cZ3 bY2 cB2 bJ0 co2 unV bt8 cK6
 bd3 cm4 aw6 bX1 cu4 bd0 cv8 bX7 cv2 bv2 cZ1 bZ7 cR7 bo1 al6 aW5 bl5 cz4 df9 bH6 cG3 cW3 cG6 cR6
 cm1 by4 bL0 bZ2 cl6 cC1 cO0 cS5 cu9 bb1 bN3 cx1 aX4 ci6 ak9 co7 aD6 cd3 ch3 bE2 cd1 cg3 cl8 cp8
 aG9 ci7 cA7 put_eq bL5 bM3 cm3 bD7 bA7 av toV aU0 cellsOf af1 aB0 bB6 bK2 ab6
inductive Tm where
 | mk (kind index:Int) (type:Ty) (args:List Tm)
def Tm.kind:Tm→Int | .mk k _ _ _=>k
def Tm.index:Tm→Int | .mk _ i _ _=>i
def Tm.type:Tm→Ty | .mk _ _ t _=>t
def Tm.args:Tm→List Tm | .mk _ _ _ l=>l
theorem Tm.ind {p:Tm→Prop} (h:∀ t,(∀ x∈t.args,p x)→p t):∀ t,p t:=by
 intro t;refine Tm.rec (motive_1:=p) (motive_2:=fun l=>∀ x∈l,p x) (fun k i ty l ih=>h _ ih) sp_ (fun a l ha hl x hx=>?_) t;rcases List.mem_cons.1 hx with rfl|hx
 ·exact ha
 ·exact hl x hx
mutual
def Tm.cells:Tm→List V
 | .mk k i t l=>[.int .i64 k,.int .i64 i,.int .i64 t.kind,.sl .any (t.args.map Ty.cells),.sl .any (Tm.rows l)]
def Tm.rows:List Tm→List (List V)
 | []=>[]
 | t::l=>t.cells::Tm.rows l
end
theorem Tm.Y8:∀ l,Tm.rows l=l.map Tm.cells
 | []=>by simp [Tm.rows]
 | t::l=>by simp [Tm.rows,Tm.Y8 l]
theorem Tm.m8 (t:Tm):t.cells=[.int .i64 t.kind,.int .i64 t.index,.int .i64 t.type.kind,.sl .any (t.type.args.map Ty.cells),.sl .any (t.args.map Tm.cells)]:=by
 cases t;simp [Tm.cells,Tm.Y8,Tm.kind,Tm.index,Tm.type,Tm.args]
inductive Fm where
 | mk (kind:Int) (type:Ty) (r8:List Tm) (args:List Fm)
def Fm.kind:Fm→Int | .mk k _ _ _=>k
def Fm.type:Fm→Ty | .mk _ t _ _=>t
def Fm.r8:Fm→List Tm | .mk _ _ l _=>l
def Fm.args:Fm→List Fm | .mk _ _ _ l=>l
theorem Fm.ind {p:Fm→Prop} (h:∀ t,(∀ x∈t.args,p x)→p t):∀ t,p t:=by
 intro t;refine Fm.rec (motive_1:=p) (motive_2:=fun l=>∀ x∈l,p x) (fun k i ty l ih=>h _ ih) sp_ (fun a l ha hl x hx=>?_) t;rcases List.mem_cons.1 hx with rfl|hx
 ·exact ha
 ·exact hl x hx
mutual
def Fm.cells:Fm→List V
 | .mk k t l a=>[.int .i64 k,.int .i64 t.kind,.sl .any (t.args.map Ty.cells),.sl .any (l.map Tm.cells),.sl .any (Fm.rows a)]
def Fm.rows:List Fm→List (List V)
 | []=>[]
 | t::l=>t.cells::Fm.rows l
end
theorem Fm.Y8:∀ l,Fm.rows l=l.map Fm.cells
 | []=>by simp [Fm.rows]
 | t::l=>by simp [Fm.rows,Fm.Y8 l]
theorem Fm.m8 (t:Fm):t.cells=[.int .i64 t.kind,.int .i64 t.type.kind,.sl .any (t.type.args.map Ty.cells),.sl .any (t.r8.map Tm.cells),.sl .any (t.args.map Fm.cells)]:=by
 cases t;simp [Fm.cells,Fm.Y8,Fm.kind,Fm.type,Fm.r8,Fm.args]
section
variable (t:Tm) (f:Fm) (y:Ty)
theorem Tm.D3:t.cells.length=5:=by rw [Tm.m8];rfl
theorem Tm.al0:t.cells[0]? = some (.int .i64 t.kind):=by rw [Tm.m8];rfl
theorem Tm.al5:t.cells[1]? = some (.int .i64 t.index):=by rw [Tm.m8];rfl
theorem Tm.av5:t.cells[2]? = some (.int .i64 t.type.kind):=by rw [Tm.m8];rfl
theorem Tm.aK4:t.cells[3]? = some (.sl .any (t.type.args.map Ty.cells)):=by rw [Tm.m8];rfl
theorem Tm.bl8:t.cells[4]? = some (.sl .any (t.args.map Tm.cells)):=by rw [Tm.m8];rfl
theorem Tm.W6:List.take 5 t.cells=t.cells:=List.take_of_length_le (by rw [Tm.D3];exact Nat.le_refl _)
theorem Tm.aH4:List.take 2 (List.drop 2 t.cells)=t.type.cells:=by rw [Tm.m8,Ty.m8];rfl
theorem Fm.D3:f.cells.length=5:=by rw [Fm.m8];rfl
theorem Fm.al0:f.cells[0]? = some (.int .i64 f.kind):=by rw [Fm.m8];rfl
theorem Fm.al5:f.cells[1]? = some (.int .i64 f.type.kind):=by rw [Fm.m8];rfl
theorem Fm.av5:f.cells[2]? = some (.sl .any (f.type.args.map Ty.cells)):=by rw [Fm.m8];rfl
theorem Fm.aK4:f.cells[3]? = some (.sl .any (f.r8.map Tm.cells)):=by rw [Fm.m8];rfl
theorem Fm.bl8:f.cells[4]? = some (.sl .any (f.args.map Fm.cells)):=by rw [Fm.m8];rfl
theorem Fm.W6:List.take 5 f.cells=f.cells:=List.take_of_length_le (by rw [Fm.D3];exact Nat.le_refl _)
theorem Fm.aH4:List.take 2 (List.drop 1 f.cells)=f.type.cells:=by rw [Fm.m8,Ty.m8];rfl
theorem Ty.Q8:y.cells.all ab6=true:=by rw [Ty.m8];rfl
theorem Tm.Q8:t.cells.all ab6=true:=by rw [Tm.m8];rfl
theorem Fm.Q8:f.cells.all ab6=true:=by rw [Fm.m8];rfl
end
theorem R7 {cs xs:List V} (h:cs.length=xs.length):I2 cs 0 xs=xs:=by
 rw [bj4 xs 0 cs om_,Nat.zero_add,← h];simp
theorem bB9 {cs:List V} {t:Ty} (h:cs.length=2):I2 cs 0 t.cells=t.cells:=R7 (by rw [h,Ty.D3])
theorem ca4 {cs:List V} {off:Nat} {t:Ty} (h:2<cs.length):I2 cs off t.cells=I2 cs off [.int .i64 t.kind,.sl .any (t.args.map Ty.cells)]:=by rw [Ty.m8]
theorem cc1 {cs:List V} {t:Tm} (h:cs.length=5):I2 cs 0 t.cells=t.cells:=R7 (by rw [h,Tm.D3])
theorem bZ9 {cs:List V} {t:Fm} (h:cs.length=5):I2 cs 0 t.cells=t.cells:=R7 (by rw [h,Fm.D3])
theorem az9:∀ t:Tm,C7 t.cells=t.cells:=by
 intro t
 induction t using Tm.ind with
 | h t ih =>
  rw [Tm.m8];simp only [C7,H2,List.cons.injEq,V.sl.injEq,and_true,true_and,H8];rw [H6,List.map_map];exact List.map_congr_left fun x hx=>ih x hx
theorem aD3 (l:List Tm):B2 (l.map Tm.cells)=l.map Tm.cells:=by
 rw [H6,List.map_map];exact List.map_congr_left fun x _=>az9 x
theorem ay5:∀ t:Fm,C7 t.cells=t.cells:=by
 intro t
 induction t using Fm.ind with
 | h t ih =>
  rw [Fm.m8];simp only [C7,H2,List.cons.injEq,V.sl.injEq,and_true,true_and,H8,aD3];rw [H6,List.map_map];exact List.map_congr_left fun x hx=>ih x hx
theorem cb8 (l:List Fm):B2 (l.map Fm.cells)=l.map Fm.cells:=by
 rw [H6,List.map_map];exact List.map_congr_left fun x _=>ay5 x
section
variable {S:Id→Prop}
theorem aC5 (l:List Ty):Z6 S (l.map Ty.cells):=by
 rw [S3];intro x hx;obtain ⟨y,_,rfl⟩:=List.mem_map.1 hx;exact ci2 y
theorem aw0:∀ t:Tm,InL S t.cells:=by
 intro t
 induction t using Tm.ind with
 | h t ih =>
  rw [Tm.m8];simp only [InL,InV,aq0,true_and,and_true,aC5];rw [S3];intro l hl;obtain ⟨x,hx,rfl⟩:=List.mem_map.1 hl;exact ih x hx
theorem bp4 (l:List Tm):Z6 S (l.map Tm.cells):=by
 rw [S3];intro x hx;obtain ⟨y,_,rfl⟩:=List.mem_map.1 hx;exact aw0 y
theorem bk3:∀ t:Fm,InL S t.cells:=by
 intro t
 induction t using Fm.ind with
 | h t ih =>
  rw [Fm.m8];simp only [InL,InV,aq0,true_and,and_true,aC5,bp4];rw [S3];intro l hl;obtain ⟨x,hx,rfl⟩:=List.mem_map.1 hl;exact ih x hx
theorem cC3 (l:List Fm):Z6 S (l.map Fm.cells):=by
 rw [S3];intro x hx;obtain ⟨y,_,rfl⟩:=List.mem_map.1 hx;exact bk3 y
end
theorem bF3 (l:List Ty):(l.map Ty.cells).all (fun e=>e.length==2)=true:=by simp [Ty.D3]
theorem bG4 (l:List Tm):(l.map Tm.cells).all (fun e=>e.length==5)=true:=by simp [Tm.D3]
theorem bE3 (l:List Fm):(l.map Fm.cells).all (fun e=>e.length==5)=true:=by simp [Fm.D3]
theorem bD2 (l:List Ty):(l.map Ty.cells).flatten.all ab6=true:=by
 rw [List.all_eq_true];intro v hv;obtain ⟨c,hc,hv⟩:=List.mem_flatten.1 hv;obtain ⟨x,_,rfl⟩:=List.mem_map.1 hc;exact List.all_eq_true.1 (Ty.Q8 x) v hv
theorem bG1 (l:List Tm):(l.map Tm.cells).flatten.all ab6=true:=by
 rw [List.all_eq_true];intro v hv;obtain ⟨c,hc,hv⟩:=List.mem_flatten.1 hv;obtain ⟨x,_,rfl⟩:=List.mem_map.1 hc;exact List.all_eq_true.1 (Tm.Q8 x) v hv
theorem bD3 (l:List Fm):(l.map Fm.cells).flatten.all ab6=true:=by
 rw [List.all_eq_true];intro v hv;obtain ⟨c,hc,hv⟩:=List.mem_flatten.1 hv;obtain ⟨x,_,rfl⟩:=List.mem_map.1 hc;exact List.all_eq_true.1 (Fm.Q8 x) v hv
def ints (l:List Int):List (List V):=l.map fun n=>[.int .i64 n]
theorem ao0 (l:List Int):(ints l).length=l.length:=by simp [ints]
theorem N5 (l:List Int):B2 (ints l)=ints l:=by
 rw [H6,ints,List.map_map];exact List.map_congr_left fun x _=>by simp [C7,H2]
theorem am4 {S:Id→Prop} (l:List Int):Z6 S (ints l):=by
 rw [S3];intro x hx;obtain ⟨y,_,rfl⟩:=List.mem_map.1 hx;simp [InL,InV]
theorem ba4 (l:List Int) (i:Nat):(ints l)[i]? = (l[i]?).map fun n=>[.int .i64 n]:=by simp [ints]
theorem aI5 (l:List Int):(ints l).all (fun e=>e.length==1)=true:=by simp [ints]
theorem bk1 (l:List Int):(ints l).flatten.all ab6=true:=by
 rw [List.all_eq_true];intro v hv;obtain ⟨c,hc,hv⟩:=List.mem_flatten.1 hv;obtain ⟨x,_,rfl⟩:=List.mem_map.1 hc;simp at hv;subst hv;rfl
def D1 (P:Program) (env:Nat→Option (List V)) (f:FuncId) (args:List V) (d:Id) (o:Obj) (v:V) (o':Obj):Prop :=
 ∀ h:H,h d=some o→Ret P env f args h v (u9 h d o')
theorem D0 {P:Program} {env:Nat→Option (List V)} {k:FuncId} {args:List V} {h:H} {R:Eff→Prop} {d:Id} {o o':Obj} {v:V} (hp:D1 P env k args d o v o')
    (hd:h d=some o) (hr:R ⟨v,[d],[(d,o')]⟩):ao5 P env k args h R :=
  ⟨⟨v,[d],[(d,o')]⟩,sp_,fun h2 hh=>by
    have:=hp h2 (by rw [hh d sp_,hd]);simpa [J2] using this,hr⟩

def a9 (d:Id) (h k:H):Prop:=∀ id,id≠d→h id≠none→k id=h id
theorem a9.refl (d:Id) (h:H):a9 d h h:=fun _ _ _=>rfl
theorem a9.new {d:Id} {h k:H} {id:Id} {o:Obj} (a:a9 d h k) (hn:h id=none):a9 d h (u9 k id o):=fun i hd hi=>by
 have:i≠id:=fun e=>hi (by rw [e];exact hn);rw [l8 this];exact a i hd hi
theorem a9.set {d:Id} {h k:H} {o:Obj} (a:a9 d h k):a9 d h (u9 k d o):=fun i hd hi=>by
 rw [l8 hd];exact a i hd hi
theorem bv7 {P:Program} {env:Nat→Option (List V)} {n:Nat} {fn:Func} {g0:G} {w0:World} {h0:H} {v:V} {gen:Nat} {σ:St} {k:List It} {vs:List V}
  {d:Id} {o:Obj} {o':List V} (b7:Rel env g0 w0 h0) (hd:h0 d=some o) (m0:ay2 P σ fn.results.toList=some vs) (hv:H2 (aF1 vs)=v)
  (hin:InV (fun id=>u9 h0 d (.box o') id≠none) v) (ac0:InL (fun id=>u9 h0 d (.box o') id≠none) o') (hag:a9 d h0 σ.h) (hat:σ.h d=some (.box o')) :
  AR ⟨P,env,n,fn,g0,w0,h0,v,u9 h0 d (.box o')⟩ gen k .ret σ:=by
 refine am3 (bR0 m0 hv ?_ ?_ hin ?_ b7)
 ·intro id hid
  by_cases e:id=d
  ·subst e;rw [hat];exact B0.symm
  ·simp only [l8 e] at hid ⊢
   exact hag id e hid
 ·intro id hid
  by_cases e:id=d
  ·subst e;simp [B0]
  ·simpa only [l8 e] using hid
 ·intro id cs e
  by_cases hne:id=d
  ·subst hne
   simp only [B0,Option.some.injEq,Obj.box.injEq] at e;subst e;exact .inr ac0
  ·left;simpa only [l8 hne] using e
theorem c8 {h:H} {gen:Nat} (hfr:∀ id,h id≠none→id.gen<gen) (r i:Nat):h ⟨gen,r,i⟩=none:=by
 cases e:h ⟨gen,r,i⟩ with
 | none=>rfl
 | some o=>exact absurd (hfr _ (by rw [e];simp)) sp_
theorem c7 {h:H} {gen:Nat} (hfr:∀ id,h id≠none→id.gen<gen) {d:Id} {o:Obj} (hd:h d=some o) (r i:Nat):(d=⟨gen,r,i⟩)=False:=by
 simp only [eq_iff_iff,iff_false];intro e;rw [e,c8 hfr] at hd;cases hd
theorem l4 {h:H} {gen:Nat} (hfr:∀ id,h id≠none→id.gen<gen) {d:Id} {o:Obj} (hd:h d=some o) (r i:Nat):((⟨gen,r,i⟩:Id)=d)=False:=by
 simp only [eq_iff_iff,iff_false];intro e;rw [← e,c8 hfr] at hd;cases hd
attribute [go_sem] Tm.D3 Tm.al0 Tm.al5 Tm.av5 Tm.aK4 Tm.bl8 Tm.W6 Tm.aH4 Fm.D3 Fm.al0 Fm.al5 Fm.av5 Fm.aK4 Fm.bl8
 Fm.W6 Fm.aH4 Ty.Q8 Tm.Q8 Fm.Q8 bB9 ca4 cc1 bZ9 az9 aD3 ay5 cb8 ao0 N5
 bF3 bG4 bE3 bD2 bG1 bD3 aI5 bk1 List.length_map
def aX8 (P:Program) (σ:St) (rs:List ResultVar) (v:V):Prop :=
 match ay2 P σ rs with
 | some vs=>H2 (aF1 vs)=v
 | none=>False
theorem aB5 {P:Program} {env:Nat→Option (List V)} {n:Nat} {fn:Func} {g0:G} {w0:World} {h0:H} {v:V} {gen:Nat} {σ:St} {k:List It}
  (b7:Rel env g0 w0 h0) (hin:InV (fun id=>h0 id≠none) v) (hag:g9 h0 σ.h) (hv:aX8 P σ fn.results.toList v) :
  AR ⟨P,env,n,fn,g0,w0,h0,v,h0⟩ gen k .ret σ:=by
 unfold aX8 at hv;split at hv
 ·rename_i vs hvs;exact cU1 b7 hvs hv hin hag
 ·exact hv.elim
theorem L4 {P:Program} {env:Nat→Option (List V)} {n:Nat} {fn:Func} {g0:G} {w0:World} {h0:H} {v:V} {gen:Nat} {σ:St} {k:List It}
  {d:Id} {o:Obj} {o':List V} (b7:Rel env g0 w0 h0) (hd:h0 d=some o)
  (hin:InV (fun id=>u9 h0 d (.box o') id≠none) v) (ac0:InL (fun id=>u9 h0 d (.box o') id≠none) o') (hag:a9 d h0 σ.h) (hat:σ.h d=some (.box o'))
  (hv:aX8 P σ fn.results.toList v):AR ⟨P,env,n,fn,g0,w0,h0,v,u9 h0 d (.box o')⟩ gen k .ret σ:=by
 unfold aX8 at hv;split at hv
 ·rename_i vs hvs;exact bv7 b7 hd hvs hv hin ac0 hag hat
 ·exact hv.elim
attribute [go_sem] aX8
attribute [go_sem] InV InL Z6 aq0 ci2 aw0 bk3 aC5 bp4 cC3 am4
theorem ah3 {P:Program} {env:Nat→Option (List V)} {ops:Array Oper} {draw:Bool} {gen reg:Nat} {K K':St→Prop} (hK:∀ σ,K σ→K' σ) :
  ∀ (rest:List Oper) (i:Nat) (log:List ad3) (σ:St),N8 P env ops draw gen reg rest i log K σ→N8 P env ops draw gen reg rest i log K' σ
 | [],_,_,_,h=>hK _ h
 | o :: rest,i,log,σ,h=>by
  rw [N8] at h ⊢;cases hg:ap4 ops o σ.tm with
  | none=>rw [hg] at h;exact h.elim
  | some b =>
   rw [hg] at h;cases b with
   | false=>exact ah3 hK rest (i+1) log _ h
   | true =>
    simp only at h ⊢;split at h
    ·split at h
     ·obtain ⟨e,h1,h2,h3,h4⟩:=h
      exact ⟨e,h1,h2,h3,ah3 hK rest (i+1) _ _ h4⟩
     ·exact h.elim
    ·split at h
     ·split at h
      ·obtain ⟨e,h1,h2,h3,h4⟩:=h
       exact ⟨e,h1,h2,h3,ah3 hK rest (i+1) _ _ h4⟩
      ·exact h.elim
     ·exact h.elim
    ·split at h
     ·exact ⟨h.1,ah3 hK rest (i+1) _ _ h.2⟩
     ·exact h.elim
def aw8 (v:V) (p q:Prop):Prop:=match v with | .bool b=>(b=true→p)∧(b=false→q)|_=>False
@[congr] theorem cL6 {v v':V} {p q:Prop} (h:v=v'):aw8 v p q=aw8 v' p q:=by rw [h]
@[go_sem] theorem cD8 {p q:Prop}:aw8 (.bool true) p q=p:=by simp [aw8]
@[go_sem] theorem cy1 {p q:Prop}:aw8 (.bool false) p q=q:=by simp [aw8]
theorem spl {b:Bool} {p q:Prop} (h1:b=true→p) (h2:b=false→q):aw8 (.bool b) p q:=⟨h1,h2⟩
theorem spt {v:V} {p q:Prop} (h:v=.bool true) (h1:p):aw8 v p q:=by rw [h,cD8];exact h1
theorem spf {v:V} {p q:Prop} (h:v=.bool false) (h1:q):aw8 v p q:=by rw [h,cy1];exact h1
def cz:Code→Nat
 | .seq a b=>cz a+cz b+1
 | .cond _ a b=>cz a+cz b+1
 | .block _ b=>cz b+1
 | _=>1
def kz:List It→Nat
 | []=>0
 | .code c::k=>2 * cz c+kz k
 | _::k=>1+kz k
theorem cO8 (c:Code):1≤cz c:=by cases c<;>simp [cz]
def WP (c:Ctx) (gen:Nat):List It→Exit→St→Prop
 | .code .skip::k,.normal,σ=>WP c gen k .normal σ
 | .code (.seq x y)::k,.normal,σ=>WP c gen (.code x::.code y::k) .normal σ
 | .code (.cond t x y)::k,.normal,σ=>aw8 (av c.env σ.tm t) (WP c gen (.code x::k) .normal σ) (WP c gen (.code y::k) .normal σ)
 | .code (.block id x)::k,.normal,σ=>WP c gen (.code x::.block id::k) .normal σ
 | .code (.exit id)::k,.normal,σ=>WP c gen k (.exit id) σ
 | .code .ret::k,.normal,σ=>AR c gen k .ret σ
 | .code (.region id ops draw)::k,.normal,σ=>N8 c.P c.env ops draw gen id ops.toList 0 [] (fun σ'=>WP c gen k .normal σ') σ
 | .block _::k,.normal,σ=>WP c gen k .normal σ
 | .block id::k,.exit id',σ=>if id'=id then WP c gen k .normal σ else WP c gen k (.exit id') σ
 | .code _::k,.exit id,σ=>WP c gen k (.exit id) σ
 | .inv _::k,.exit id,σ=>WP c gen k (.exit id) σ
 | [],.normal,σ=>AR c gen [] .ret σ
 | k,e,σ=>AR c gen k e σ
termination_by k=>kz k
decreasing_by all_goals (simp only [kz,cz];first|omega|exact Nat.lt_add_of_pos_left (Nat.mul_pos om_ (cO8 _)))
section
variable {c:Ctx} {gen:Nat} {k:List It} {e:Exit} {σ σ':St} {x y:Code} {t:Operand} {id id':Nat} {ops:Array Oper} {draw:Bool} {J:St→Prop}
@[congr] theorem da4 (h:σ=σ'):WP c gen k e σ=WP c gen k e σ':=by rw [h]
@[go_sem] theorem cD6:WP c gen (.code .skip::k) .normal σ=WP c gen k .normal σ:=by rw [WP]
@[go_sem] theorem cO6:WP c gen (.code (.seq x y)::k) .normal σ=WP c gen (.code x::.code y::k) .normal σ:=by rw [WP]
@[go_sem] theorem cy9:WP c gen (.code (.cond t x y)::k) .normal σ=aw8 (av c.env σ.tm t) (WP c gen (.code x::k) .normal σ) (WP c gen (.code y::k) .normal σ):=by rw [WP]
@[go_sem] theorem ch6:WP c gen (.code (.block id x)::k) .normal σ=WP c gen (.code x::.block id::k) .normal σ:=by rw [WP]
@[go_sem] theorem cD4:WP c gen (.code (.exit id)::k) .normal σ=WP c gen k (.exit id) σ:=by rw [WP]
@[go_sem] theorem cU5:WP c gen (.code .ret::k) .normal σ=AR c gen k .ret σ:=by rw [WP]
@[go_sem] theorem bX5:WP c gen (.code (.region id ops draw)::k) .normal σ=N8 c.P c.env ops draw gen id ops.toList 0 [] (fun σ'=>WP c gen k .normal σ') σ:=by rw [WP]
@[go_sem] theorem bo6:WP c gen (.block id::k) .normal σ=WP c gen k .normal σ:=by rw [WP]
@[go_sem] theorem bd9:WP c gen (.block id::k) (.exit id') σ=if id'=id then WP c gen k .normal σ else WP c gen k (.exit id') σ:=by rw [WP]
@[go_sem] theorem bm0:WP c gen (.code x::k) (.exit id) σ=WP c gen k (.exit id) σ:=by cases x<;>simp [WP]
@[go_sem] theorem bx7:WP c gen (.inv J::k) (.exit id) σ=WP c gen k (.exit id) σ:=by rw [WP]
@[go_sem] theorem bQ4:WP c gen [] .normal σ=AR c gen [] .ret σ:=by rw [WP]
@[go_sem] theorem cF5:WP c gen (.code (.loop x)::k) .normal σ=AR c gen (.code (.loop x)::k) .normal σ:=by rw [WP]<;>simp
@[go_sem] theorem cM5:WP c gen (.inv J::k) .normal σ=AR c gen (.inv J::k) .normal σ:=by rw [WP]<;>simp
end
theorem cf8 {c:Ctx} {gen:Nat}:∀ (n:Nat) (k:List It) (e:Exit) (σ:St),kz k≤n→WP c gen k e σ→AR c gen k e σ:=by
 intro n
 induction n with
 | zero =>
  intro k e σ hn h;cases k with
  | nil=>cases e with
   | normal=>rw [bQ4] at h;exact fun ok hm g a w x r=>h ok hm g a w x r
   | _=>rw [WP] at h<;>first|exact h|simp
  | cons i k=>cases i with
   | code c=>cases c<;>simp [kz,cz] at hn<;>omega
   | _=>simp [kz] at hn<;>omega
 | succ n ih =>
  intro k e σ hn h;cases k with
  | nil=>cases e with
   | normal=>rw [bQ4] at h;exact fun ok hm g a w x r=>h ok hm g a w x r
   | _=>rw [WP] at h<;>first|exact h|simp
  | cons i k =>
   cases e with
   | normal =>
    cases i with
    | block id=>rw [bo6] at h;simp only [kz] at hn;exact A8 (ih _ _ _ om_ h)
    | inv J=>rw [cM5] at h;exact h
    | code x =>
     cases x with
     | skip=>rw [cD6] at h;simp only [kz,cz] at hn;exact I1 (ih _ _ _ om_ h)
     | seq x y=>rw [cO6] at h;simp only [kz,cz] at hn;exact D6 (ih _ _ _ (by simp only [kz];omega) h)
     | cond t x y =>
      rw [cy9] at h;simp only [kz,cz] at hn;cases hv:av c.env σ.tm t with
      | bool b =>
       rw [hv] at h;exact H5 hv (fun hb=>ih _ _ _ (by simp only [kz];omega) (h.1 hb)) (fun hb=>ih _ _ _ (by simp only [kz];omega) (h.2 hb))
      | _=>rw [hv] at h;exact h.elim
     | block id x=>rw [ch6] at h;simp only [kz,cz] at hn;exact F2 (ih _ _ _ (by simp only [kz];omega) h)
     | exit id=>rw [cD4] at h;simp only [kz,cz] at hn;exact I4 (ih _ _ _ om_ h)
     | ret=>rw [cU5] at h;exact Q0 h
     | region id ops draw =>
      rw [bX5] at h;simp only [kz,cz] at hn;exact B6 (ah3 (fun σ' h'=>ih _ _ _ om_ h') _ _ _ _ h)
     | loop x=>rw [cF5] at h;exact h
     | _=>rw [WP] at h<;>first|exact h|simp
   | exit id =>
    cases i with
    | block id2 =>
     rw [bd9] at h;simp only [kz] at hn;split at h
     ·rename_i e;subst e;exact A4 (ih _ _ _ om_ h)
     ·rename_i e;exact A0 e (ih _ _ _ om_ h)
    | inv J=>rw [bx7] at h;simp only [kz] at hn;exact B5 (ih _ _ _ om_ h)
    | code x=>rw [bm0] at h;simp only [kz] at hn;exact A3 (ih _ _ _ (by cases x<;>simp only [cz] at hn<;>omega) h)
   | _=>rw [WP] at h<;>first|exact h|simp
def goes:List It→Exit→Bool
 | .code (.loop _)::_,.normal=>false
 | .inv _::_,.normal=>false
 | [],.ret=>false
 | _::_,.ret=>false
 | _,_=>true
theorem wp {c:Ctx} {gen:Nat} {k:List It} {e:Exit} {σ:St} (_:goes k e=true) (h:WP c gen k e σ):AR c gen k e σ:=cf8 _ k e σ (Nat.le_refl _) h
def aW6 (h k:H):Prop:=g9 h k
@[go_sem] theorem cJ8 {h:H}:aW6 h h=True:=eq_true (g9.refl h)
@[go_sem] theorem cS3 {h k:H} {id:Id} {o:Obj} (hn:h id=none):aW6 h (u9 k id o)=aW6 h k:=by
 refine propext ⟨fun a i hi=>?_,fun a=>g9.new a hn⟩;have:=a i hi;rwa [l8 (by intro e;rw [e] at hi;exact hi hn)] at this
theorem agf {h k:H} (a:g9 h k):aW6 h k:=a
def av1 (d:Id) (h k:H):Prop:=a9 d h k
@[go_sem] theorem cx8 {d:Id} {h:H}:av1 d h h=True:=eq_true (a9.refl d h)
@[go_sem] theorem cK8 {d:Id} {h k:H} {o:Obj}:av1 d h (u9 k d o)=av1 d h k:=by
 refine propext ⟨fun a i hd hi=>?_,fun a=>a9.set a⟩;have:=a i hd hi;rwa [l8 hd] at this
@[go_sem] theorem cL0 {d:Id} {h k:H} {id:Id} {o:Obj} (hn:h id=none):av1 d h (u9 k id o)=av1 d h k:=by
 refine propext ⟨fun a i hd hi=>?_,fun a=>a9.new a hn⟩;have:=a i hd hi;rwa [l8 (by intro e;rw [e] at hi;exact hi hn)] at this
theorem agb {d:Id} {h k:H} (a:a9 d h k):av1 d h k:=a
theorem A9 {P:Program} {env:Nat→Option (List V)} {n:Nat} {fn:Func} {g0:G} {w0:World} {h0:H} {v:V} {gen:Nat} {σ:St} {k:List It}
  (b7:Rel env g0 w0 h0) (hin:InV (fun id=>h0 id≠none) v) (hag:aW6 h0 σ.h) (hv:aX8 P σ fn.results.toList v) :
  AR ⟨P,env,n,fn,g0,w0,h0,v,h0⟩ gen k .ret σ:=aB5 b7 hin hag hv
theorem Z4 {P:Program} {env:Nat→Option (List V)} {n:Nat} {fn:Func} {g0:G} {w0:World} {h0:H} {v:V} {gen:Nat} {σ:St} {k:List It}
  {d:Id} {o:Obj} {o':List V} (b7:Rel env g0 w0 h0) (hd:h0 d=some o)
  (hin:InV (fun id=>u9 h0 d (.box o') id≠none) v) (ac0:InL (fun id=>u9 h0 d (.box o') id≠none) o') (hag:av1 d h0 σ.h) (hat:σ.h d=some (.box o'))
  (hv:aX8 P σ fn.results.toList v):AR ⟨P,env,n,fn,g0,w0,h0,v,u9 h0 d (.box o')⟩ gen k .ret σ:=L4 b7 hd hin ac0 hag hat hv
theorem enter {P:Program} {env:Nat→Option (List V)} {f:FuncId} {fn:Func} {body:Code} {args:List V} {h:H} {v:V} {h':H}
    (hf : P.funcs[f]? = some fn) (rs : List ResultVar) (hb : fn.body = some body) (aj4 : (fn.name == "runtime.NumGoroutine") = false) (hm : P.follows .mixedOrders = true)
    (hok:J9 fn.ntmps body=true) (m0:fn.results.toList=rs)
    (walk:∀ (g:G) (w:World) (gen:Nat),Rel env g w h→(∀ id,h id≠none→id.gen<gen)→(∀ r i,h ⟨gen,r,i⟩=none)→fn.results.toList=rs →
      AR ⟨P,env,fn.ntmps,fn,g,w,h,v,h'⟩ gen [.code body] .normal ⟨ag6 args,h⟩):Ret P env f args h v h' :=
  bv5 hf hb aj4 hm hok fun g w gen hr hfr=>walk g w gen hr hfr (c8 hfr) m0
/- Short names of the rules that are printed most. -/
theorem cp {P:Program} {env:Nat→Option (List V)} {k:FuncId} {args:List V} {h:H} {R:Eff→Prop} {v:V} (hp:Pure P env k args v) (hr:R ⟨v,[],[]⟩):ao5 P env k args h R:=y9 hp hr
theorem ct {P:Program} {env:Nat→Option (List V)} {k:FuncId} {args:List V} {h:H} {R:Eff→Prop} {d:Id} {o o':Obj} {v:V} (hp:D1 P env k args d o v o')
  (hd:h d=some o) (hr:R ⟨v,[d],[(d,o')]⟩):ao5 P env k args h R:=D0 hp hd hr
theorem gs {P:Program} {env:Nat→Option (List V)} {ops:Array Oper} {draw:Bool} {gen reg:Nat} {rest:List Oper} {dst:Option Nat} {i:Nat} {log:List ad3} {K:St→Prop} {σ:St} {op:Op} {want b:Bool}
  (h1:b=want→guarded P env ops draw gen reg rest dst i log K σ op want (.bool want))
  (h2:b=!want→guarded P env ops draw gen reg rest dst i log K σ op want (.bool (!want))):guarded P env ops draw gen reg rest dst i log K σ op want (.bool b):=z9 h1 h2
attribute [go_sem] and_self reduceIte Nat.reduceEqDiff Nat.reduceAdd Nat.reduceLeDiff Nat.reduceMul Nat.reduceBEq Nat.reduceLT Nat.reduceSub Int.reduceBEq Int.reduceToNat Int.reduceLE Int.reduceEq
def r5:Ty:=.mk 1 []
def C8:Ty:=.mk 2 []
def S5:Ty:=.mk 5 []
def E9 (a b:Ty):Ty:=.mk 3 [a,b]
def G1 (a b:Ty):Ty:=.mk 4 [a,b]
def tm0 (k:Int) (l:List Tm):Tm:=.mk k 0 (.mk 0 []) l
def tmT (k:Int) (t:Ty) (l:List Tm):Tm:=.mk k 0 t l
def u5 (i:Int):Tm:=.mk 1 i (.mk 0 []) []
def aL8 (a b:Ty):Ty:=if a.kind==5 then b else if b.kind==5 then a else E9 a b
def bT4 (a b:Ty):Ty:=if b.kind==5 then S5 else if a.kind==5 then b else G1 a b
def bH0 (n k:Int):Int:=(IntKind.i64.wrap (n.tmod k+k)).tmod k
def M3 (a b:Tm):Fm:=.mk 1 (.mk 0 []) [a,b] []
def E8 (k:Int) (a b:Fm):Fm:=.mk k (.mk 0 []) [] [a,b]
def fmQ (k:Int) (t:Ty) (a:Fm):Fm:=.mk k t [] [a]
theorem Ty.p9 (k:Int) (l:List Ty):(Ty.mk k l).cells=[.int .i64 k,.sl .any (l.map Ty.cells)]:=Ty.m8 _
theorem Tm.p9 (k i:Int) (t:Ty) (l:List Tm) :
  (Tm.mk k i t l).cells=[.int .i64 k,.int .i64 i,.int .i64 t.kind,.sl .any (t.args.map Ty.cells),.sl .any (l.map Tm.cells)]:=Tm.m8 _
theorem Fm.p9 (k:Int) (t:Ty) (l:List Tm) (a:List Fm) :
  (Fm.mk k t l a).cells=[.int .i64 k,.int .i64 t.kind,.sl .any (t.args.map Ty.cells),.sl .any (l.map Tm.cells),.sl .any (a.map Fm.cells)]:=Fm.m8 _
theorem Ty.J5 (k:Int) (l:List Ty):(Ty.mk k l).kind=k:=rfl
theorem Ty.J4 (k:Int) (l:List Ty):(Ty.mk k l).args=l:=rfl
def T7 (h0 h:H) (v:V) (k:Nat) (es:List (List V)):Prop :=
 v=.sl .full es∨∃ id,v=.sl (.own id) es∧h id=some (.tok es.length k)∧h0 id=none
theorem T7.new {h0 h:H} {v:V} {k:Nat} {es:List (List V)} {id:Id} {o:Obj} (a:T7 h0 h v k es) (hn:h id=none):T7 h0 (u9 h id o) v k es:=by
 rcases a with a|⟨i,h1,h2,h3⟩
 ·exact .inl a
 ·refine .inr ⟨i,h1,?_,h3⟩
  rw [l8 (by intro e;rw [e,hn] at h2;cases h2)];exact h2
theorem T7.val {h0 h:H} {v:V} {k:Nat} {es:List (List V)} (a:T7 h0 h v k es):∃ c,v=.sl c es:=by
 rcases a with a|⟨i,h1,_⟩
 ·exact ⟨_,a⟩
 ·exact ⟨_,h1⟩
theorem s7 {h k:H} (a:g9 h k) {id:Id} (hk:k id=none):h id=none:=by
 cases e:h id with
 | none=>rfl
 | some o=>rw [a.at e] at hk;cases hk
theorem am8 {h:H} {a b:Id} {cs:List V} {n k:Nat} (ha:h a=some (.box cs)) (hb:h b=some (.tok n k)):(a=b)=False:=by
 simp only [eq_iff_iff,iff_false];intro e;rw [e,hb] at ha;cases ha
theorem bM7 {h:H} {a b:Id} {cs:List V} {n k:Nat} (ha:h a=some (.box cs)) (hb:h b=some (.tok n k)):(b=a)=False:=by
 simp only [eq_iff_iff,iff_false];intro e;rw [e,ha] at hb;cases hb
theorem K9 {h:H} {gn:Nat} (hg:∀ id,h id≠none→id.gen<gn) {g r i:Nat} {o:Obj} (ha:h ⟨g,r,i⟩=some o):(g=gn)=False:=by
 simp only [eq_iff_iff,iff_false];have:=hg _ (by rw [ha];simp);simp at this;omega
theorem G7 {h:H} {gn:Nat} (hg:∀ id,h id≠none→id.gen<gn) {g r i:Nat} {o:Obj} (ha:h ⟨g,r,i⟩=some o):(gn=g)=False:=by
 simp only [eq_iff_iff,iff_false];have:=hg _ (by rw [ha];simp);simp at this;omega
theorem wrap_small {n:Int} (h0 : -9223372036854775808≤n) (h1:n≤9223372036854775807):IntKind.i64.wrap n=n:=IntWalk.i64_in n ⟨h0,h1⟩
theorem z7 {i:Nat} (h:i≤4611686018427387904):IntKind.i64.wrap ((i:Int)+1)=((i+1:Nat):Int):=by
 rw [wrap_small om_ om_];omega
theorem T5 {i n:Nat} (h:i<n):decide ((i:Int)<(n:Int))=true:=by simp;omega
theorem O2 {i n:Nat} (h:n≤i):decide ((i:Int)<(n:Int))=false:=by simp;omega
theorem B4 {α β:Type} {f:α→β} {l:List α} {i:Nat} {x:α} (h:l[i]? = some x):(l.take (i+1)).map f=(l.take i).map f++[f x]:=by
 rw [List.take_add_one,h];simp
theorem aG4 {i n:Nat} (h:i<n):min i n=i:=by omega
attribute [go_sem] Int.toNat_natCast List.getElem?_map Int.natCast_nonneg List.length_take List.length_append eq_self_iff_true List.flatten_cons List.flatten_nil
theorem bJ6 {c:Ctx} {gen:Nat} {k:List It} {σ:St} {x:Code} (J:St→Prop) (h1:AR c gen (.code x::.inv J::k) .normal σ)
  (h2:∀ σ',J σ'→AR c gen k .normal σ'):AR c gen (.code x::k) .normal σ:=by
 intro ok hm g a w hx r;simp only [R6,Bool.and_eq_true] at ok;have:=h1 (by simp [R6,ok.1,ok.2]) hm g a w hx r;refine wp_mono this ?_;intro e a' w' hp;cases e with
 | normal=>obtain ⟨g2,σ2,p1,p2,p3⟩:=hp;exact h2 σ2 p3 ok.2 hm g2 a' w' p1 p2
 | _=>exact hp
theorem aV1 {c:Ctx} {gen:Nat} {k:List It} {σ:St} {id:Nat} {x:Code} (J:St→Prop) (h1:AR c gen (.code x::.block id::.inv J::k) .normal σ)
  (h2:∀ σ',J σ'→AR c gen k .normal σ'):AR c gen (.code (.block id x)::k) .normal σ:=bJ6 J (F2 h1) h2
theorem cC5 {c:Ctx} {gen:Nat} {k:List It} {σ:St} {t:Nat} {b:Bool} {x y:Code} (J:St→Prop) (ht:av c.env σ.tm (.tmp t)=.bool b)
  (h1:b=true→AR c gen (.code x::.inv J::k) .normal σ) (h2:b=false→AR c gen (.code y::.inv J::k) .normal σ)
  (h3:∀ σ',J σ'→AR c gen k .normal σ'):AR c gen (.code (.cond (.tmp t) x y)::k) .normal σ:=bJ6 J (H5 ht h1 h2) h3
theorem bU5 {c:Ctx} {gen:Nat} {k:List It} {σ:St} {id:Nat} {ops:Array Oper} {draw:Bool} {x:Code} (J:St→Prop)
  (h1:AR c gen (.code (.region id ops draw)::.code x::.inv J::k) .normal σ)
  (h2:∀ σ',J σ'→AR c gen k .normal σ'):AR c gen (.code (.seq (.region id ops draw) x)::k) .normal σ:=bJ6 J (D6 h1) h2
def Y3:Option Int→V
 | some n=>.tup [.int .i64 n,.bool true]
 | none=>.tup [.int .i64 0,.bool false]
theorem ca7 {n:Int}:Y3 (some n)=.tup [.int .i64 n,.bool true]:=rfl
theorem ce1:Y3 none=.tup [.int .i64 0,.bool false]:=rfl
attribute [go_sem] ca7 ce1
def ap7 (k:Int):Option Int:=if k==1||k==2||k==5 then some 0 else if k==3||k==4 then some 2 else none
mutual
def Ty.nodes:Ty→Option Int
 | .mk k l=>match ap7 k with
  | none=>none
  | some w=>if (l.length:Int)==w then Ty.C0 1 l else none
def Ty.C0:Int→List Ty→Option Int
 | n,[]=>some n
 | n,t::l=>match t.nodes with|none=>none|some k=>Ty.C0 (IntKind.i64.wrap (n+k)) l
end
theorem Ty.T0 (t:Ty):t.nodes=match ap7 t.kind with|none=>none|some w=>if (t.args.length:Int)==w then Ty.C0 1 t.args else none:=by
 cases t;rw [Ty.nodes];rfl
theorem Ty.K7 (n:Int):Ty.C0 n []=some n:=by rw [Ty.C0]
theorem Ty.N4 {n:Int} {t:Ty} {l:List Ty} (h:t.nodes=none):Ty.C0 n (t::l)=none:=by rw [Ty.C0,h]
theorem Ty.H7 {n k:Int} {t:Ty} {l:List Ty} (h:t.nodes=some k):Ty.C0 n (t::l)=Ty.C0 (IntKind.i64.wrap (n+k)) l:=by rw [Ty.C0,h]
def chk (m:Int):Option Int→Int × Int
 | none=>(0,2)
 | some n=>if m<n then (0,4) else (n,0)
def two (p:Int × Int):V:=.tup [.int .i64 p.1,.int .i64 p.2]
def ac2 (t:Ty):Int:=(chk 64 t.nodes).2
def aa0 (t:Ty):Bool:=t.kind==0&&(t.args.length:Int)==0
def arities:List Int:=[0,0,1,2,0,1,3,0,2,3,2,1,1,0]
def arity (k:Int):Option Int:=if k<1∨14≤k then none else arities[k.toNat]?
def typed (k:Int):Bool:=k==2||k==6||k==9
def O5 (k i:Int) (t:Ty) (n:Int):Bool :=
 match arity k with
 | none=>false
 | some a=>n==a&&decide (0≤i)&&(i==0||k==1)&&(if typed k then ac2 t==0 else aa0 t)
mutual
def Tm.nodes:Tm→Option Int
 | .mk k i t l=>if O5 k i t l.length then Tm.C0 1 l else none
def Tm.C0:Int→List Tm→Option Int
 | n,[]=>some n
 | n,t::l=>match t.nodes with|none=>none|some k=>Tm.C0 (IntKind.i64.wrap (n+k)) l
end
theorem Tm.T0 (t:Tm):t.nodes=if O5 t.kind t.index t.type t.args.length then Tm.C0 1 t.args else none:=by
 cases t;rw [Tm.nodes];rfl
theorem Tm.K7 (n:Int):Tm.C0 n []=some n:=by rw [Tm.C0]
theorem Tm.N4 {n:Int} {t:Tm} {l:List Tm} (h:t.nodes=none):Tm.C0 n (t::l)=none:=by rw [Tm.C0,h]
theorem Tm.H7 {n k:Int} {t:Tm} {l:List Tm} (h:t.nodes=some k):Tm.C0 n (t::l)=Tm.C0 (IntKind.i64.wrap (n+k)) l:=by rw [Tm.C0,h]
def au2 (k:Int):Option (Int × Int × Bool) :=
 if k==1 then some (2,0,false) else if k==2||k==3 then some (0,2,false) else if k==4||k==5||k==6||k==7 then some (0,1,true) else none
def formed (k:Int) (t:Ty) (n m:Int):Bool :=
 match au2 k with
 | none=>false
 | some (a,b,ty)=>(if ty then ac2 t==0 else aa0 t)&&n==a&&m==b
mutual
def Fm.nodes:Fm→Option Int
 | .mk k t l a=>if formed k t l.length a.length then (match Tm.C0 1 l with|none=>none|some n=>Fm.C0 n a) else none
def Fm.C0:Int→List Fm→Option Int
 | n,[]=>some n
 | n,t::l=>match t.nodes with|none=>none|some k=>Fm.C0 (IntKind.i64.wrap (n+k)) l
end
theorem Fm.T0 (t:Fm):t.nodes=if formed t.kind t.type t.r8.length t.args.length then (match Tm.C0 1 t.r8 with|none=>none|some n=>Fm.C0 n t.args) else none:=by
 cases t;rw [Fm.nodes];rfl
theorem Fm.K7 (n:Int):Fm.C0 n []=some n:=by rw [Fm.C0]
theorem Fm.N4 {n:Int} {t:Fm} {l:List Fm} (h:t.nodes=none):Fm.C0 n (t::l)=none:=by rw [Fm.C0,h]
theorem Fm.H7 {n k:Int} {t:Fm} {l:List Fm} (h:t.nodes=some k):Fm.C0 n (t::l)=Fm.C0 (IntKind.i64.wrap (n+k)) l:=by rw [Fm.C0,h]
def P5 (f:Fm):Int:=(chk 4096 f.nodes).2
mutual
def Fm.uni:Fm→Bool
 | .mk k _ _ a=>k==6||k==7||Fm.da6 a
def Fm.da6:List Fm→Bool
 | []=>false
 | f::l=>f.uni||Fm.da6 l
end
theorem A2 {α:Type} {l:List α} {i:Nat} {x:α} (h:l[i]? = some x):l.drop i=x::l.drop (i+1):=by
 have hlt:=(List.getElem?_eq_some_iff.1 h).1;rw [List.drop_eq_getElem_cons hlt];congr 1;exact (List.getElem?_eq_some_iff.1 h).2
end GoAbs
