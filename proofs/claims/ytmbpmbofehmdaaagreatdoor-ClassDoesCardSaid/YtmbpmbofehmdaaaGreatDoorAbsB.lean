/-
 The abstract layer: how a function is walked.
-/
import Derived.Test.YtmbpmbofehmdaaaGreatDoorAbsA
set_option linter.unusedSimpArgs false
set_option linter.unusedVariables false
set_option linter.unusedSectionVars false
namespace GoAbs
open Go
def Call1 (P : Program) (env : Nat → Option (List V)) (k : FuncId) (args : List V) (h : H) (R : Eff → Prop) : Prop :=
 ∃ e : Eff, (∀ p ∈ e.writes, p.1 ∈ e.reads) ∧ (∀ h2 : H, (∀ id ∈ e.reads, h2 id = h id) → Ret P env k args h2 e.v (happly h2 e.writes)) ∧ R e
@[congr] theorem Call1_congr {P : Program} {env : Nat → Option (List V)} {k : FuncId} {args args' : List V} {h : H} {R : Eff → Prop} (e : args = args') :
  Call1 P env k args h R = Call1 P env k args' h R := by rw [e]
abbrev LogE := Nat × List Id × List Id
def logOk (ops : Array Oper) (i : Nat) (e : Eff) : List LogE → Prop
 | [] => True
 | (j, rs, ws) :: l => (((∀ p ∈ e.writes, p.1 ∉ rs) ∧ ∀ id ∈ ws, id ∉ e.reads) ∨ ordB ops j i = true) ∧ logOk ops i e l
def addLog (i : Nat) (e : Eff) (log : List LogE) : List LogE :=
 match e.reads with
 | [] => log
 | r :: rs => (i, r :: rs, e.writes.map (·.1)) :: log
def aops (P : Program) (env : Nat → Option (List V)) (ops : Array Oper) (draw : Bool) (gen reg : Nat) : List Oper → Nat → List LogE → (St → Prop) → St → Prop
  | [], _, _, K, σ => K σ
  | o :: rest, i, log, K, σ =>
    match gwant ops o σ.tm with
    | none => False
    | some false => aops P env ops draw gen reg rest (i + 1) log K ⟨upd σ.tm o.dst (.tup []), σ.h⟩
    | some true =>
      match o.op with
      | .call { callee := .value x, args := args, .. } =>
        (match av env σ.tm x with
        | .fn (.func k) first captured =>
          Call1 P env k (weakL (first ++ args.toList.map (av env σ.tm) ++ captured)) σ.h fun e =>
            (draw = true → logOk ops i e log) ∧ aops P env ops draw gen reg rest (i + 1) (addLog i e log) K (σ.put o.dst e)
        | _ => False)
      | .call { callee := .invoke x name, args := args, .. } =>
        (match av env σ.tm x with
        | .iface t v =>
          (match meth P t name with
          | some k => Call1 P env k (weakL (v :: args.toList.map (av env σ.tm))) σ.h fun e =>
            (draw = true → logOk ops i e log) ∧ aops P env ops draw gen reg rest (i + 1) (addLog i e log) K (σ.put o.dst e)
          | none => False)
        | _ => False)
      | op =>
        match prim P (av env σ.tm) σ.h ⟨gen, reg, i⟩ op with
        | some e => (draw = true → logOk ops i e log) ∧ aops P env ops draw gen reg rest (i + 1) (addLog i e log) K (σ.put o.dst e)
        | none => False

theorem logOk_spec {ops : Array Oper} {i : Nat} {e : Eff} : ∀ {log : List LogE}, logOk ops i e log → ∀ j rs ws, (j, rs, ws) ∈ log →
  ordB ops j i = true ∨ ((∀ p ∈ e.writes, p.1 ∉ rs) ∧ ∀ id ∈ ws, id ∉ e.reads)
 | [], _, _, _, _, h => by simp at h
 | (j', rs', ws') :: l, ⟨h1, h2⟩, j, rs, ws, h => by
  rcases List.mem_cons.1 h with e' | h
  ·cases e'; exact h1.symm
  ·exact logOk_spec h2 j rs ws h
theorem aops_stp {P : Program} {env : Nat → Option (List V)} {ops : Array Oper} {draw : Bool} {gen reg : Nat} {o : Oper} {rest : List Oper} {i : Nat} {log : List LogE}
    {K : St → Prop} {σ : St} (h : aops P env ops draw gen reg (o :: rest) i log K σ) :
    (gwant ops o σ.tm = some false ∧ aops P env ops draw gen reg rest (i + 1) log K ⟨upd σ.tm o.dst (.tup []), σ.h⟩) ∨
    (gwant ops o σ.tm = some true ∧ ∃ e, Stp P env (av env σ.tm) σ.h ⟨gen, reg, i⟩ o.op e ∧ (draw = true → logOk ops i e log) ∧
      aops P env ops draw gen reg rest (i + 1) (addLog i e log) K (σ.put o.dst e)) := by
  rw [aops] at h
  cases hg : gwant ops o σ.tm with
  | none => rw [hg] at h; exact h.elim
  | some b =>
    rw [hg] at h
    cases b with
    | false => exact .inl ⟨rfl, h⟩
    | true =>
      right
      refine ⟨rfl, ?_⟩
      simp only at h
      split at h
      · rename_i x args ts hop
        split at h
        · rename_i k first captured hf
          obtain ⟨e, h1, h2, h3, h4⟩ := h
          exact ⟨e, .inr ⟨_, hop, k, _, .inl ⟨x, first, captured, rfl, hf, rfl⟩, h1, h2⟩, h3, h4⟩
        · exact h.elim
      · rename_i x name args ts hop
        split at h
        · rename_i t v hf
          split at h
          · rename_i k hm
            obtain ⟨e, h1, h2, h3, h4⟩ := h
            exact ⟨e, .inr ⟨_, hop, k, _, .inr ⟨x, name, t, v, rfl, hf, hm, rfl⟩, h1, h2⟩, h3, h4⟩
          · exact h.elim
        · exact h.elim
      · split at h
        · rename_i e he
          exact ⟨e, .inl he, h.1, h.2⟩
        · exact h.elim

theorem aops_chain {P : Program} {env : Nat → Option (List V)} {ops : Array Oper} {draw : Bool} {gen reg : Nat} {K : St → Prop} :
    ∀ (rest : List Oper) (i : Nat) (log : List LogE) (σ : St) (done : List (Nat × Option Eff)), (∀ j, rest[j]? = ops[i + j]?) →
      (∀ x ∈ done, ∀ e, x.2 = some e → e.reads = [] ∨ (x.1, e.reads, e.writes.map (·.1)) ∈ log) → (∀ x ∈ done, ∀ e, x.2 = some e → ∀ p ∈ e.writes, p.1 ∈ e.reads) →
      aops P env ops draw gen reg rest i log K σ →
      ∃ l σe, l.map (·.1) = (List.range rest.length).map (i + ·) ∧ Chain P env ops gen reg l σ σe ∧ K σe ∧
        (draw = true → l.Pairwise (PairOk ops) ∧ ∀ x ∈ done, ∀ y ∈ l, PairOk ops x y)
  | [], i, log, σ, done, _, _, _, h => ⟨[], σ, rfl, .nil σ, h, fun _ => ⟨.nil, by simp⟩⟩
  | o :: rest, i, log, σ, done, hr, hl, hw, h => by
    have ho : ops[i]? = some o := by have := hr 0; simpa using this.symm
    have hr' : ∀ j, rest[j]? = ops[i + 1 + j]? := fun j => by
      have := hr (j + 1)
      rw [show i + (j + 1) = i + 1 + j by omega] at this
      simpa using this
    have hidx : i :: (List.range rest.length).map (i + 1 + ·) = (List.range (o :: rest).length).map (i + ·) := by
      rw [List.length_cons, List.range_succ_eq_map, List.map_cons, List.map_map]
      simp only [Nat.add_zero]
      congr 1
      apply List.map_congr_left
      intro j _; simp; omega
    rcases aops_stp h with ⟨hg, h'⟩ | ⟨hg, e, hs, hlog, h'⟩
    · obtain ⟨l, σe, h1, h2, h3, h4⟩ := aops_chain rest (i + 1) log _ ((i, none) :: done) hr'
        (fun x hx e he => by
          rcases List.mem_cons.1 hx with rfl | hx
          · simp at he
          · exact hl x hx e he)
        (fun x hx e he => by
          rcases List.mem_cons.1 hx with rfl | hx
          · simp at he
          · exact hw x hx e he) h'
      refine ⟨(i, none) :: l, σe, by rw [List.map_cons, h1]; exact hidx, .cons _ _ _ _ _ ⟨o, ho, hg, rfl⟩ h2, h3, fun hd => ?_⟩
      obtain ⟨h5, h6⟩ := h4 hd
      refine ⟨List.pairwise_cons.2 ⟨fun y hy => h6 _ (by simp) y hy, h5⟩, fun x hx y hy => ?_⟩
      rcases List.mem_cons.1 hy with rfl | hy
      · right
        unfold indepE
        cases x.2 <;> trivial
      · exact h6 x (by simp [hx]) y hy
    · have hws := stp_writes hs
      obtain ⟨l, σe, h1, h2, h3, h4⟩ := aops_chain rest (i + 1) (addLog i e log) _ ((i, some e) :: done) hr'
        (fun x hx e' he => by
          unfold addLog
          rcases List.mem_cons.1 hx with rfl | hx
          · cases he
            cases hre : e.reads with
            | nil => exact .inl rfl
            | cons r rs => right; simp
          · rcases hl x hx e' he with h | h
            · exact .inl h
            · right
              split
              · exact h
              · simp [h])
        (fun x hx e' he => by
          rcases List.mem_cons.1 hx with rfl | hx
          · cases he; exact hws
          · exact hw x hx e' he) h'
      refine ⟨(i, some e) :: l, σe, by rw [List.map_cons, h1]; exact hidx, .cons _ _ _ _ _ ⟨o, ho, hg, hs, rfl⟩ h2, h3, fun hd => ?_⟩
      obtain ⟨h5, h6⟩ := h4 hd
      refine ⟨List.pairwise_cons.2 ⟨fun y hy => h6 _ (by simp) y hy, h5⟩, fun x hx y hy => ?_⟩
      rcases List.mem_cons.1 hy with rfl | hy
      · unfold PairOk indepE
        cases hx2 : x.2 with
        | none => right; trivial
        | some ex =>
          simp only
          rcases hl x hx ex hx2 with he | hm
          · right
            have hwx := hw x hx ex hx2
            refine ⟨fun p hp => ?_, fun p hp => ?_⟩
            · have := hwx p hp; rw [he] at this; simp at this
            · rw [he]; simp
          · rcases logOk_spec (hlog hd) _ _ _ hm with h | ⟨ha, hb⟩
            · exact .inl h
            · right
              exact ⟨fun p hp => hb p.1 (List.mem_map.2 ⟨p, hp, rfl⟩), ha⟩
      · exact h6 x (by simp [hx]) y hy

structure Ctx where
 P : Program
 env : Nat → Option (List V)
 n : Nat
 fn : Func
 g0 : G
 w0 : World
 h0 : H
 v : V
 h' : H
def Ctx.R (c : Ctx) (e : Ending) (w : World) : Prop :=
 ∃ cv g', e = .returned cv ∧ Ext c.g0 c.w0 g' w ∧ Rel c.env g' w c.h' ∧ RV g' w cv c.v
inductive It where
 | code (c : Code)
 | block (id : Nat)
 | inv (J : St → Prop)
def postI (c : Ctx) : List It → Exit → Act → World → Prop
 | [], e, a, w => bodyPost c.P c.fn c.R e a w
 | .code x :: k, .normal, a, w => x.wp c.P (postI c k) a w
 | .code _ :: k, e, a, w => postI c k e a w
 | .block _ :: k, .normal, a, w => postI c k .normal a w
 | .block id :: k, .exit id', a, w => if id' = id then postI c k .normal a w else postI c k (.exit id') a w
 | .block _ :: k, e, a, w => postI c k e a w
 | .inv J :: _, .normal, a, w => ∃ g σ, Ext c.g0 c.w0 g w ∧ RelSt c.env c.n g w a σ ∧ J σ
 | .inv _ :: k, e, a, w => postI c k e a w
def okCode (n : Nat) : Code → Bool
 | .region _ ops draw => dstOk n ops && (!draw || drawOk ops)
 | .seq a b => okCode n a && okCode n b
 | .cond _ a b => okCode n a && okCode n b
 | .block _ b => okCode n b
 | .loop b => okCode n b
 | .exit _ | .ret | .skip => true
 | _ => false
def okStk (n : Nat) : List It → Bool
 | [] => true
 | .code c :: k => okCode n c && okStk n k
 | _ :: k => okStk n k
def AR (c : Ctx) (gen : Nat) (k : List It) (e : Exit) (σ : St) : Prop :=
 okStk c.n k = true → c.P.follows .mixedOrders = true → ∀ g a w, Ext c.g0 c.w0 g w → RelSt c.env c.n g w a σ → postI c k e a w
section
variable {c : Ctx} {gen : Nat} {k : List It} {σ : St}
theorem AR_skip (h : AR c gen k .normal σ) : AR c gen (.code .skip :: k) .normal σ :=
 fun ok hm g a w x r => wp_skip (h (by simpa [okStk, okCode] using ok) hm g a w x r)
theorem AR_seq {x y : Code} (h : AR c gen (.code x :: .code y :: k) .normal σ) : AR c gen (.code (.seq x y) :: k) .normal σ := by
 intro ok hm g a w hx r
 have ok' : okStk c.n (.code x :: .code y :: k) = true := by simpa [okStk, okCode, Bool.and_assoc] using ok
 refine wp_seq (wp_mono (h ok' hm g a w hx r) ?_)
 intro e a' w' hp
 cases e <;> exact hp
theorem AR_cond {x y : Code} {t : Operand} {b : Bool} (ht : av c.env σ.tm t = .bool b) (h1 : b = true → AR c gen (.code x :: k) .normal σ)
  (h2 : b = false → AR c gen (.code y :: k) .normal σ) : AR c gen (.code (.cond t x y) :: k) .normal σ := by
 intro ok hm g a w hx r
 have hr := rv_av r t
 rw [ht] at hr
 have hc : a.eval t = .bool b := by cases hh : a.eval t <;> rw [hh] at hr <;> cases hr; rfl
 simp only [okStk, okCode, Bool.and_eq_true] at ok
 refine wp_cond_split hc (fun hb => ?_) (fun hb => ?_)
 ·exact h1 hb (by simp [okStk, ok.1.1, ok.2]) hm g a w hx r
 ·exact h2 hb (by simp [okStk, ok.1.2, ok.2]) hm g a w hx r
theorem AR_block {id : Nat} {x : Code} (h : AR c gen (.code x :: .block id :: k) .normal σ) : AR c gen (.code (.block id x) :: k) .normal σ := by
 intro ok hm g a w hx r
 have ok' : okStk c.n (.code x :: .block id :: k) = true := by simpa [okStk, okCode] using ok
 refine wp_block (wp_mono (h ok' hm g a w hx r) ?_)
 intro e a' w' hp
 cases e <;> exact hp
theorem AR_exit {id : Nat} (h : AR c gen k (.exit id) σ) : AR c gen (.code (.exit id) :: k) .normal σ :=
 fun ok hm g a w x r => wp_exit (h (by simpa [okStk, okCode] using ok) hm g a w x r)
theorem AR_ret (h : AR c gen k .ret σ) : AR c gen (.code .ret :: k) .normal σ :=
 fun ok hm g a w x r => wp_ret (h (by simpa [okStk, okCode] using ok) hm g a w x r)
theorem AR_block_end {id : Nat} (h : AR c gen k .normal σ) : AR c gen (.block id :: k) .normal σ := fun ok hm g a w x r => h ok hm g a w x r
theorem AR_block_hit {id : Nat} (h : AR c gen k .normal σ) : AR c gen (.block id :: k) (.exit id) σ := fun ok hm g a w x r => by
 simp only [postI, if_true]; exact h ok hm g a w x r
theorem AR_block_pass {id id' : Nat} (hne : id' ≠ id) (h : AR c gen k (.exit id') σ) : AR c gen (.block id :: k) (.exit id') σ := fun ok hm g a w x r => by
 simp only [postI, if_neg hne]; exact h ok hm g a w x r
theorem AR_code_exit {id : Nat} {x : Code} (h : AR c gen k (.exit id) σ) : AR c gen (.code x :: k) (.exit id) σ := fun ok hm g a w hx r =>
 h (by simp [okStk] at ok; exact ok.2) hm g a w hx r
theorem AR_inv_exit {id : Nat} {J : St → Prop} (h : AR c gen k (.exit id) σ) : AR c gen (.inv J :: k) (.exit id) σ := fun ok hm g a w hx r => h ok hm g a w hx r
theorem AR_to_ret : ∀ {k : List It}, AR c gen [] .ret σ → AR c gen k .ret σ
 | [], h => h
 | .code x :: k, h => fun ok hm g a w hx r => AR_to_ret (k := k) h (by simp [okStk] at ok; exact ok.2) hm g a w hx r
 | .block id :: k, h => fun ok hm g a w hx r => AR_to_ret (k := k) h (by simpa [okStk] using ok) hm g a w hx r
 | .inv J :: k, h => fun ok hm g a w hx r => AR_to_ret (k := k) h (by simpa [okStk] using ok) hm g a w hx r
theorem AR_inv {J : St → Prop} (h : J σ) : AR c gen (.inv J :: k) .normal σ := fun _ _ g a w hx r => ⟨g, σ, hx, r, h⟩
theorem AR_gen {gen' : Nat} {e : Exit} (h : ∀ gn, (∀ id, σ.h id ≠ none → id.gen < gn) → AR c gn k e σ) : AR c gen' k e σ :=
 fun ok hm g a w hx r => h g.top (fun id hid => r.rel.top id hid) ok hm g a w hx r
theorem AR_region {id : Nat} {ops : Array Oper} {draw : Bool} (h : aops c.P c.env ops draw gen id ops.toList 0 [] (fun σ' => AR c gen k .normal σ') σ) :
  AR c gen (.code (.region id ops draw) :: k) .normal σ := by
 intro ok hm g a w hx r
 simp only [okStk, okCode, Bool.and_eq_true, Bool.or_eq_true, Bool.not_eq_true'] at ok
 obtain ⟨⟨hd, hdr⟩, okk⟩ := ok
 obtain ⟨l, σe, h1, h2, h3, h4⟩ := aops_chain ops.toList 0 [] σ [] (fun j => by simp) (by simp) (by simp) h
 have hl : l.map (·.1) = List.range ops.size := by rw [h1]; simp
 have hk : ∀ g' a' w', Ext g w g' w' → RelSt c.env c.n g' w' a' σe → postI c k .normal a' w' := fun g' a' w' hx' r' => h3 okk hm g' a' w' (hx.trans hx') r'
 cases draw with
 | false =>
  refine wp_region ?_
  rw [← hl]
  exact chain_ops hd l h2 r hk
 | true =>
  have hdk : drawOk ops = true := by simpa using hdr
  exact chain_region_draw hd hdk hm hl (h4 rfl).1 h2 r hk
theorem AR_loop {body : Code} (J : St → Prop) (μ : St → Nat) (h0 : J σ)
  (round : ∀ σ', J σ' → AR c gen (.code body :: .inv (fun σ2 => J σ2 ∧ μ σ2 < μ σ') :: k) .normal σ') : AR c gen (.code (.loop body) :: k) .normal σ := by
 intro ok hm g a w hx r
 have ok' : ∀ J', okStk c.n (.code body :: .inv J' :: k) = true := fun J' => by simpa [okStk, okCode] using ok
 let I : Act → World → Prop := fun a w => ∃ g σ, Ext c.g0 c.w0 g w ∧ RelSt c.env c.n g w a σ ∧ J σ
 let S : Act → World → Nat → Prop := fun a w n => ∃ g σ, Ext c.g0 c.w0 g w ∧ RelSt c.env c.n g w a σ ∧ J σ ∧ μ σ = n
 have hS : ∀ a w, I a w → ∃ n, S a w n := fun a w ⟨g, σ, h1, h2, h3⟩ => ⟨μ σ, g, σ, h1, h2, h3, rfl⟩
 have hmin : ∀ (p : Nat → Prop), (∃ n, p n) → ∃ n, p n ∧ ∀ m, p m → n ≤ m := by
  intro p ⟨n, hn⟩
  induction n using Nat.strongRecOn with
  | _ n ih =>
   by_cases hh : ∃ m, m < n ∧ p m
   ·obtain ⟨m, hm1, hm2⟩ := hh; exact ih m hm1 hm2
   ·exact ⟨n, hn, fun m hm => Nat.le_of_not_lt fun hlt => hh ⟨m, hlt, hm⟩⟩
 let M : Act → World → Nat := fun a w => by
  classical
  exact if h : ∃ n, S a w n then Classical.choose (hmin _ h) else 0
 have hM : ∀ a w, I a w → S a w (M a w) ∧ ∀ m, S a w m → M a w ≤ m := by
  intro a w hI
  have he := hS a w hI
  have : M a w = Classical.choose (hmin _ he) := by simp only [M]; rw [dif_pos he]
  rw [this]; exact Classical.choose_spec (hmin _ he)
 refine wp_loop (Q := postI c k) I M ⟨g, σ, hx, r, h0⟩ ?_
 intro a w hI
 obtain ⟨⟨g, σ', h1, h2, h3, h4⟩, _⟩ := hM a w hI
 refine wp_mono (round σ' h3 (ok' _) hm g a w h1 h2) ?_
 intro e a' w' hp
 cases e with
 | normal =>
  obtain ⟨g2, σ2, p1, p2, p3, p4⟩ := hp
  have hI' : I a' w' := ⟨g2, σ2, p1, p2, p3⟩
  refine ⟨hI', ?_⟩
  have := (hM a' w' hI').2 (μ σ2) ⟨g2, σ2, p1, p2, p3, rfl⟩
  omega
 | _ => exact hp
theorem AR_loop_nat {body : Code} (J : Nat → St → Prop) (n : Nat) (h0 : J 0 σ)
  (round : ∀ i σ', i ≤ n → J i σ' → AR c gen (.code body :: .inv (fun σ2 => i < n ∧ J (i + 1) σ2) :: k) .normal σ') : AR c gen (.code (.loop body) :: k) .normal σ := by
 have hmin : ∀ (p : Nat → Prop), (∃ n, p n) → ∃ n, p n ∧ ∀ m, p m → n ≤ m := by
  intro p ⟨n, hn⟩
  induction n using Nat.strongRecOn with
  | _ n ih =>
   by_cases hh : ∃ m, m < n ∧ p m
   ·obtain ⟨m, hm1, hm2⟩ := hh; exact ih m hm1 hm2
   ·exact ⟨n, hn, fun m hm => Nat.le_of_not_lt fun hlt => hh ⟨m, hlt, hm⟩⟩
 let S : St → Nat → Prop := fun σ q => ∃ i, i ≤ n ∧ J i σ ∧ q = n - i
 let M : St → Nat := fun σ => by
  classical
  exact if h : ∃ q, S σ q then Classical.choose (hmin _ h) else 0
 have hM : ∀ σ, (∃ i, i ≤ n ∧ J i σ) → S σ (M σ) ∧ ∀ m, S σ m → M σ ≤ m := by
  intro σ ⟨i, h1, h2⟩
  have he : ∃ q, S σ q := ⟨n - i, i, h1, h2, rfl⟩
  have : M σ = Classical.choose (hmin _ he) := by simp only [M]; rw [dif_pos he]
  rw [this]; exact Classical.choose_spec (hmin _ he)
 refine AR_loop (fun σ => ∃ i, i ≤ n ∧ J i σ) M ⟨0, Nat.zero_le _, h0⟩ ?_
 intro σ' hJ
 obtain ⟨⟨i, h1, h2, h3⟩, _⟩ := hM σ' hJ
 have hr := round i σ' h1 h2
 intro ok hm g a w hx r
 have := hr (by simpa [okStk] using ok) hm g a w hx r
 simp only [postI] at this ⊢
 refine wp_mono this ?_
 intro e a' w' hp
 cases e with
 | normal =>
  obtain ⟨g2, σ2, p1, p2, p3, p4⟩ := hp
  refine ⟨g2, σ2, p1, p2, ⟨i + 1, by omega, p4⟩, ?_⟩
  have := (hM σ2 ⟨i + 1, by omega, p4⟩).2 (n - (i + 1)) ⟨i + 1, by omega, p4, rfl⟩
  omega
 | _ => exact hp
end
def capIn (S : Id → Prop) : Cap → Prop
 | .own id => S id
 | .any => True
 | .full => True
mutual
def InV (S : Id → Prop) : V → Prop
 | .undef => True
 | .bool _ => True
 | .int _ _ => True
 | .str _ => True
 | .agg cs => InL S cs
 | .tup vs => InL S vs
 | .sl c es => capIn S c ∧ InLL S es
 | .ptr id _ => S id
 | .slb id _ => S id
 | .slr id _ _ => S id
 | .el cs _ => InL S cs
 | .nilp => True
 | .fn _ a b => InL S a ∧ InL S b
 | .nilf => True
 | .iface _ v => InV S v
 | .nili => True
def InL (S : Id → Prop) : List V → Prop
 | [] => True
 | v :: vs => InV S v ∧ InL S vs
def InLL (S : Id → Prop) : List (List V) → Prop
 | [] => True
 | v :: vs => InL S v ∧ InLL S vs
end
theorem InL_mem {S : Id → Prop} : ∀ {l : List V}, InL S l ↔ ∀ v ∈ l, InV S v
 | [] => by simp [InL]
 | v :: vs => by simp [InL, InL_mem (l := vs)]
theorem InLL_mem {S : Id → Prop} : ∀ {l : List (List V)}, InLL S l ↔ ∀ v ∈ l, InL S v
 | [] => by simp [InLL]
 | v :: vs => by simp [InLL, InLL_mem (l := vs)]
theorem InLL_flat {S : Id → Prop} {es : List (List V)} : InLL S es ↔ InL S es.flatten := by
 rw [InLL_mem, InL_mem]
 simp only [InL_mem, List.mem_flatten]
 exact ⟨fun h v ⟨l, hl, hv⟩ => h l hl v hv, fun h l hl v hv => h v ⟨l, hl, hv⟩⟩
theorem InL_get {S : Id → Prop} {l : List V} (h : InL S l) {i : Nat} {v : V} (hv : l[i]? = some v) : InV S v := InL_mem.1 h v (List.mem_of_getElem? hv)
theorem InL_of {S : Id → Prop} {l : List V} (h : ∀ (i : Nat) v, l[i]? = some v → InV S v) : InL S l := InL_mem.2 fun v hv => by
 obtain ⟨i, hi, e⟩ := List.mem_iff_getElem.1 hv
 exact h i v (by rw [List.getElem?_eq_getElem hi, e])
theorem RVL_get {g : G} {w : World} {vs : Array Value} {cs : List V} (h : vs.size = cs.length) {i : Nat} {v : V} (hv : cs[i]? = some v) : ∃ c, vs[i]? = some c := by
 have hi : i < cs.length := (List.getElem?_eq_some_iff.1 hv).1
 exact ⟨vs[i], by simp [h, hi]⟩
theorem RVLp_get {g : G} {w : World} {vs : Array Value} {cs : List V} (h : cs.length ≤ vs.size) {i : Nat} {v : V} (hv : cs[i]? = some v) : ∃ c, vs[i]? = some c := by
 have hi : i < cs.length := (List.getElem?_eq_some_iff.1 hv).1
 exact ⟨vs[i], Array.getElem?_eq_getElem (by omega)⟩
theorem capIn_mono {S T : Id → Prop} (hst : ∀ id, S id → T id) : ∀ c, capIn S c → capIn T c
 | .own id, h => hst id h
 | .any, _ => trivial
 | .full, _ => trivial
mutual
theorem InV_mono {S T : Id → Prop} (hst : ∀ id, S id → T id) : ∀ v, InV S v → InV T v
 | .undef, _ => by rw [InV]; trivial
 | .bool _, _ => by rw [InV]; trivial
 | .int _ _, _ => by rw [InV]; trivial
 | .str _, _ => by rw [InV]; trivial
 | .agg cs, h => by rw [InV] at h ⊢; exact InL_mono hst cs h
 | .tup cs, h => by rw [InV] at h ⊢; exact InL_mono hst cs h
 | .sl c es, h => by rw [InV] at h ⊢; exact ⟨capIn_mono hst c h.1, InLL_mono hst es h.2⟩
 | .ptr id off, h => by rw [InV] at h ⊢; exact hst id h
 | .slb id n, h => by rw [InV] at h ⊢; exact hst id h
 | .slr id n cp, h => by rw [InV] at h ⊢; exact hst id h
 | .el cs _, h => by rw [InV] at h ⊢; exact InL_mono hst cs h
 | .nilp, _ => by rw [InV]; trivial
 | .fn f a b, h => by rw [InV] at h ⊢; exact ⟨InL_mono hst a h.1, InL_mono hst b h.2⟩
 | .nilf, _ => by rw [InV]; trivial
 | .iface t v, h => by rw [InV] at h ⊢; exact InV_mono hst v h
 | .nili, _ => by rw [InV]; trivial
theorem InL_mono {S T : Id → Prop} (hst : ∀ id, S id → T id) : ∀ l, InL S l → InL T l
 | [], _ => by rw [InL]; trivial
 | v :: vs, h => by rw [InL] at h ⊢; exact ⟨InV_mono hst v h.1, InL_mono hst vs h.2⟩
theorem InLL_mono {S T : Id → Prop} (hst : ∀ id, S id → T id) : ∀ l, InLL S l → InLL T l
 | [], _ => by rw [InLL]; trivial
 | v :: vs, h => by rw [InLL] at h ⊢; exact ⟨InL_mono hst v h.1, InLL_mono hst vs h.2⟩
end
theorem RV.inV {g : G} {w : World} {c : Value} {v : V} (h : RV g w c v) : InV (fun id => g.dom id = true) v := by
  induction h with
  | undef c => simp [InV]
  | bool b => simp [InV]
  | int k n => simp [InV]
  | str s => simp [InV]
  | agg vs cs h _ ih => rw [InV]; exact InL_of fun i v hv => by obtain ⟨c, hc⟩ := RVL_get (g := g) (w := w) h hv; exact ih i c v hc hv
  | tup vs cs h _ ih => rw [InV]; exact InL_of fun i v hv => by obtain ⟨c, hc⟩ := RVL_get (g := g) (w := w) h hv; exact ih i c v hc hv
  | sl a cap c es k cell hk hcap hrun _ hc ih =>
    rw [InV]
    refine ⟨?_, InLL_flat.2 (InL_of fun i v hv => ih i v hv)⟩
    cases c with
    | own id => exact hc.1
    | any => trivial
    | full => trivial
  | ptr id off h => rw [InV]; exact h
  | slb id n cap h h2 => rw [InV]; exact h
  | slr id n cap h h2 => rw [InV]; exact h
  | el b off cs o cell hl hrun _ ih => rw [InV]; exact InL_of fun i v hv => ih i v hv
  | nilp => simp [InV]
  | fn f fs cs fs' cs' h1 h2 _ _ ih1 ih2 =>
    rw [InV]
    exact ⟨InL_of fun i v hv => by obtain ⟨c, hc⟩ := RVL_get (g := g) (w := w) h1 hv; exact ih1 i c v hc hv,
      InL_of fun i v hv => by obtain ⟨c, hc⟩ := RVL_get (g := g) (w := w) h2 hv; exact ih2 i c v hc hv⟩
  | nilf => simp [InV]
  | iface t c v _ ih => rw [InV]; exact ih
  | nili => simp [InV]

def G.trim (g : G) (d : Id → Bool) : G := { g with dom := d }
theorem RV.trim {g : G} {w : World} {d : Id → Bool} {c : Value} {v : V} (h : RV g w c v) (hin : InV (fun id => d id = true) v) : RV (g.trim d) w c v := by
 induction h with
 | undef c => exact .undef c
 | bool b => exact .bool b
 | int k n => exact .int k n
 | str s => exact .str s
 | agg vs cs h _ ih => rw [InV] at hin; exact .agg vs cs h fun i c v hc hv => ih i c v hc hv (InL_get hin hv)
 | tup vs cs h _ ih => rw [InV] at hin; exact .tup vs cs h fun i c v hc hv => ih i c v hc hv (InL_get hin hv)
 | sl a cap c es k cell hk hcap hrun _ hc ih =>
  rw [InV] at hin
  refine .sl a cap c es k cell hk hcap hrun (fun i v hv => ih i v hv (InL_get (InLL_flat.1 hin.2) hv)) ?_
  cases c with
  | any => trivial
  | full => exact hc
  | own id => exact ⟨hin.1, hc.2⟩
 | ptr id off h => rw [InV] at hin; exact .ptr (g := g.trim d) id off hin
 | slb id n cap h h2 => rw [InV] at hin; exact .slb (g := g.trim d) id n cap hin h2
 | slr id n cap h h2 => rw [InV] at hin; exact .slr (g := g.trim d) id n cap hin h2
 | el b off cs o cell hl hrun _ ih => rw [InV] at hin; exact .el (g := g.trim d) b off cs o cell hl hrun fun i v hv => ih i v hv (InL_get hin hv)
 | nilp => exact .nilp
 | fn f fs cs fs' cs' h1 h2 _ _ ih1 ih2 =>
  rw [InV] at hin
  exact .fn f fs cs fs' cs' h1 h2 (fun i c v hc hv => ih1 i c v hc hv (InL_get hin.1 hv)) (fun i c v hc hv => ih2 i c v hc hv (InL_get hin.2 hv))
 | nilf => exact .nilf
 | iface t c v _ ih => rw [InV] at hin; exact .iface t c v (ih hin)
 | nili => exact .nili
def Agree (h k : H) : Prop := ∀ id, h id ≠ none → k id = h id
theorem Agree.refl (h : H) : Agree h h := fun _ _ => rfl
theorem Agree.new {h k : H} {id : Id} {o : Obj} (a : Agree h k) (hn : h id = none) : Agree h (hset k id o) := fun i hi => by
 have : i ≠ id := fun e => hi (by rw [e]; exact hn)
 rw [hset_other this]; exact a i hi
theorem Agree.at {h k : H} (a : Agree h k) {id : Id} {o : Obj} (e : h id = some o) : k id = some o := by rw [a id (by rw [e]; simp), e]
def ares (P : Program) (σ : St) : ResultVar → Option V
 | .tmp t => some (σ.tm t)
 | .cell t ty =>
  match tyi P ty, σ.tm t with
  | some i, .ptr id off => (match σ.h id with | some (.box cs) => partV i.agg i.size cs off | _ => none)
  | _, _ => none
def aresL (P : Program) (σ : St) : List ResultVar → Option (List V)
 | [] => some []
 | r :: rs => match ares P σ r, aresL P σ rs with
  | some v, some vs => some (v :: vs)
  | _, _ => none
def oneOr : List V → V
 | [v] => v
 | vs => .tup vs
def resOf (P : Program) (a : Act) : ResultVar → Sem Value
 | .tmp t => pure (a.tmps.getD t undef)
 | .cell x t => do loadVar t (← asAddr (a.tmps.getD x undef))
theorem run_ares {P : Program} {env : Nat → Option (List V)} {n : Nat} {g : G} {w : World} {a : Act} {σ : St} (r : RelSt env n g w a σ) :
    ∀ (rs : List ResultVar) (vs : List V), aresL P σ rs = some vs → ∃ cs : List Value, (rs.mapM (resOf P a)).run P w = .ok cs w ∧ RVL g w cs.toArray vs
  | [], vs, h => by
    simp [aresL] at h; subst h
    exact ⟨[], by simp, by simp [RVL]⟩
  | x :: rs, vs, h => by
    simp only [aresL] at h
    split at h
    case h_2 => simp at h
    rename_i v vs' h1 h2
    cases h
    obtain ⟨cs, hc, hr⟩ := run_ares r rs vs' h2
    have : ∃ cv, (resOf P a x).run P w = .ok cv w ∧ RV g w cv v := by
      cases x with
      | tmp t => simp [ares] at h1; subst h1; exact ⟨a.tmps.getD t undef, by simp [resOf], r.tm t⟩
      | cell t ty =>
        simp only [ares] at h1
        split at h1
        case h_2 => simp at h1
        rename_i i id off hi hv
        split at h1
        case h_2 => simp at h1
        rename_i cs0 hb
        have hx := r.tm t
        rw [hv] at hx
        generalize hcx : a.tmps.getD t undef = cc at hx
        cases hx
        obtain ⟨vs, ⟨ty', hb1⟩, hb2, hb3, _, _⟩ := r.rel.box id cs0 hb
        obtain ⟨cv, h3, h4⟩ := rv_partV (P := P) (g := g) (w := w) hi h1 (b := g.loc id) (base := 0) (cell := fun j => vs[j]?.getD undef)
          (by intro j hj; simp [World.cell?, hb1, show j < vs.size by omega])
          (by
            intro j v hv
            obtain ⟨c, hc1, hc2⟩ := (show RVLp g w vs cs0 from ⟨hb2, hb3⟩).at hv
            simp only [hc1, Option.getD_some]; exact hc2)
        rw [Nat.zero_add] at h3
        refine ⟨cv, ?_, h4⟩
        simp only [resOf, hcx, asAddr]
        simp [h3]
    obtain ⟨cv, h3, h4⟩ := this
    refine ⟨cv :: cs, ?_, ?_⟩
    · rw [List.mapM_cons]
      simp only [Sem.run_bind]
      rw [h3]
      simp only [Result.andThen_ok]
      rw [hc]
      simp
    · have hl := hr.1
      simp at hl
      refine ⟨by simp [hl], fun i c v' hc' hv' => ?_⟩
      cases i with
      | zero => simp at hc' hv'; subst hc'; subst hv'; exact h4
      | succ i => exact hr.2 i c v' (by simpa using hc') (by simpa using hv')

theorem run_results {P : Program} {env : Nat → Option (List V)} {n : Nat} {g : G} {w : World} {a : Act} {σ : St} (r : RelSt env n g w a σ) (fn : Func) {vs : List V}
    (h : aresL P σ fn.results.toList = some vs) : ∃ c, (results fn a.tmps).run P w = .ok c w ∧ RV g w c (oneOr vs) := by
  obtain ⟨cs, h1, h2⟩ := run_ares r _ _ h
  have hm : results fn a.tmps = (do
      let vs ← fn.results.mapM (resOf P a)
      pure (if h : vs.size = 1 then vs[0] else .tuple vs)) := rfl
  rw [hm, Array.mapM_eq_mapM_toList]
  refine ⟨if h : cs.toArray.size = 1 then cs.toArray[0] else .tuple cs.toArray, ?_, ?_⟩
  · simp only [Sem.run_bind, Sem.run_map]
    rw [h1]
    simp
  have hl := h2.1
  simp at hl
  match cs, vs, hl, h2 with
  | [c], [v], _, h2 => simp [oneOr]; exact h2.2 0 c v (by simp) (by simp)
  | [], [], _, h2 => simp [oneOr]; exact .tup _ _ h2.1 h2.2
  | c1 :: c2 :: cs, v1 :: v2 :: vs, _, h2 => simp [oneOr]; exact .tup _ _ h2.1 h2.2

theorem AR_done {c : Ctx} {gen : Nat} {σ : St} {vs : List V} (hres : aresL c.P σ c.fn.results.toList = some vs) (hv : weak (oneOr vs) = c.v) (hag : Agree c.h' σ.h)
  (hdom : ∀ id, c.h0 id ≠ none → c.h' id ≠ none) (hin : InV (fun id => c.h' id ≠ none) c.v)
  (hbox : ∀ id cs, c.h' id = some (.box cs) → c.h0 id = some (.box cs) ∨ InL (fun id => c.h' id ≠ none) cs)
  (hrel0 : Rel c.env c.g0 c.w0 c.h0) : AR c gen [] .ret σ := by
 intro _ _ g a w hx r
 obtain ⟨cv, h1, h2⟩ := run_results r c.fn hres
 refine ⟨r.defers, cv, h1, cv, g.trim (fun id => decide (c.h' id ≠ none)), rfl, ?_, ?_, ?_⟩
 ·refine ⟨hx.os, hx.tape, hx.output, hx.size, hx.lim, hx.cells, hx.wr, fun id hid => ?_, hx.top⟩
  obtain ⟨_, a2, a3⟩ := hx.dom id hid
  exact ⟨by show decide (c.h' id ≠ none) = true; simpa using hdom id ((hrel0.dom id).1 hid), a2, a3⟩
 ·have q := r.rel
  have hS : (fun id => decide (c.h' id ≠ none) = true) = fun id => c.h' id ≠ none := by funext id; simp
  refine ⟨fun id => by show decide (c.h' id ≠ none) = true ↔ _; simp, fun id hid => q.top id (by rw [hag id hid]; exact hid), ?_, ?_, ?_, ?_, ?_, q.limnew, ?_⟩
  ·intro id cs e
   obtain ⟨vs', b1, b2, b3, b4, b5⟩ := q.box id cs (hag.at e)
   refine ⟨vs', b1, b2, fun i c' v hc hv' => (b3 i c' v hc hv').trim ?_, b4, b5⟩
   rw [hS]
   rcases hbox id cs e with h0 | hI
   ·obtain ⟨vs0, _, z2, z3, _⟩ := hrel0.box id cs h0
    obtain ⟨c0, hc0⟩ := RVLp_get (g := c.g0) (w := c.w0) z2 hv'
    have := (z3 i c0 v hc0 hv').inV
    exact InV_mono (fun id hid => hdom id ((hrel0.dom id).1 hid)) v this
   ·exact InL_get hI hv'
  ·intro i1 i2 c1 c2 e1 e2 e
   exact q.inj i1 i2 c1 c2 (hag.at e1) (hag.at e2) e
  ·intro id n' k e; exact q.tok id n' k (hag.at e)
  ·intro i1 i2 n' k c' e hlt e2; exact q.apart i1 i2 n' k c' (hag.at e) hlt (hag.at e2)
  ·intro i1 i2 n1 n2 k1 k2 e hlt e2 hlt2; exact q.apart2 i1 i2 n1 n2 k1 k2 (hag.at e) hlt (hag.at e2) hlt2
  ·intro k cs e
   refine (q.glob k cs e).trim ?_
   have := (hrel0.glob k cs e).inV
   rw [hS]
   exact InV_mono (fun id hid => hdom id ((hrel0.dom id).1 hid)) _ this
 ·have := h2.weak
  rw [hv] at this
  refine this.trim ?_
  have hS : (fun id => decide (c.h' id ≠ none) = true) = fun id => c.h' id ≠ none := by funext id; simp
  rw [hS]; exact hin
def argTm (args : List V) : Nat → V := fun t => (args[t]?).getD .undef
theorem ret_of_walk {P : Program} {env : Nat → Option (List V)} {f : FuncId} {fn : Func} {body : Code} {args : List V} {h : H} {v : V} {h' : H}
    (hf : P.funcs[f]? = some fn) (hb : fn.body = some body) (hname : (fn.name == "runtime.NumGoroutine") = false) (hm : P.follows .mixedOrders = true) (hok : okCode fn.ntmps body = true)
    (walk : ∀ (g : G) (w : World) (gen : Nat), Rel env g w h → (∀ id, h id ≠ none → id.gen < gen) →
      AR ⟨P, env, fn.ntmps, fn, g, w, h, v, h'⟩ gen [.code body] .normal ⟨argTm args, h⟩) : Ret P env f args h v h' := by
  refine ⟨⟨fn, hf, by rw [hb]; rfl, hname⟩, fun g w vs hr hv => ?_⟩
  let c : Ctx := { P, env, n := fn.ntmps, fn, g0 := g, w0 := w, h0 := h, v, h' }
  have hw := walk g w g.top hr (fun id hid => hr.top id hid)
  refine calls_of_wp hf hb ?_
  have hst : RelSt env fn.ntmps g w { tmps := vs ++ Array.replicate (fn.ntmps - vs.size) undef, defers := [] } ⟨argTm args, h⟩ := by
    refine ⟨hr, fun t => ?_, by simp; omega, rfl⟩
    simp only [argTm]
    cases ha : args[t]? with
    | none => exact .undef _
    | some v =>
      obtain ⟨c0, h1, h2⟩ := hv.at ha
      have hlt : t < vs.size := (Array.getElem?_eq_some_iff.1 h1).1
      have : (vs ++ Array.replicate (fn.ntmps - vs.size) undef).getD t undef = c0 := by
        simp [Array.getElem?_append_left hlt, h1]
      rw [this]; exact h2
  have := hw (by simp [okStk, hok]) hm g _ w (Ext.refl g w) hst
  refine wp_mono this ?_
  intro e a' w' hp
  cases e <;> exact hp

inductive Ty where
 | mk (kind : Int) (args : List Ty)
def Ty.kind : Ty → Int | .mk k _ => k
def Ty.args : Ty → List Ty | .mk _ l => l
theorem Ty.ind {p : Ty → Prop} (h : ∀ t, (∀ x ∈ t.args, p x) → p t) : ∀ t, p t := by
 intro t
 refine Ty.rec (motive_1 := p) (motive_2 := fun l => ∀ x ∈ l, p x) (fun k l ih => h _ ih) (by simp) (fun a l ha hl x hx => ?_) t
 rcases List.mem_cons.1 hx with rfl | hx
 ·exact ha
 ·exact hl x hx
mutual
def Ty.cells : Ty → List V
 | .mk k l => [.int .i64 k, .sl .any (Ty.rows l)]
def Ty.rows : List Ty → List (List V)
 | [] => []
 | t :: l => t.cells :: Ty.rows l
end
theorem Ty.rows_eq : ∀ l, Ty.rows l = l.map Ty.cells
 | [] => by simp [Ty.rows]
 | t :: l => by simp [Ty.rows, Ty.rows_eq l]
theorem Ty.cells_eq (t : Ty) : t.cells = [.int .i64 t.kind, .sl .any (t.args.map Ty.cells)] := by cases t; simp [Ty.cells, Ty.rows_eq, Ty.kind, Ty.args]
theorem Ty.cells_len (t : Ty) : t.cells.length = 2 := by rw [Ty.cells_eq]; rfl
theorem Ty.cells_0 (t : Ty) : t.cells[0]? = some (.int .i64 t.kind) := by rw [Ty.cells_eq]; rfl
theorem Ty.cells_1 (t : Ty) : t.cells[1]? = some (.sl .any (t.args.map Ty.cells)) := by rw [Ty.cells_eq]; rfl
theorem Ty.cells_take (t : Ty) : List.take 2 t.cells = t.cells := List.take_of_length_le (by rw [Ty.cells_len]; exact Nat.le_refl _)
mutual
def Ty.same : Ty → Ty → Bool
 | .mk k l, .mk k' l' => k == k' && Ty.sameL l l'
def Ty.sameL : List Ty → List Ty → Bool
 | [], [] => true
 | a :: l, b :: l' => Ty.same a b && Ty.sameL l l'
 | _, _ => false
end
theorem Ty.same_eq (a b : Ty) : Ty.same a b = (a.kind == b.kind && Ty.sameL a.args b.args) := by cases a; cases b; simp [Ty.same, Ty.kind, Ty.args]
@[congr] theorem AR_congr {c : Ctx} {gen : Nat} {k : List It} {e : Exit} {σ σ' : St} (h : σ = σ') : AR c gen k e σ = AR c gen k e σ' := by rw [h]
section
variable {P : Program} {env : Nat → Option (List V)} {ops : Array Oper} {draw : Bool} {gen reg : Nat} {rest : List Oper} {i : Nat} {log : List LogE} {K : St → Prop} {σ : St}
variable {dst : Option Nat} {op : Op} {ty : Nat} {pos : String} {after : Array Edge}
theorem aops_nil : aops P env ops draw gen reg [] i log K σ = K σ := by simp [aops]
def callThen (P : Program) (env : Nat → Option (List V)) (ops : Array Oper) (draw : Bool) (gen reg : Nat) (rest : List Oper) (dst : Option Nat) (i : Nat) (log : List LogE)
  (K : St → Prop) (σ : St) (f : V) (args : List V) : Prop :=
 match f with
 | .fn (.func k) first captured => Call1 P env k (weakL (first ++ args ++ captured)) σ.h fun e =>
   (draw = true → logOk ops i e log) ∧ aops P env ops draw gen reg rest (i + 1) (addLog i e log) K (σ.put dst e)
 | _ => False
def invThen (P : Program) (env : Nat → Option (List V)) (ops : Array Oper) (draw : Bool) (gen reg : Nat) (rest : List Oper) (dst : Option Nat) (i : Nat) (log : List LogE)
    (K : St → Prop) (σ : St) (f : V) (name : String) (args : List V) : Prop :=
  match f with
  | .iface t v =>
    (match meth P t name with
    | some k => Call1 P env k (weakL (v :: args)) σ.h fun e =>
      (draw = true → logOk ops i e log) ∧ aops P env ops draw gen reg rest (i + 1) (addLog i e log) K (σ.put dst e)
    | none => False)
  | _ => False
def aop (P : Program) (env : Nat → Option (List V)) (ops : Array Oper) (draw : Bool) (gen reg : Nat) (rest : List Oper) (dst : Option Nat) (i : Nat) (log : List LogE)
  (K : St → Prop) (σ : St) (op : Op) : Prop :=
 match op with
 | .call { callee := .value x, args := args, .. } => callThen P env ops draw gen reg rest dst i log K σ (av env σ.tm x) (args.toList.map (av env σ.tm))
 | .call { callee := .invoke x name, args := args, .. } => invThen P env ops draw gen reg rest dst i log K σ (av env σ.tm x) name (args.toList.map (av env σ.tm))
 | op =>
  match prim P (av env σ.tm) σ.h ⟨gen, reg, i⟩ op with
  | some e => (draw = true → logOk ops i e log) ∧ aops P env ops draw gen reg rest (i + 1) (addLog i e log) K (σ.put dst e)
  | none => False
theorem aops_cons : aops P env ops draw gen reg ({ dst := dst, op := op, type := ty, pos := pos, after := after, guard := none } :: rest) i log K σ =
  aop P env ops draw gen reg rest dst i log K σ op := by
 simp only [aops, gwant, aop, callThen, invThen] <;> rfl
def guarded (P : Program) (env : Nat → Option (List V)) (ops : Array Oper) (draw : Bool) (gen reg : Nat) (rest : List Oper) (dst : Option Nat) (i : Nat) (log : List LogE)
  (K : St → Prop) (σ : St) (op : Op) (want : Bool) (v : V) : Prop :=
 match v with
 | .bool b => if b = want then aop P env ops draw gen reg rest dst i log K σ op else aops P env ops draw gen reg rest (i + 1) log K ⟨upd σ.tm dst (.tup []), σ.h⟩
 | .tup [] => aops P env ops draw gen reg rest (i + 1) log K ⟨upd σ.tm dst (.tup []), σ.h⟩
 | _ => False
def tmOf (tm : Nat → V) : Option Nat → V
 | some t => tm t
 | none => .undef
theorem aops_guard {j : Nat} {want : Bool} : aops P env ops draw gen reg ({ dst := dst, op := op, type := ty, pos := pos, after := after, guard := some (j, want) } :: rest) i log K σ =
  guarded P env ops draw gen reg rest dst i log K σ op want (tmOf σ.tm ((ops[j]?).bind (·.dst))) := by
 simp only [aops, gwant, guarded, aop, callThen, invThen]
 cases (ops[j]?).bind (·.dst) with
 | none => simp [tmOf]
 | some t =>
  simp only [tmOf]
  cases σ.tm t with
  | bool b =>
   simp only
   cases b <;> cases want <;> rfl
  | tup l => cases l <;> rfl
  | _ => rfl
end
section
variable {P : Program} {env : Nat → Option (List V)} {ops : Array Oper} {draw : Bool} {gen reg : Nat} {rest : List Oper} {dst : Option Nat} {i : Nat} {log : List LogE} {K : St → Prop} {σ : St} {op : Op}
theorem guarded_tt : guarded P env ops draw gen reg rest dst i log K σ op true (.bool true) = aop P env ops draw gen reg rest dst i log K σ op := by simp [guarded]
theorem guarded_ff : guarded P env ops draw gen reg rest dst i log K σ op false (.bool false) = aop P env ops draw gen reg rest dst i log K σ op := by simp [guarded]
theorem guarded_tf : guarded P env ops draw gen reg rest dst i log K σ op true (.bool false) = aops P env ops draw gen reg rest (i + 1) log K ⟨upd σ.tm dst (.tup []), σ.h⟩ := by simp [guarded]
theorem guarded_ft : guarded P env ops draw gen reg rest dst i log K σ op false (.bool true) = aops P env ops draw gen reg rest (i + 1) log K ⟨upd σ.tm dst (.tup []), σ.h⟩ := by simp [guarded]
theorem guarded_un {want : Bool} : guarded P env ops draw gen reg rest dst i log K σ op want (.tup []) = aops P env ops draw gen reg rest (i + 1) log K ⟨upd σ.tm dst (.tup []), σ.h⟩ := by simp [guarded]
theorem guarded_split {want b : Bool} (h1 : b = want → guarded P env ops draw gen reg rest dst i log K σ op want (.bool want))
  (h2 : b = !want → guarded P env ops draw gen reg rest dst i log K σ op want (.bool (!want))) : guarded P env ops draw gen reg rest dst i log K σ op want (.bool b) := by
 cases b <;> cases want
 ·exact h1 rfl
 ·exact h2 rfl
 ·exact h2 rfl
 ·exact h1 rfl
end
section
variable {P : Program} {env : Nat → Option (List V)} {ops : Array Oper} {draw : Bool} {gen reg : Nat} {rest : List Oper} {i : Nat} {log : List LogE} {K : St → Prop} {σ : St} {dst : Option Nat}
def ok1 (P : Program) (env : Nat → Option (List V)) (ops : Array Oper) (draw : Bool) (gen reg : Nat) (rest : List Oper) (dst : Option Nat) (i : Nat) (log : List LogE)
  (K : St → Prop) (σ : St) : Option V → Prop
 | some v => aops P env ops draw gen reg rest (i + 1) log K ⟨upd σ.tm dst v, σ.h⟩
 | none => False
theorem ok1_some {v : V} : ok1 P env ops draw gen reg rest dst i log K σ (some v) = aops P env ops draw gen reg rest (i + 1) log K ⟨upd σ.tm dst v, σ.h⟩ := rfl
theorem ok_of {op : Op} {r : Option V} (hp : prim P (av env σ.tm) σ.h ⟨gen, reg, i⟩ op = r.map fun v => ⟨v, [], []⟩) :
    (match prim P (av env σ.tm) σ.h ⟨gen, reg, i⟩ op with
    | some e => (draw = true → logOk ops i e log) ∧ aops P env ops draw gen reg rest (i + 1) (addLog i e log) K (σ.put dst e)
    | none => False) = ok1 P env ops draw gen reg rest dst i log K σ r := by
  rw [hp]
  cases r with
  | none => rfl
  | some v =>
    simp only [Option.map_some, ok1, addLog, St.put, happly, eq_iff_iff]
    have : logOk ops i ⟨v, [], []⟩ log := by
      induction log with
      | nil => trivial
      | cons x l ih => obtain ⟨a, b, c⟩ := x; exact ⟨.inl ⟨by simp, by simp⟩, ih⟩
    exact ⟨fun h => h.2, fun h => ⟨fun _ => this, h⟩⟩

theorem prim_V {op : Op} {ρ : Operand → V} {h : H} {nid : Id} (hn : primH P ρ h nid op = none) : prim P ρ h nid op = (primV P ρ op).map fun v => ⟨v, [], []⟩ := by
 unfold prim
 cases primV P ρ op <;> simp [hn]
theorem aop_move {x : Operand} : aop P env ops draw gen reg rest dst i log K σ (.move x) = aops P env ops draw gen reg rest (i + 1) log K ⟨upd σ.tm dst (av env σ.tm x), σ.h⟩ := by
 simp only [aop]; exact ok_of (op := .move x) (r := some (av env σ.tm x)) rfl
theorem aop_assign {x : Operand} : aop P env ops draw gen reg rest dst i log K σ (.assign x) = aops P env ops draw gen reg rest (i + 1) log K ⟨upd σ.tm dst (av env σ.tm x), σ.h⟩ := by
 simp only [aop]; exact ok_of (op := .assign x) (r := some (av env σ.tm x)) rfl
def pickV (c a b : V) : Option V := match c with | .bool t => some (if t then a else b) | _ => none
theorem aop_pick {c a b : Operand} : aop P env ops draw gen reg rest dst i log K σ (.pick c a b) = ok1 P env ops draw gen reg rest dst i log K σ (pickV (av env σ.tm c) (av env σ.tm a) (av env σ.tm b)) := by
 simp only [aop]; exact ok_of (prim_V rfl)
def buildV (T : Option TyI) (parts : List (Nat × V)) : Option V :=
 match T with
 | some i => if i.kind = 3 ∧ i.fok = true then (fillV (i.fields.map fun f => (f.1, f.2.1)) i.zero parts).map .agg
       else if i.kind = 5 ∧ i.esize ≠ 0 then (fillV ((List.range i.alen).map fun j => (j * i.esize, i.esize)) i.zero parts).map .agg else none
 | none => none
theorem aop_build {t : TypeId} {ps : Array (Nat × Operand)} : aop P env ops draw gen reg rest dst i log K σ (.build t ps) =
  ok1 P env ops draw gen reg rest dst i log K σ (buildV (tyi P t) (ps.toList.map fun p => (p.1, av env σ.tm p.2))) := by
 simp only [aop]; exact ok_of (prim_V rfl)
def nilV (v : V) : Option V := match v with | .ptr id off => some (.ptr id off) | .el cs off => some (.el cs off) | _ => none
theorem aop_nilCheck {x : Operand} : aop P env ops draw gen reg rest dst i log K σ (.nilCheck x) = ok1 P env ops draw gen reg rest dst i log K σ (nilV (av env σ.tm x)) := by
 simp only [aop]; exact ok_of (prim_V rfl)
theorem aop_binOp {op : BinOp} {t yt : TypeId} {x y : Operand} : aop P env ops draw gen reg rest dst i log K σ (.binOp op t x y yt) =
  ok1 P env ops draw gen reg rest dst i log K σ (binV (tyi P t) op (av env σ.tm x) (av env σ.tm y)) := by
 simp only [aop]; exact ok_of (prim_V rfl)
def unV (op : UnOp) (x : V) : Option V := match op, x with | .not, .bool b => some (.bool !b) | .neg, .int k n => some (.int k (k.wrap (0 - n))) | _, _ => none
theorem aop_unOp {op : UnOp} {t : TypeId} {x : Operand} : aop P env ops draw gen reg rest dst i log K σ (.unOp op t x) = ok1 P env ops draw gen reg rest dst i log K σ (unV op (av env σ.tm x)) := by
 simp only [aop]; exact ok_of (prim_V rfl)
def convV (S D : Option TyI) (x : V) : Option V := match S, D, x with | some _, some i, .int _ n => i.ik.map fun k => .int k (k.wrap n) | _, _, _ => none
theorem aop_convert {s d : TypeId} {x : Operand} : aop P env ops draw gen reg rest dst i log K σ (.convert s d x) =
  ok1 P env ops draw gen reg rest dst i log K σ (convV (tyi P s) (tyi P d) (av env σ.tm x)) := by
 simp only [aop]; exact ok_of (prim_V rfl)
def faddrV (T : Option TyI) (f : Nat) (x : V) : Option V :=
 match T with
 | some i => (match i.fields[f]? with | some (off, size, _) => if size = 0 then none else addOff x off | none => none)
 | none => none
theorem aop_fieldAddr {s : TypeId} {x : Operand} {f : Nat} : aop P env ops draw gen reg rest dst i log K σ (.fieldAddr s x f) =
  ok1 P env ops draw gen reg rest dst i log K σ (faddrV (tyi P s) f (av env σ.tm x)) := by
 simp only [aop]; exact ok_of (prim_V rfl)
def fieldV (T : Option TyI) (f : Nat) (x : V) : Option V :=
 match T, x with
 | some i, .agg cs => (match i.fields[f]? with | some (off, size, a) => partV a size cs off | none => none)
 | _, _ => none
theorem aop_field {s : TypeId} {x : Operand} {f : Nat} : aop P env ops draw gen reg rest dst i log K σ (.field s x f) =
  ok1 P env ops draw gen reg rest dst i log K σ (fieldV (tyi P s) f (av env σ.tm x)) := by
 simp only [aop]; exact ok_of (prim_V rfl)
def iaddrV (T : Option TyI) (x ix : V) : Option V :=
  match T, ix with
  | some i, .int _ n =>
    if i.kind = 4 then
      (match x with
      | .sl _ es => if 0 ≤ n then (match es[n.toNat]? with | some e => if e.length = i.esize ∧ i.esize ≠ 0 then some (.el e 0) else none | none => none) else none
      | .slb id m => if 0 ≤ n ∧ n.toNat < m ∧ i.esize ≠ 0 then some (.ptr id (n.toNat * i.esize)) else none
      | _ => none)
    else if i.kind = 5 ∧ 0 ≤ n ∧ n < i.alen ∧ i.esize ≠ 0 then addOff x (n.toNat * i.esize) else none
  | _, _ => none
theorem aop_indexAddr {t : TypeId} {x ix : Operand} : aop P env ops draw gen reg rest dst i log K σ (.indexAddr t x ix) =
  ok1 P env ops draw gen reg rest dst i log K σ (iaddrV (tyi P t) (av env σ.tm x) (av env σ.tm ix)) := by
 simp only [aop]; exact ok_of (prim_V rfl)
def indexV (T : Option TyI) (x ix : V) : Option V :=
 match T, x, ix with
 | some i, .agg cs, .int _ n => if i.kind = 5 ∧ 0 ≤ n ∧ n < i.alen then partV i.eagg i.esize cs (n.toNat * i.esize) else none
 | _, _, _ => none
theorem aop_index {t : TypeId} {x ix : Operand} : aop P env ops draw gen reg rest dst i log K σ (.index t x ix) =
  ok1 P env ops draw gen reg rest dst i log K σ (indexV (tyi P t) (av env σ.tm x) (av env σ.tm ix)) := by
 simp only [aop]; exact ok_of (prim_V rfl)
def extV (x : V) (j : Nat) : Option V := match x with | .tup vs => vs[j]? | _ => none
theorem aop_extract {x : Operand} {j : Nat} : aop P env ops draw gen reg rest dst i log K σ (.extract x j) = ok1 P env ops draw gen reg rest dst i log K σ (extV (av env σ.tm x) j) := by
 simp only [aop]; exact ok_of (prim_V rfl)
def cutV (T : Option TyI) (x : V) (lo hi mx : Option V) : Option V :=
 match T, x with
 | some i, .sl c es => if i.kind = 4 ∧ i.esize ≠ 0 ∧ (lo.isNone = true ∨ es.all (fun e => e.length == i.esize) = true) then sliceV c es lo hi mx else none
 | _, _ => none
theorem aop_slice {t : TypeId} {x : Operand} {lo hi mx : Option Operand} : aop P env ops draw gen reg rest dst i log K σ (.slice t x lo hi mx) =
  ok1 P env ops draw gen reg rest dst i log K σ (cutV (tyi P t) (av env σ.tm x) (lo.map (av env σ.tm)) (hi.map (av env σ.tm)) (mx.map (av env σ.tm))) := by
 simp only [aop]
 refine ok_of ((prim_V rfl).trans ?_)
 simp only [primV, cutV]
 cases lo <;> rfl
theorem aop_makeFunc {f : Fn} {a b : Array Operand} : aop P env ops draw gen reg rest dst i log K σ (.makeFunc f a b) =
  aops P env ops draw gen reg rest (i + 1) log K ⟨upd σ.tm dst (.fn f (a.toList.map (av env σ.tm)) (b.toList.map (av env σ.tm))), σ.h⟩ := by
 simp only [aop]; exact ok_of (op := .makeFunc f a b) (r := some (.fn f (a.toList.map (av env σ.tm)) (b.toList.map (av env σ.tm)))) rfl
def len1 (T : Option TyI) (x : V) : Option V := match T, lenV x with | some i, some n => if i.kind = 4 then some (.int .i64 n) else none | _, _ => none
theorem aop_len {x : Operand} {t : TypeId} : aop P env ops draw gen reg rest dst i log K σ (.call { callee := .builtin .len, args := #[x], argTypes := #[t] }) =
  ok1 P env ops draw gen reg rest dst i log K σ (len1 (tyi P t) (av env σ.tm x)) := by
 simp only [aop]; exact ok_of (prim_V rfl)
def max1 (x y : V) : Option V := match x, y with | .int k a, .int k' b => if k = k' then some (.int k (if b > a then b else a)) else none | _, _ => none
theorem aop_max {x y : Operand} {ts : Array TypeId} : aop P env ops draw gen reg rest dst i log K σ (.call { callee := .builtin .max, args := #[x, y], argTypes := ts }) =
  ok1 P env ops draw gen reg rest dst i log K σ (max1 (av env σ.tm x) (av env σ.tm y)) := by
 simp only [aop]
 refine ok_of ((prim_V rfl).trans ?_)
 simp only [primV, max1, List.map_cons, List.map_nil]
 cases av env σ.tm x <;> cases av env σ.tm y <;> rfl
def min1 (x y : V) : Option V := match x, y with | .int k a, .int k' b => if k = k' then some (.int k (if b < a then b else a)) else none | _, _ => none
theorem aop_min {x y : Operand} {ts : Array TypeId} : aop P env ops draw gen reg rest dst i log K σ (.call { callee := .builtin .min, args := #[x, y], argTypes := ts }) =
  ok1 P env ops draw gen reg rest dst i log K σ (min1 (av env σ.tm x) (av env σ.tm y)) := by
 simp only [aop]
 refine ok_of ((prim_V rfl).trans ?_)
 simp only [primV, min1, List.map_cons, List.map_nil]
 cases av env σ.tm x <;> cases av env σ.tm y <;> rfl
theorem aop_call {x : Operand} {args : Array Operand} {ts : Array TypeId} : aop P env ops draw gen reg rest dst i log K σ (.call { callee := .value x, args := args, argTypes := ts }) =
  callThen P env ops draw gen reg rest dst i log K σ (av env σ.tm x) (args.toList.map (av env σ.tm)) := rfl
theorem aop_invoke {x : Operand} {name : String} {args : Array Operand} {ts : Array TypeId} : aop P env ops draw gen reg rest dst i log K σ (.call { callee := .invoke x name, args := args, argTypes := ts }) =
  invThen P env ops draw gen reg rest dst i log K σ (av env σ.tm x) name (args.toList.map (av env σ.tm)) := rfl
theorem callThen_fn {k : FuncId} {first captured args : List V} : callThen P env ops draw gen reg rest dst i log K σ (.fn (.func k) first captured) args =
  Call1 P env k (weakL (first ++ args ++ captured)) σ.h fun e =>
   (draw = true → logOk ops i e log) ∧ aops P env ops draw gen reg rest (i + 1) (addLog i e log) K (σ.put dst e) := rfl
def okE (P : Program) (env : Nat → Option (List V)) (ops : Array Oper) (draw : Bool) (gen reg : Nat) (rest : List Oper) (dst : Option Nat) (i : Nat) (log : List LogE)
  (K : St → Prop) (σ : St) : Option Eff → Prop
 | some e => (draw = true → logOk ops i e log) ∧ aops P env ops draw gen reg rest (i + 1) (addLog i e log) K (σ.put dst e)
 | none => False
theorem okE_of {op : Op} (hv : primV P (av env σ.tm) op = none) :
    (match prim P (av env σ.tm) σ.h ⟨gen, reg, i⟩ op with
    | some e => (draw = true → logOk ops i e log) ∧ aops P env ops draw gen reg rest (i + 1) (addLog i e log) K (σ.put dst e)
    | none => False) = okE P env ops draw gen reg rest dst i log K σ (primH P (av env σ.tm) σ.h ⟨gen, reg, i⟩ op) := by
  unfold prim; rw [hv]; rfl

def allocE (T : Option TyI) (there : Option Obj) (nid : Id) : Option Eff :=
 match T, there with
 | some i, none => some ⟨.ptr nid 0, [nid], [(nid, .box i.zero)]⟩
 | _, _ => none
theorem aop_alloc {t : TypeId} : aop P env ops draw gen reg rest dst i log K σ (.alloc t) =
  okE P env ops draw gen reg rest dst i log K σ (allocE (tyi P t) (σ.h ⟨gen, reg, i⟩) ⟨gen, reg, i⟩) := by
 simp only [aop]; exact okE_of rfl
def boxE (cs : Option (List V)) (there : Option Obj) (nid : Id) : Option Eff :=
 match cs, there with
 | some cs, none => some ⟨.ptr nid 0, [nid], [(nid, .box cs)]⟩
 | _, _ => none
def boxK (T : Option TyI) (A B : Prop) : Prop := match T with | some i => if i.frz = true then A else B | none => B
theorem boxK_t {a b : Nat} {c : Bool} {d : List V} {e : List (Nat × Nat × Bool)} {f : Bool} {g k l m : Nat} {n : Bool} {p : List V} {q : Option IntKind} {A B : Prop} : boxK (some ⟨a, b, c, d, e, f, g, k, l, m, n, p, q, true⟩) A B = A := rfl
theorem boxK_f {a b : Nat} {c : Bool} {d : List V} {e : List (Nat × Nat × Bool)} {f : Bool} {g k l m : Nat} {n : Bool} {p : List V} {q : Option IntKind} {A B : Prop} : boxK (some ⟨a, b, c, d, e, f, g, k, l, m, n, p, q, false⟩) A B = B := rfl
def elV (cs : Option (List V)) : Option V := cs.map fun cs => .el cs 0
theorem elV_some {cs : List V} : elV (some cs) = some (.el cs 0) := rfl
theorem aop_box {t : TypeId} {x : Operand} : aop P env ops draw gen reg rest dst i log K σ (.box t x) =
  boxK (tyi P t) (ok1 P env ops draw gen reg rest dst i log K σ (elV (cellsOf (av env σ.tm x))))
   (okE P env ops draw gen reg rest dst i log K σ (boxE (cellsOf (av env σ.tm x)) (σ.h ⟨gen, reg, i⟩) ⟨gen, reg, i⟩)) := by
 have hb : ∀ (hz : ¬ (tyi P t).any (·.frz) = true), aop P env ops draw gen reg rest dst i log K σ (.box t x) = okE P env ops draw gen reg rest dst i log K σ (boxE (cellsOf (av env σ.tm x)) (σ.h ⟨gen, reg, i⟩) ⟨gen, reg, i⟩) := by
  intro hz
  have : primH P (av env σ.tm) σ.h ⟨gen, reg, i⟩ (.box t x) = boxE (cellsOf (av env σ.tm x)) (σ.h ⟨gen, reg, i⟩) ⟨gen, reg, i⟩ := by
   simp only [primH]; rw [if_neg hz]; rfl
  rw [← this]
  simp only [aop]; exact okE_of rfl
 have hf : ∀ (hz : (tyi P t).any (·.frz) = true), aop P env ops draw gen reg rest dst i log K σ (.box t x) = ok1 P env ops draw gen reg rest dst i log K σ (elV (cellsOf (av env σ.tm x))) := by
  intro hz
  simp only [aop]
  refine ok_of ?_
  simp only [prim, primV, primH]
  rw [if_pos hz]
  cases cellsOf (av env σ.tm x) <;> rfl
 unfold boxK
 split
 ·rename_i j hj
  split
  ·rename_i h; exact hf (by rw [hj]; exact h)
  ·rename_i h; exact hb (by rw [hj]; exact h)
 ·rename_i hj; exact hb (by rw [hj]; simp)
def assertV (T : Option TyI) (t : TypeId) (ok : Bool) (x : V) : Option V :=
 match T, x with
 | some i, .iface t' v => if i.kind = 8 then none else if t' = t then some (if ok then .tup [v, .bool true] else v) else if ok then some (.tup [.undef, .bool false]) else none
 | _, _ => none
theorem aop_typeAssert {t0 t : TypeId} {x : Operand} {ok : Bool} : aop P env ops draw gen reg rest dst i log K σ (.typeAssert x t0 t ok) =
  ok1 P env ops draw gen reg rest dst i log K σ (assertV (tyi P t) t ok (av env σ.tm x)) := by
 simp only [aop]; exact ok_of (prim_V rfl)
def rowsV (T : Option TyI) (len : Nat) (parts : List (Nat × V)) : Option V :=
 match T with
 | some i =>
  if i.kind = 4 ∧ i.esize ≠ 0 ∧ i.ezero.length = i.esize ∧ len * i.esize ≤ 16777216 then (setRows i.esize (List.replicate len i.ezero) parts).map fun es => .sl .full es else none
 | none => none
theorem aop_buildSlice {t : TypeId} {len : Nat} {ps : Array (Nat × Operand)} : aop P env ops draw gen reg rest dst i log K σ (.buildSlice t len ps) =
  ok1 P env ops draw gen reg rest dst i log K σ (rowsV (tyi P t) len (ps.toList.map fun p => (p.1, av env σ.tm p.2))) := by
 simp only [aop]
 refine ok_of ?_
 simp only [prim, primV, primH, rowsV]
 cases tyi P t with
 | none => rfl
 | some i =>
  simp only
  split
  ·cases setRows i.esize (List.replicate len i.ezero) (ps.toList.map fun p => (p.1, av env σ.tm p.2)) <;> rfl
  ·rfl
def loadAt1 (P : Program) (env : Nat → Option (List V)) (ops : Array Oper) (draw : Bool) (gen reg : Nat) (rest : List Oper) (dst : Option Nat) (i : Nat) (log : List LogE)
    (K : St → Prop) (σ : St) (T : Option TyI) (a : V) : Prop :=
  match T, a with
  | some t, .ptr id off =>
    (match σ.h id with
    | some (.box cs) => okE P env ops draw gen reg rest dst i log K σ ((partV t.agg t.size cs off).map fun v => ⟨v, [id], []⟩)
    | _ => False)
  | some t, .el cs off => ok1 P env ops draw gen reg rest dst i log K σ (partV t.agg t.size cs off)
  | _, _ => False
theorem aop_load {t : TypeId} {x : Operand} : aop P env ops draw gen reg rest dst i log K σ (.load t x) =
  loadAt1 P env ops draw gen reg rest dst i log K σ (tyi P t) (av env σ.tm x) := by
 simp only [aop]
 cases hx : av env σ.tm x <;> cases hT : tyi P t
 case el.some cs off T =>
  refine ok_of (r := partV T.agg T.size cs off) ?_
  simp only [prim, primV, primH, hx, hT]
 case ptr.some id off T =>
  refine (okE_of rfl).trans ?_
  simp only [primH, hx, hT, loadAt1]
  cases σ.h id with
  | none => rfl
  | some o => cases o <;> rfl
 all_goals
  refine (okE_of rfl).trans ?_
  simp only [primH, hx, hT, loadAt1]
  rfl
def storeE (T : Option TyI) (a : V) (xs : Option (List V)) (h : H) : Option Eff :=
  match T, a, xs with
  | some i, .ptr id off, some xs =>
    (match h id with
    | some (.box cs) => if xs.length = i.size ∧ off + xs.length ≤ cs.length ∧ xs.all oneV = true then some ⟨.undef, [id], [(id, .box (splice cs off xs))]⟩ else none
    | _ => none)
  | _, _, _ => none
theorem aop_store {t : TypeId} {x y : Operand} : aop P env ops draw gen reg rest dst i log K σ (.store t x y) =
  okE P env ops draw gen reg rest dst i log K σ (storeE (tyi P t) (av env σ.tm x) (cellsOf (av env σ.tm y)) σ.h) := by
 simp only [aop]; exact okE_of rfl
def appE (T U : Option TyI) (s x : V) (h : H) (nid : Id) : Option Eff :=
  match s, x, T, U with
  | .sl c es, .sl _ xs, some i, some j =>
    if i.kind = 4 ∧ j.kind = 4 ∧ i.esize ≠ 0 ∧ i.ezero.length = i.esize ∧ es.all (fun e => e.length == i.esize) = true ∧ xs.all (fun e => e.length == i.esize) = true ∧
        xs.flatten.all oneV = true ∧ (es.length + xs.length) * i.ebytes ≤ 140737488355328 ∧ es.length + xs.length ≤ 140737488355328 then
      (match c with
      | .own id => (match h id with | some (.tok n k) => if n = es.length ∧ k = i.esize then some ⟨.sl (.own id) (es ++ xs), [id], [(id, .tok (es.length + xs.length) i.esize)]⟩ else none | _ => none)
      | .full => (match h nid with | none => some ⟨.sl (.own nid) (es ++ xs), [nid], [(nid, .tok (es.length + xs.length) i.esize)]⟩ | some _ => none)
      | .any => none)
    else none
  | _, _, _, _ => none
theorem appE_full {i j : TyI} {es xs : List (List V)} {cx : Cap} {h : H} {nid : Id} : appE (some i) (some j) (.sl .full es) (.sl cx xs) h nid =
  if i.kind = 4 ∧ j.kind = 4 ∧ i.esize ≠ 0 ∧ i.ezero.length = i.esize ∧ es.all (fun e => e.length == i.esize) = true ∧ xs.all (fun e => e.length == i.esize) = true ∧
    xs.flatten.all oneV = true ∧ (es.length + xs.length) * i.ebytes ≤ 140737488355328 ∧ es.length + xs.length ≤ 140737488355328 then
   (match h nid with | none => some ⟨.sl (.own nid) (es ++ xs), [nid], [(nid, .tok (es.length + xs.length) i.esize)]⟩ | some _ => none)
  else none := rfl
theorem appE_own {i j : TyI} {es xs : List (List V)} {id : Id} {cx : Cap} {h : H} {nid : Id} : appE (some i) (some j) (.sl (.own id) es) (.sl cx xs) h nid =
  if i.kind = 4 ∧ j.kind = 4 ∧ i.esize ≠ 0 ∧ i.ezero.length = i.esize ∧ es.all (fun e => e.length == i.esize) = true ∧ xs.all (fun e => e.length == i.esize) = true ∧
    xs.flatten.all oneV = true ∧ (es.length + xs.length) * i.ebytes ≤ 140737488355328 ∧ es.length + xs.length ≤ 140737488355328 then
   (match h id with | some (.tok n k) => if n = es.length ∧ k = i.esize then some ⟨.sl (.own id) (es ++ xs), [id], [(id, .tok (es.length + xs.length) i.esize)]⟩ else none | _ => none)
  else none := rfl
theorem aop_append {x y : Operand} {t u : TypeId} : aop P env ops draw gen reg rest dst i log K σ (.call { callee := .builtin .append, args := #[x, y], argTypes := #[t, u] }) =
  okE P env ops draw gen reg rest dst i log K σ (appE (tyi P t) (tyi P u) (av env σ.tm x) (av env σ.tm y) σ.h ⟨gen, reg, i⟩) := by
 simp only [aop]
 refine (okE_of rfl).trans ?_
 congr 1
 simp only [primH, List.map_cons, List.map_nil, appE]
 cases av env σ.tm x <;> cases av env σ.tm y <;> cases tyi P t <;> cases tyi P u <;> rfl
theorem okE_some {e : Eff} : okE P env ops draw gen reg rest dst i log K σ (some e) =
  ((draw = true → logOk ops i e log) ∧ aops P env ops draw gen reg rest (i + 1) (addLog i e log) K (σ.put dst e)) := rfl
end
theorem AR_cond_t {c : Ctx} {gen : Nat} {k : List It} {σ : St} {x y : Code} {t : Operand} (ht : av c.env σ.tm t = .bool true) (h : AR c gen (.code x :: k) .normal σ) :
  AR c gen (.code (.cond t x y) :: k) .normal σ := AR_cond ht (fun _ => h) (fun e => by cases e)
theorem AR_cond_f {c : Ctx} {gen : Nat} {k : List It} {σ : St} {x y : Code} {t : Operand} (ht : av c.env σ.tm t = .bool false) (h : AR c gen (.code y :: k) .normal σ) :
  AR c gen (.code (.cond t x y) :: k) .normal σ := AR_cond ht (fun e => by cases e) (fun _ => h)
theorem Call1_pure {P : Program} {env : Nat → Option (List V)} {k : FuncId} {args : List V} {h : H} {R : Eff → Prop} {v : V} (hp : Pure P env k args v) (hr : R ⟨v, [], []⟩) :
  Call1 P env k args h R := ⟨⟨v, [], []⟩, by simp, fun h2 _ => hp h2, hr⟩
theorem AR_end {P : Program} {env : Nat → Option (List V)} {n : Nat} {fn : Func} {g0 : G} {w0 : World} {h0 : H} {v : V} {gen : Nat} {σ : St} {k : List It} {vs : List V}
  (hrel : Rel env g0 w0 h0) (hres : aresL P σ fn.results.toList = some vs) (hv : weak (oneOr vs) = v) (hin : InV (fun id => h0 id ≠ none) v) (hag : Agree h0 σ.h) :
  AR ⟨P, env, n, fn, g0, w0, h0, v, h0⟩ gen k .ret σ :=
 AR_to_ret (AR_done hres hv hag (fun _ h => h) hin (fun _ _ h => .inl h) hrel)
theorem upd_at {tm : Nat → V} {d t : Nat} {v : V} : upd tm (some d) v t = if t = d then v else tm t := rfl
theorem upd_none {tm : Nat → V} {v : V} : upd tm none v = tm := rfl
theorem hset_at {h : H} {i j : Id} {o : Obj} : hset h i o j = if j = i then some o else h j := rfl
theorem put_eq {σ : St} {d : Option Nat} {e : Eff} : σ.put d e = ⟨upd σ.tm d e.v, happly σ.h e.writes⟩ := rfl
theorem happly_nil {h : H} : happly h [] = h := rfl
theorem happly_one {h : H} {p : Id × Obj} : happly h [p] = hset h p.1 p.2 := rfl
theorem argTm_at {l : List V} {t : Nat} : argTm l t = (l[t]?).getD .undef := rfl
theorem addLog_nil {i : Nat} {v : V} {ws : List (Id × Obj)} {log : List LogE} : addLog i ⟨v, [], ws⟩ log = log := rfl
theorem addLog_cons {i : Nat} {v : V} {r : Id} {rs : List Id} {ws : List (Id × Obj)} {log : List LogE} : addLog i ⟨v, r :: rs, ws⟩ log = (i, r :: rs, ws.map (·.1)) :: log := rfl
section
variable {P : Program} {env : Nat → Option (List V)} {ops : Array Oper} {draw : Bool} {gen reg : Nat} {rest : List Oper} {i : Nat} {log : List LogE} {K : St → Prop} {σ σ' : St} {dst : Option Nat}
@[congr] theorem aops_congr (h : σ = σ') : aops P env ops draw gen reg rest i log K σ = aops P env ops draw gen reg rest i log K σ' := by rw [h]
@[congr] theorem aop_congr {op : Op} (h : σ = σ') : aop P env ops draw gen reg rest dst i log K σ op = aop P env ops draw gen reg rest dst i log K σ' op := by rw [h]
@[congr] theorem ok1_congr {r r' : Option V} (h : σ = σ') (hr : r = r') : ok1 P env ops draw gen reg rest dst i log K σ r = ok1 P env ops draw gen reg rest dst i log K σ' r' := by rw [h, hr]
@[congr] theorem okE_congr {r r' : Option Eff} (h : σ = σ') (hr : r = r') : okE P env ops draw gen reg rest dst i log K σ r = okE P env ops draw gen reg rest dst i log K σ' r' := by rw [h, hr]
@[congr] theorem appE_congr {T U : Option TyI} {s s' x x' : V} {h h' : H} {nid : Id} (hs : s = s') (hx : x = x') (hh : h = h') : appE T U s x h nid = appE T U s' x' h' nid := by rw [hs, hx, hh]
@[congr] theorem loadAt1_congr {T T' : Option TyI} {a a' : V} (h : σ = σ') (hT : T = T') (ha : a = a') : loadAt1 P env ops draw gen reg rest dst i log K σ T a = loadAt1 P env ops draw gen reg rest dst i log K σ' T' a' := by rw [h, hT, ha]
@[congr] theorem callThen_congr {f f' : V} {l l' : List V} (h : σ = σ') (hf : f = f') (hl : l = l') : callThen P env ops draw gen reg rest dst i log K σ f l = callThen P env ops draw gen reg rest dst i log K σ' f' l' := by rw [h, hf, hl]
@[congr] theorem guarded_congr {op : Op} {want : Bool} {v v' : V} (h : σ = σ') (hv : v = v') : guarded P env ops draw gen reg rest dst i log K σ op want v = guarded P env ops draw gen reg rest dst i log K σ' op want v' := by rw [h, hv]
theorem logOk_nil {e : Eff} : logOk ops i e [] = True := rfl
theorem logOk_cons {e : Eff} {x : LogE} {l : List LogE} : logOk ops i e (x :: l) = ((((∀ p ∈ e.writes, p.1 ∉ x.2.1) ∧ ∀ id ∈ x.2.2, id ∉ e.reads) ∨ ordB ops x.1 i = true) ∧ logOk ops i e l) := by
 obtain ⟨a, b, c⟩ := x; rfl
end
theorem splice_nil {cs : List V} {off : Nat} : splice cs off [] = cs := rfl
theorem splice_lit {c v : V} {cs vs : List V} {off : Nat} : splice (c :: cs) off (v :: vs) = splice ((c :: cs).set off v) (off + 1) vs := rfl
attribute [go_sem] Bool.false_eq_true false_implies implies_true forall_const true_and and_true and_self List.getElem?_cons_zero List.getElem?_cons_succ Option.getD_some Option.map_some
 List.map_cons List.map_nil List.length_cons List.length_nil Id.mk.injEq logOk_nil logOk_cons Option.bind_some List.getElem?_toArray List.cons_append List.nil_append List.append_nil
 ne_eq not_false_eq_true not_true_eq_false false_and and_false false_or or_false true_or or_true if_true if_false List.not_mem_nil List.mem_cons forall_eq forall_eq_or_imp
 V.int.injEq V.bool.injEq Option.some.injEq List.take_succ_cons List.take_zero List.drop_succ_cons List.drop_zero List.set_cons_zero List.set_cons_succ List.all_cons List.all_nil List.replicate_succ List.replicate_zero Bool.and_true Bool.true_and Bool.not_true Bool.not_false
theorem weakL_Ty : ∀ t : Ty, weakL t.cells = t.cells := by
 intro t
 induction t using Ty.ind with
 | h t ih =>
  rw [Ty.cells_eq]
  simp only [weakL, weak, List.cons.injEq, V.sl.injEq, and_true, true_and]
  rw [weakLL_eq, List.map_map]
  exact List.map_congr_left fun x hx => ih x hx
theorem weakLL_Ty (l : List Ty) : weakLL (l.map Ty.cells) = l.map Ty.cells := by
 rw [weakLL_eq, List.map_map]; exact List.map_congr_left fun x _ => weakL_Ty x
theorem InL_Ty {S : Id → Prop} : ∀ t : Ty, InL S t.cells := by
 intro t
 induction t using Ty.ind with
 | h t ih =>
  rw [Ty.cells_eq]
  simp only [InL, InV, capIn, true_and, and_true]
  rw [InLL_mem]
  intro l hl
  obtain ⟨x, hx, rfl⟩ := List.mem_map.1 hl
  exact ih x hx
attribute [go_sem] weak weakL weakLL weakL_Ty weakLL_Ty oneOr aresL ares Ty.cells_0 Ty.cells_1 Ty.cells_len Ty.cells_take
attribute [go_sem] aops_nil aops_cons aops_guard guarded_tt guarded_ff guarded_tf guarded_ft guarded_un tmOf aop_move aop_assign aop_pick pickV aop_build buildV aop_nilCheck nilV aop_binOp binV intBin aop_unOp unV aop_convert convV
 aop_fieldAddr faddrV addOff aop_field fieldV aop_indexAddr iaddrV aop_index indexV aop_extract extV aop_slice cutV sliceV boundOf natOf aop_makeFunc aop_len len1 lenV aop_max max1 aop_min min1
 aop_call callThen_fn aop_invoke aop_alloc allocE aop_box boxK_t boxK_f elV_some aop_typeAssert assertV boxE aop_buildSlice rowsV setRows aop_load loadAt1 aop_store storeE aop_append appE_full appE_own okE_some ok1_some
 upd_at upd_none hset_at put_eq happly_nil happly_one argTm_at addLog_nil addLog_cons av toV toV1 cellsOf partV fillV splice_nil splice_lit oneV
inductive Tm where
 | mk (kind index : Int) (type : Ty) (args : List Tm)
def Tm.kind : Tm → Int | .mk k _ _ _ => k
def Tm.index : Tm → Int | .mk _ i _ _ => i
def Tm.type : Tm → Ty | .mk _ _ t _ => t
def Tm.args : Tm → List Tm | .mk _ _ _ l => l
theorem Tm.ind {p : Tm → Prop} (h : ∀ t, (∀ x ∈ t.args, p x) → p t) : ∀ t, p t := by
 intro t
 refine Tm.rec (motive_1 := p) (motive_2 := fun l => ∀ x ∈ l, p x) (fun k i ty l ih => h _ ih) (by simp) (fun a l ha hl x hx => ?_) t
 rcases List.mem_cons.1 hx with rfl | hx
 ·exact ha
 ·exact hl x hx
mutual
def Tm.cells : Tm → List V
 | .mk k i t l => [.int .i64 k, .int .i64 i, .int .i64 t.kind, .sl .any (t.args.map Ty.cells), .sl .any (Tm.rows l)]
def Tm.rows : List Tm → List (List V)
 | [] => []
 | t :: l => t.cells :: Tm.rows l
end
theorem Tm.rows_eq : ∀ l, Tm.rows l = l.map Tm.cells
 | [] => by simp [Tm.rows]
 | t :: l => by simp [Tm.rows, Tm.rows_eq l]
theorem Tm.cells_eq (t : Tm) : t.cells = [.int .i64 t.kind, .int .i64 t.index, .int .i64 t.type.kind, .sl .any (t.type.args.map Ty.cells), .sl .any (t.args.map Tm.cells)] := by
 cases t; simp [Tm.cells, Tm.rows_eq, Tm.kind, Tm.index, Tm.type, Tm.args]
inductive Fm where
 | mk (kind : Int) (type : Ty) (terms : List Tm) (args : List Fm)
def Fm.kind : Fm → Int | .mk k _ _ _ => k
def Fm.type : Fm → Ty | .mk _ t _ _ => t
def Fm.terms : Fm → List Tm | .mk _ _ l _ => l
def Fm.args : Fm → List Fm | .mk _ _ _ l => l
theorem Fm.ind {p : Fm → Prop} (h : ∀ t, (∀ x ∈ t.args, p x) → p t) : ∀ t, p t := by
 intro t
 refine Fm.rec (motive_1 := p) (motive_2 := fun l => ∀ x ∈ l, p x) (fun k i ty l ih => h _ ih) (by simp) (fun a l ha hl x hx => ?_) t
 rcases List.mem_cons.1 hx with rfl | hx
 ·exact ha
 ·exact hl x hx
mutual
def Fm.cells : Fm → List V
 | .mk k t l a => [.int .i64 k, .int .i64 t.kind, .sl .any (t.args.map Ty.cells), .sl .any (l.map Tm.cells), .sl .any (Fm.rows a)]
def Fm.rows : List Fm → List (List V)
 | [] => []
 | t :: l => t.cells :: Fm.rows l
end
theorem Fm.rows_eq : ∀ l, Fm.rows l = l.map Fm.cells
 | [] => by simp [Fm.rows]
 | t :: l => by simp [Fm.rows, Fm.rows_eq l]
theorem Fm.cells_eq (t : Fm) : t.cells = [.int .i64 t.kind, .int .i64 t.type.kind, .sl .any (t.type.args.map Ty.cells), .sl .any (t.terms.map Tm.cells), .sl .any (t.args.map Fm.cells)] := by
 cases t; simp [Fm.cells, Fm.rows_eq, Fm.kind, Fm.type, Fm.terms, Fm.args]
section
variable (t : Tm) (f : Fm) (y : Ty)
theorem Tm.cells_len : t.cells.length = 5 := by rw [Tm.cells_eq]; rfl
theorem Tm.cells_0 : t.cells[0]? = some (.int .i64 t.kind) := by rw [Tm.cells_eq]; rfl
theorem Tm.cells_1 : t.cells[1]? = some (.int .i64 t.index) := by rw [Tm.cells_eq]; rfl
theorem Tm.cells_2 : t.cells[2]? = some (.int .i64 t.type.kind) := by rw [Tm.cells_eq]; rfl
theorem Tm.cells_3 : t.cells[3]? = some (.sl .any (t.type.args.map Ty.cells)) := by rw [Tm.cells_eq]; rfl
theorem Tm.cells_4 : t.cells[4]? = some (.sl .any (t.args.map Tm.cells)) := by rw [Tm.cells_eq]; rfl
theorem Tm.cells_take : List.take 5 t.cells = t.cells := List.take_of_length_le (by rw [Tm.cells_len]; exact Nat.le_refl _)
theorem Tm.cells_type : List.take 2 (List.drop 2 t.cells) = t.type.cells := by rw [Tm.cells_eq, Ty.cells_eq]; rfl
theorem Fm.cells_len : f.cells.length = 5 := by rw [Fm.cells_eq]; rfl
theorem Fm.cells_0 : f.cells[0]? = some (.int .i64 f.kind) := by rw [Fm.cells_eq]; rfl
theorem Fm.cells_1 : f.cells[1]? = some (.int .i64 f.type.kind) := by rw [Fm.cells_eq]; rfl
theorem Fm.cells_2 : f.cells[2]? = some (.sl .any (f.type.args.map Ty.cells)) := by rw [Fm.cells_eq]; rfl
theorem Fm.cells_3 : f.cells[3]? = some (.sl .any (f.terms.map Tm.cells)) := by rw [Fm.cells_eq]; rfl
theorem Fm.cells_4 : f.cells[4]? = some (.sl .any (f.args.map Fm.cells)) := by rw [Fm.cells_eq]; rfl
theorem Fm.cells_take : List.take 5 f.cells = f.cells := List.take_of_length_le (by rw [Fm.cells_len]; exact Nat.le_refl _)
theorem Fm.cells_type : List.take 2 (List.drop 1 f.cells) = f.type.cells := by rw [Fm.cells_eq, Ty.cells_eq]; rfl
theorem Ty.cells_one : y.cells.all oneV = true := by rw [Ty.cells_eq]; rfl
theorem Tm.cells_one : t.cells.all oneV = true := by rw [Tm.cells_eq]; rfl
theorem Fm.cells_one : f.cells.all oneV = true := by rw [Fm.cells_eq]; rfl
end
theorem splice_full {cs xs : List V} (h : cs.length = xs.length) : splice cs 0 xs = xs := by
 rw [splice_eq xs 0 cs (by omega), Nat.zero_add, ← h]; simp
theorem splice_Ty0 {cs : List V} {t : Ty} (h : cs.length = 2) : splice cs 0 t.cells = t.cells := splice_full (by rw [h, Ty.cells_len])
theorem splice_Ty {cs : List V} {off : Nat} {t : Ty} (h : 2 < cs.length) : splice cs off t.cells = splice cs off [.int .i64 t.kind, .sl .any (t.args.map Ty.cells)] := by rw [Ty.cells_eq]
theorem splice_Tm {cs : List V} {t : Tm} (h : cs.length = 5) : splice cs 0 t.cells = t.cells := splice_full (by rw [h, Tm.cells_len])
theorem splice_Fm {cs : List V} {t : Fm} (h : cs.length = 5) : splice cs 0 t.cells = t.cells := splice_full (by rw [h, Fm.cells_len])
theorem weakL_Tm : ∀ t : Tm, weakL t.cells = t.cells := by
 intro t
 induction t using Tm.ind with
 | h t ih =>
  rw [Tm.cells_eq]
  simp only [weakL, weak, List.cons.injEq, V.sl.injEq, and_true, true_and, weakLL_Ty]
  rw [weakLL_eq, List.map_map]
  exact List.map_congr_left fun x hx => ih x hx
theorem weakLL_Tm (l : List Tm) : weakLL (l.map Tm.cells) = l.map Tm.cells := by
 rw [weakLL_eq, List.map_map]; exact List.map_congr_left fun x _ => weakL_Tm x
theorem weakL_Fm : ∀ t : Fm, weakL t.cells = t.cells := by
 intro t
 induction t using Fm.ind with
 | h t ih =>
  rw [Fm.cells_eq]
  simp only [weakL, weak, List.cons.injEq, V.sl.injEq, and_true, true_and, weakLL_Ty, weakLL_Tm]
  rw [weakLL_eq, List.map_map]
  exact List.map_congr_left fun x hx => ih x hx
theorem weakLL_Fm (l : List Fm) : weakLL (l.map Fm.cells) = l.map Fm.cells := by
 rw [weakLL_eq, List.map_map]; exact List.map_congr_left fun x _ => weakL_Fm x
section
variable {S : Id → Prop}
theorem InLL_Ty (l : List Ty) : InLL S (l.map Ty.cells) := by
 rw [InLL_mem]; intro x hx; obtain ⟨y, _, rfl⟩ := List.mem_map.1 hx; exact InL_Ty y
theorem InL_Tm : ∀ t : Tm, InL S t.cells := by
 intro t
 induction t using Tm.ind with
 | h t ih =>
  rw [Tm.cells_eq]
  simp only [InL, InV, capIn, true_and, and_true, InLL_Ty]
  rw [InLL_mem]
  intro l hl
  obtain ⟨x, hx, rfl⟩ := List.mem_map.1 hl
  exact ih x hx
theorem InLL_Tm (l : List Tm) : InLL S (l.map Tm.cells) := by
 rw [InLL_mem]; intro x hx; obtain ⟨y, _, rfl⟩ := List.mem_map.1 hx; exact InL_Tm y
theorem InL_Fm : ∀ t : Fm, InL S t.cells := by
 intro t
 induction t using Fm.ind with
 | h t ih =>
  rw [Fm.cells_eq]
  simp only [InL, InV, capIn, true_and, and_true, InLL_Ty, InLL_Tm]
  rw [InLL_mem]
  intro l hl
  obtain ⟨x, hx, rfl⟩ := List.mem_map.1 hl
  exact ih x hx
theorem InLL_Fm (l : List Fm) : InLL S (l.map Fm.cells) := by
 rw [InLL_mem]; intro x hx; obtain ⟨y, _, rfl⟩ := List.mem_map.1 hx; exact InL_Fm y
end
theorem all_len_Ty (l : List Ty) : (l.map Ty.cells).all (fun e => e.length == 2) = true := by simp [Ty.cells_len]
theorem all_len_Tm (l : List Tm) : (l.map Tm.cells).all (fun e => e.length == 5) = true := by simp [Tm.cells_len]
theorem all_len_Fm (l : List Fm) : (l.map Fm.cells).all (fun e => e.length == 5) = true := by simp [Fm.cells_len]
theorem all_one_Ty (l : List Ty) : (l.map Ty.cells).flatten.all oneV = true := by
 rw [List.all_eq_true]; intro v hv
 obtain ⟨c, hc, hv⟩ := List.mem_flatten.1 hv
 obtain ⟨x, _, rfl⟩ := List.mem_map.1 hc
 exact List.all_eq_true.1 (Ty.cells_one x) v hv
theorem all_one_Tm (l : List Tm) : (l.map Tm.cells).flatten.all oneV = true := by
 rw [List.all_eq_true]; intro v hv
 obtain ⟨c, hc, hv⟩ := List.mem_flatten.1 hv
 obtain ⟨x, _, rfl⟩ := List.mem_map.1 hc
 exact List.all_eq_true.1 (Tm.cells_one x) v hv
theorem all_one_Fm (l : List Fm) : (l.map Fm.cells).flatten.all oneV = true := by
 rw [List.all_eq_true]; intro v hv
 obtain ⟨c, hc, hv⟩ := List.mem_flatten.1 hv
 obtain ⟨x, _, rfl⟩ := List.mem_map.1 hc
 exact List.all_eq_true.1 (Fm.cells_one x) v hv
def ints (l : List Int) : List (List V) := l.map fun n => [.int .i64 n]
theorem ints_len (l : List Int) : (ints l).length = l.length := by simp [ints]
theorem weakLL_ints (l : List Int) : weakLL (ints l) = ints l := by
 rw [weakLL_eq, ints, List.map_map]; exact List.map_congr_left fun x _ => by simp [weakL, weak]
theorem InLL_ints {S : Id → Prop} (l : List Int) : InLL S (ints l) := by
 rw [InLL_mem]; intro x hx; obtain ⟨y, _, rfl⟩ := List.mem_map.1 hx; simp [InL, InV]
theorem ints_get (l : List Int) (i : Nat) : (ints l)[i]? = (l[i]?).map fun n => [.int .i64 n] := by simp [ints]
theorem all_len_ints (l : List Int) : (ints l).all (fun e => e.length == 1) = true := by simp [ints]
theorem all_one_ints (l : List Int) : (ints l).flatten.all oneV = true := by
 rw [List.all_eq_true]; intro v hv
 obtain ⟨c, hc, hv⟩ := List.mem_flatten.1 hv
 obtain ⟨x, _, rfl⟩ := List.mem_map.1 hc
 simp at hv; subst hv; rfl
def Turns (P : Program) (env : Nat → Option (List V)) (f : FuncId) (args : List V) (d : Id) (o : Obj) (v : V) (o' : Obj) : Prop :=
 ∀ h : H, h d = some o → Ret P env f args h v (hset h d o')
theorem Call1_turn {P : Program} {env : Nat → Option (List V)} {k : FuncId} {args : List V} {h : H} {R : Eff → Prop} {d : Id} {o o' : Obj} {v : V} (hp : Turns P env k args d o v o')
    (hd : h d = some o) (hr : R ⟨v, [d], [(d, o')]⟩) : Call1 P env k args h R :=
  ⟨⟨v, [d], [(d, o')]⟩, by simp, fun h2 hh => by
    have := hp h2 (by rw [hh d (by simp), hd])
    simpa [happly] using this, hr⟩

def AgreeBut (d : Id) (h k : H) : Prop := ∀ id, id ≠ d → h id ≠ none → k id = h id
theorem AgreeBut.refl (d : Id) (h : H) : AgreeBut d h h := fun _ _ _ => rfl
theorem AgreeBut.new {d : Id} {h k : H} {id : Id} {o : Obj} (a : AgreeBut d h k) (hn : h id = none) : AgreeBut d h (hset k id o) := fun i hd hi => by
 have : i ≠ id := fun e => hi (by rw [e]; exact hn)
 rw [hset_other this]; exact a i hd hi
theorem AgreeBut.set {d : Id} {h k : H} {o : Obj} (a : AgreeBut d h k) : AgreeBut d h (hset k d o) := fun i hd hi => by
 rw [hset_other hd]; exact a i hd hi
theorem AR_end_turn {P : Program} {env : Nat → Option (List V)} {n : Nat} {fn : Func} {g0 : G} {w0 : World} {h0 : H} {v : V} {gen : Nat} {σ : St} {k : List It} {vs : List V}
  {d : Id} {o : Obj} {o' : List V} (hrel : Rel env g0 w0 h0) (hd : h0 d = some o) (hres : aresL P σ fn.results.toList = some vs) (hv : weak (oneOr vs) = v)
  (hin : InV (fun id => hset h0 d (.box o') id ≠ none) v) (hbox : InL (fun id => hset h0 d (.box o') id ≠ none) o') (hag : AgreeBut d h0 σ.h) (hat : σ.h d = some (.box o')) :
  AR ⟨P, env, n, fn, g0, w0, h0, v, hset h0 d (.box o')⟩ gen k .ret σ := by
 refine AR_to_ret (AR_done hres hv ?_ ?_ hin ?_ hrel)
 ·intro id hid
  by_cases e : id = d
  ·subst e; rw [hat]; exact hset_same.symm
  ·simp only [hset_other e] at hid ⊢
   exact hag id e hid
 ·intro id hid
  by_cases e : id = d
  ·subst e; simp [hset_same]
  ·simpa only [hset_other e] using hid
 ·intro id cs e
  by_cases hne : id = d
  ·subst hne
   simp only [hset_same, Option.some.injEq, Obj.box.injEq] at e
   subst e; exact .inr hbox
  ·left; simpa only [hset_other hne] using e
theorem fresh_of {h : H} {gen : Nat} (hfr : ∀ id, h id ≠ none → id.gen < gen) (r i : Nat) : h ⟨gen, r, i⟩ = none := by
 cases e : h ⟨gen, r, i⟩ with
 | none => rfl
 | some o => exact absurd (hfr _ (by rw [e]; simp)) (by simp)
theorem fresh_ne {h : H} {gen : Nat} (hfr : ∀ id, h id ≠ none → id.gen < gen) {d : Id} {o : Obj} (hd : h d = some o) (r i : Nat) : (d = ⟨gen, r, i⟩) = False := by
 simp only [eq_iff_iff, iff_false]
 intro e; rw [e, fresh_of hfr] at hd; cases hd
theorem fresh_ne' {h : H} {gen : Nat} (hfr : ∀ id, h id ≠ none → id.gen < gen) {d : Id} {o : Obj} (hd : h d = some o) (r i : Nat) : ((⟨gen, r, i⟩ : Id) = d) = False := by
 simp only [eq_iff_iff, iff_false]
 intro e; rw [← e, fresh_of hfr] at hd; cases hd
attribute [go_sem] Tm.cells_len Tm.cells_0 Tm.cells_1 Tm.cells_2 Tm.cells_3 Tm.cells_4 Tm.cells_take Tm.cells_type Fm.cells_len Fm.cells_0 Fm.cells_1 Fm.cells_2 Fm.cells_3 Fm.cells_4
 Fm.cells_take Fm.cells_type Ty.cells_one Tm.cells_one Fm.cells_one splice_Ty0 splice_Ty splice_Tm splice_Fm weakL_Tm weakLL_Tm weakL_Fm weakLL_Fm ints_len weakLL_ints
 all_len_Ty all_len_Tm all_len_Fm all_one_Ty all_one_Tm all_one_Fm all_len_ints all_one_ints List.length_map
def resOk (P : Program) (σ : St) (rs : List ResultVar) (v : V) : Prop :=
 match aresL P σ rs with
 | some vs => weak (oneOr vs) = v
 | none => False
theorem AR_fin {P : Program} {env : Nat → Option (List V)} {n : Nat} {fn : Func} {g0 : G} {w0 : World} {h0 : H} {v : V} {gen : Nat} {σ : St} {k : List It}
  (hrel : Rel env g0 w0 h0) (hin : InV (fun id => h0 id ≠ none) v) (hag : Agree h0 σ.h) (hv : resOk P σ fn.results.toList v) :
  AR ⟨P, env, n, fn, g0, w0, h0, v, h0⟩ gen k .ret σ := by
 unfold resOk at hv
 split at hv
 ·rename_i vs hvs; exact AR_end hrel hvs hv hin hag
 ·exact hv.elim
theorem AR_fin_turn {P : Program} {env : Nat → Option (List V)} {n : Nat} {fn : Func} {g0 : G} {w0 : World} {h0 : H} {v : V} {gen : Nat} {σ : St} {k : List It}
  {d : Id} {o : Obj} {o' : List V} (hrel : Rel env g0 w0 h0) (hd : h0 d = some o)
  (hin : InV (fun id => hset h0 d (.box o') id ≠ none) v) (hbox : InL (fun id => hset h0 d (.box o') id ≠ none) o') (hag : AgreeBut d h0 σ.h) (hat : σ.h d = some (.box o'))
  (hv : resOk P σ fn.results.toList v) : AR ⟨P, env, n, fn, g0, w0, h0, v, hset h0 d (.box o')⟩ gen k .ret σ := by
 unfold resOk at hv
 split at hv
 ·rename_i vs hvs; exact AR_end_turn hrel hd hvs hv hin hbox hag hat
 ·exact hv.elim
attribute [go_sem] resOk
attribute [go_sem] InV InL InLL capIn InL_Ty InL_Tm InL_Fm InLL_Ty InLL_Tm InLL_Fm InLL_ints
theorem aops_mono {P : Program} {env : Nat → Option (List V)} {ops : Array Oper} {draw : Bool} {gen reg : Nat} {K K' : St → Prop} (hK : ∀ σ, K σ → K' σ) :
  ∀ (rest : List Oper) (i : Nat) (log : List LogE) (σ : St), aops P env ops draw gen reg rest i log K σ → aops P env ops draw gen reg rest i log K' σ
 | [], _, _, _, h => hK _ h
 | o :: rest, i, log, σ, h => by
  rw [aops] at h ⊢
  cases hg : gwant ops o σ.tm with
  | none => rw [hg] at h; exact h.elim
  | some b =>
   rw [hg] at h
   cases b with
   | false => exact aops_mono hK rest (i + 1) log _ h
   | true =>
    simp only at h ⊢
    split at h
    ·split at h
     ·obtain ⟨e, h1, h2, h3, h4⟩ := h
      exact ⟨e, h1, h2, h3, aops_mono hK rest (i + 1) _ _ h4⟩
     ·exact h.elim
    ·split at h
     ·split at h
      ·obtain ⟨e, h1, h2, h3, h4⟩ := h
       exact ⟨e, h1, h2, h3, aops_mono hK rest (i + 1) _ _ h4⟩
      ·exact h.elim
     ·exact h.elim
    ·split at h
     ·exact ⟨h.1, aops_mono hK rest (i + 1) _ _ h.2⟩
     ·exact h.elim
def condP (v : V) (p q : Prop) : Prop := match v with | .bool b => (b = true → p) ∧ (b = false → q) | _ => False
@[congr] theorem condP_congr {v v' : V} {p q : Prop} (h : v = v') : condP v p q = condP v' p q := by rw [h]
@[go_sem] theorem condP_t {p q : Prop} : condP (.bool true) p q = p := by simp [condP]
@[go_sem] theorem condP_f {p q : Prop} : condP (.bool false) p q = q := by simp [condP]
theorem spl {b : Bool} {p q : Prop} (h1 : b = true → p) (h2 : b = false → q) : condP (.bool b) p q := ⟨h1, h2⟩
theorem spt {v : V} {p q : Prop} (h : v = .bool true) (h1 : p) : condP v p q := by rw [h, condP_t]; exact h1
theorem spf {v : V} {p q : Prop} (h : v = .bool false) (h1 : q) : condP v p q := by rw [h, condP_f]; exact h1
def cz : Code → Nat
 | .seq a b => cz a + cz b + 1
 | .cond _ a b => cz a + cz b + 1
 | .block _ b => cz b + 1
 | _ => 1
def kz : List It → Nat
 | [] => 0
 | .code c :: k => 2 * cz c + kz k
 | _ :: k => 1 + kz k
theorem cz_pos (c : Code) : 1 ≤ cz c := by cases c <;> simp [cz]
def WP (c : Ctx) (gen : Nat) : List It → Exit → St → Prop
 | .code .skip :: k, .normal, σ => WP c gen k .normal σ
 | .code (.seq x y) :: k, .normal, σ => WP c gen (.code x :: .code y :: k) .normal σ
 | .code (.cond t x y) :: k, .normal, σ => condP (av c.env σ.tm t) (WP c gen (.code x :: k) .normal σ) (WP c gen (.code y :: k) .normal σ)
 | .code (.block id x) :: k, .normal, σ => WP c gen (.code x :: .block id :: k) .normal σ
 | .code (.exit id) :: k, .normal, σ => WP c gen k (.exit id) σ
 | .code .ret :: k, .normal, σ => AR c gen k .ret σ
 | .code (.region id ops draw) :: k, .normal, σ => aops c.P c.env ops draw gen id ops.toList 0 [] (fun σ' => WP c gen k .normal σ') σ
 | .block _ :: k, .normal, σ => WP c gen k .normal σ
 | .block id :: k, .exit id', σ => if id' = id then WP c gen k .normal σ else WP c gen k (.exit id') σ
 | .code _ :: k, .exit id, σ => WP c gen k (.exit id) σ
 | .inv _ :: k, .exit id, σ => WP c gen k (.exit id) σ
 | [], .normal, σ => AR c gen [] .ret σ
 | k, e, σ => AR c gen k e σ
termination_by k => kz k
decreasing_by all_goals (simp only [kz, cz]; first | omega|exact Nat.lt_add_of_pos_left (Nat.mul_pos (by omega) (cz_pos _)))
section
variable {c : Ctx} {gen : Nat} {k : List It} {e : Exit} {σ σ' : St} {x y : Code} {t : Operand} {id id' : Nat} {ops : Array Oper} {draw : Bool} {J : St → Prop}
@[congr] theorem WP_congr (h : σ = σ') : WP c gen k e σ = WP c gen k e σ' := by rw [h]
@[go_sem] theorem WP_skip : WP c gen (.code .skip :: k) .normal σ = WP c gen k .normal σ := by rw [WP]
@[go_sem] theorem WP_seq : WP c gen (.code (.seq x y) :: k) .normal σ = WP c gen (.code x :: .code y :: k) .normal σ := by rw [WP]
@[go_sem] theorem WP_cond : WP c gen (.code (.cond t x y) :: k) .normal σ = condP (av c.env σ.tm t) (WP c gen (.code x :: k) .normal σ) (WP c gen (.code y :: k) .normal σ) := by rw [WP]
@[go_sem] theorem WP_block : WP c gen (.code (.block id x) :: k) .normal σ = WP c gen (.code x :: .block id :: k) .normal σ := by rw [WP]
@[go_sem] theorem WP_exit : WP c gen (.code (.exit id) :: k) .normal σ = WP c gen k (.exit id) σ := by rw [WP]
@[go_sem] theorem WP_ret : WP c gen (.code .ret :: k) .normal σ = AR c gen k .ret σ := by rw [WP]
@[go_sem] theorem WP_region : WP c gen (.code (.region id ops draw) :: k) .normal σ = aops c.P c.env ops draw gen id ops.toList 0 [] (fun σ' => WP c gen k .normal σ') σ := by rw [WP]
@[go_sem] theorem WP_block_end : WP c gen (.block id :: k) .normal σ = WP c gen k .normal σ := by rw [WP]
@[go_sem] theorem WP_block_exit : WP c gen (.block id :: k) (.exit id') σ = if id' = id then WP c gen k .normal σ else WP c gen k (.exit id') σ := by rw [WP]
@[go_sem] theorem WP_code_exit : WP c gen (.code x :: k) (.exit id) σ = WP c gen k (.exit id) σ := by cases x <;> simp [WP]
@[go_sem] theorem WP_inv_exit : WP c gen (.inv J :: k) (.exit id) σ = WP c gen k (.exit id) σ := by rw [WP]
@[go_sem] theorem WP_fall : WP c gen [] .normal σ = AR c gen [] .ret σ := by rw [WP]
@[go_sem] theorem WP_loop : WP c gen (.code (.loop x) :: k) .normal σ = AR c gen (.code (.loop x) :: k) .normal σ := by rw [WP] <;> simp
@[go_sem] theorem WP_inv : WP c gen (.inv J :: k) .normal σ = AR c gen (.inv J :: k) .normal σ := by rw [WP] <;> simp
end
theorem AR_of_WP {c : Ctx} {gen : Nat} : ∀ (n : Nat) (k : List It) (e : Exit) (σ : St), kz k ≤ n → WP c gen k e σ → AR c gen k e σ := by
 intro n
 induction n with
 | zero =>
  intro k e σ hn h
  cases k with
  | nil => cases e with
   | normal => rw [WP_fall] at h; exact fun ok hm g a w x r => h ok hm g a w x r
   | _ => rw [WP] at h <;> first|exact h | simp
  | cons i k => cases i with
   | code c => cases c <;> simp [kz, cz] at hn <;> omega
   | _ => simp [kz] at hn <;> omega
 | succ n ih =>
  intro k e σ hn h
  cases k with
  | nil => cases e with
   | normal => rw [WP_fall] at h; exact fun ok hm g a w x r => h ok hm g a w x r
   | _ => rw [WP] at h <;> first|exact h | simp
  | cons i k =>
   cases e with
   | normal =>
    cases i with
    | block id => rw [WP_block_end] at h; simp only [kz] at hn; exact AR_block_end (ih _ _ _ (by omega) h)
    | inv J => rw [WP_inv] at h; exact h
    | code x =>
     cases x with
     | skip => rw [WP_skip] at h; simp only [kz, cz] at hn; exact AR_skip (ih _ _ _ (by omega) h)
     | seq x y => rw [WP_seq] at h; simp only [kz, cz] at hn; exact AR_seq (ih _ _ _ (by simp only [kz]; omega) h)
     | cond t x y =>
      rw [WP_cond] at h; simp only [kz, cz] at hn
      cases hv : av c.env σ.tm t with
      | bool b =>
       rw [hv] at h
       exact AR_cond hv (fun hb => ih _ _ _ (by simp only [kz]; omega) (h.1 hb)) (fun hb => ih _ _ _ (by simp only [kz]; omega) (h.2 hb))
      | _ => rw [hv] at h; exact h.elim
     | block id x => rw [WP_block] at h; simp only [kz, cz] at hn; exact AR_block (ih _ _ _ (by simp only [kz]; omega) h)
     | exit id => rw [WP_exit] at h; simp only [kz, cz] at hn; exact AR_exit (ih _ _ _ (by omega) h)
     | ret => rw [WP_ret] at h; exact AR_ret h
     | region id ops draw =>
      rw [WP_region] at h; simp only [kz, cz] at hn
      exact AR_region (aops_mono (fun σ' h' => ih _ _ _ (by omega) h') _ _ _ _ h)
     | loop x => rw [WP_loop] at h; exact h
     | _ => rw [WP] at h <;> first|exact h | simp
   | exit id =>
    cases i with
    | block id2 =>
     rw [WP_block_exit] at h; simp only [kz] at hn
     split at h
     ·rename_i e; subst e; exact AR_block_hit (ih _ _ _ (by omega) h)
     ·rename_i e; exact AR_block_pass e (ih _ _ _ (by omega) h)
    | inv J => rw [WP_inv_exit] at h; simp only [kz] at hn; exact AR_inv_exit (ih _ _ _ (by omega) h)
    | code x => rw [WP_code_exit] at h; simp only [kz] at hn; exact AR_code_exit (ih _ _ _ (by cases x <;> simp only [cz] at hn <;> omega) h)
   | _ => rw [WP] at h <;> first|exact h | simp
def goes : List It → Exit → Bool
 | .code (.loop _) :: _, .normal => false
 | .inv _ :: _, .normal => false
 | [], .ret => false
 | _ :: _, .ret => false
 | _, _ => true
theorem wp {c : Ctx} {gen : Nat} {k : List It} {e : Exit} {σ : St} (_ : goes k e = true) (h : WP c gen k e σ) : AR c gen k e σ := AR_of_WP _ k e σ (Nat.le_refl _) h
def AgreeF (h k : H) : Prop := Agree h k
@[go_sem] theorem AgreeF_refl {h : H} : AgreeF h h = True := eq_true (Agree.refl h)
@[go_sem] theorem AgreeF_new {h k : H} {id : Id} {o : Obj} (hn : h id = none) : AgreeF h (hset k id o) = AgreeF h k := by
 refine propext ⟨fun a i hi => ?_, fun a => Agree.new a hn⟩
 have := a i hi
 rwa [hset_other (by intro e; rw [e] at hi; exact hi hn)] at this
theorem agf {h k : H} (a : Agree h k) : AgreeF h k := a
def AgreeBF (d : Id) (h k : H) : Prop := AgreeBut d h k
@[go_sem] theorem AgreeBF_refl {d : Id} {h : H} : AgreeBF d h h = True := eq_true (AgreeBut.refl d h)
@[go_sem] theorem AgreeBF_set {d : Id} {h k : H} {o : Obj} : AgreeBF d h (hset k d o) = AgreeBF d h k := by
 refine propext ⟨fun a i hd hi => ?_, fun a => AgreeBut.set a⟩
 have := a i hd hi
 rwa [hset_other hd] at this
@[go_sem] theorem AgreeBF_new {d : Id} {h k : H} {id : Id} {o : Obj} (hn : h id = none) : AgreeBF d h (hset k id o) = AgreeBF d h k := by
 refine propext ⟨fun a i hd hi => ?_, fun a => AgreeBut.new a hn⟩
 have := a i hd hi
 rwa [hset_other (by intro e; rw [e] at hi; exact hi hn)] at this
theorem agb {d : Id} {h k : H} (a : AgreeBut d h k) : AgreeBF d h k := a
theorem finF {P : Program} {env : Nat → Option (List V)} {n : Nat} {fn : Func} {g0 : G} {w0 : World} {h0 : H} {v : V} {gen : Nat} {σ : St} {k : List It}
  (hrel : Rel env g0 w0 h0) (hin : InV (fun id => h0 id ≠ none) v) (hag : AgreeF h0 σ.h) (hv : resOk P σ fn.results.toList v) :
  AR ⟨P, env, n, fn, g0, w0, h0, v, h0⟩ gen k .ret σ := AR_fin hrel hin hag hv
theorem finT {P : Program} {env : Nat → Option (List V)} {n : Nat} {fn : Func} {g0 : G} {w0 : World} {h0 : H} {v : V} {gen : Nat} {σ : St} {k : List It}
  {d : Id} {o : Obj} {o' : List V} (hrel : Rel env g0 w0 h0) (hd : h0 d = some o)
  (hin : InV (fun id => hset h0 d (.box o') id ≠ none) v) (hbox : InL (fun id => hset h0 d (.box o') id ≠ none) o') (hag : AgreeBF d h0 σ.h) (hat : σ.h d = some (.box o'))
  (hv : resOk P σ fn.results.toList v) : AR ⟨P, env, n, fn, g0, w0, h0, v, hset h0 d (.box o')⟩ gen k .ret σ := AR_fin_turn hrel hd hin hbox hag hat hv
theorem enter {P : Program} {env : Nat → Option (List V)} {f : FuncId} {fn : Func} {body : Code} {args : List V} {h : H} {v : V} {h' : H}
    (hf : P.funcs[f]? = some fn) (rs : List ResultVar) (hb : fn.body = some body) (hname : (fn.name == "runtime.NumGoroutine") = false) (hm : P.follows .mixedOrders = true)
    (hok : okCode fn.ntmps body = true) (hres : fn.results.toList = rs)
    (walk : ∀ (g : G) (w : World) (gen : Nat), Rel env g w h → (∀ id, h id ≠ none → id.gen < gen) → (∀ r i, h ⟨gen, r, i⟩ = none) → fn.results.toList = rs →
      AR ⟨P, env, fn.ntmps, fn, g, w, h, v, h'⟩ gen [.code body] .normal ⟨argTm args, h⟩) : Ret P env f args h v h' :=
  ret_of_walk hf hb hname hm hok fun g w gen hr hfr => walk g w gen hr hfr (fresh_of hfr) hres
/- Short names of the rules that are printed most. -/
theorem cp {P : Program} {env : Nat → Option (List V)} {k : FuncId} {args : List V} {h : H} {R : Eff → Prop} {v : V} (hp : Pure P env k args v) (hr : R ⟨v, [], []⟩) : Call1 P env k args h R := Call1_pure hp hr
theorem ct {P : Program} {env : Nat → Option (List V)} {k : FuncId} {args : List V} {h : H} {R : Eff → Prop} {d : Id} {o o' : Obj} {v : V} (hp : Turns P env k args d o v o')
  (hd : h d = some o) (hr : R ⟨v, [d], [(d, o')]⟩) : Call1 P env k args h R := Call1_turn hp hd hr
theorem gs {P : Program} {env : Nat → Option (List V)} {ops : Array Oper} {draw : Bool} {gen reg : Nat} {rest : List Oper} {dst : Option Nat} {i : Nat} {log : List LogE} {K : St → Prop} {σ : St} {op : Op} {want b : Bool}
  (h1 : b = want → guarded P env ops draw gen reg rest dst i log K σ op want (.bool want))
  (h2 : b = !want → guarded P env ops draw gen reg rest dst i log K σ op want (.bool (!want))) : guarded P env ops draw gen reg rest dst i log K σ op want (.bool b) := guarded_split h1 h2
attribute [go_sem] and_self reduceIte Nat.reduceEqDiff Nat.reduceAdd Nat.reduceLeDiff Nat.reduceMul Nat.reduceBEq Nat.reduceLT Nat.reduceSub Int.reduceBEq Int.reduceToNat Int.reduceLE Int.reduceEq
def tNat : Ty := .mk 1 []
def tList : Ty := .mk 2 []
def tUnit : Ty := .mk 5 []
def tPair (a b : Ty) : Ty := .mk 3 [a, b]
def tFun (a b : Ty) : Ty := .mk 4 [a, b]
def tm0 (k : Int) (l : List Tm) : Tm := .mk k 0 (.mk 0 []) l
def tmT (k : Int) (t : Ty) (l : List Tm) : Tm := .mk k 0 t l
def tmVar (i : Int) : Tm := .mk 1 i (.mk 0 []) []
def chPair (a b : Ty) : Ty := if a.kind == 5 then b else if b.kind == 5 then a else tPair a b
def chFun (a b : Ty) : Ty := if b.kind == 5 then tUnit else if a.kind == 5 then b else tFun a b
def modI (n k : Int) : Int := (IntKind.i64.wrap (n.tmod k + k)).tmod k
def fmEq (a b : Tm) : Fm := .mk 1 (.mk 0 []) [a, b] []
def fmTwo (k : Int) (a b : Fm) : Fm := .mk k (.mk 0 []) [] [a, b]
def fmQ (k : Int) (t : Ty) (a : Fm) : Fm := .mk k t [] [a]
theorem Ty.mk_cells (k : Int) (l : List Ty) : (Ty.mk k l).cells = [.int .i64 k, .sl .any (l.map Ty.cells)] := Ty.cells_eq _
theorem Tm.mk_cells (k i : Int) (t : Ty) (l : List Tm) :
  (Tm.mk k i t l).cells = [.int .i64 k, .int .i64 i, .int .i64 t.kind, .sl .any (t.args.map Ty.cells), .sl .any (l.map Tm.cells)] := Tm.cells_eq _
theorem Fm.mk_cells (k : Int) (t : Ty) (l : List Tm) (a : List Fm) :
  (Fm.mk k t l a).cells = [.int .i64 k, .int .i64 t.kind, .sl .any (t.args.map Ty.cells), .sl .any (l.map Tm.cells), .sl .any (a.map Fm.cells)] := Fm.cells_eq _
theorem Ty.mk_kind (k : Int) (l : List Ty) : (Ty.mk k l).kind = k := rfl
theorem Ty.mk_args (k : Int) (l : List Ty) : (Ty.mk k l).args = l := rfl
def OwnS (h0 h : H) (v : V) (k : Nat) (es : List (List V)) : Prop :=
 v = .sl .full es ∨ ∃ id, v = .sl (.own id) es ∧ h id = some (.tok es.length k) ∧ h0 id = none
theorem OwnS.new {h0 h : H} {v : V} {k : Nat} {es : List (List V)} {id : Id} {o : Obj} (a : OwnS h0 h v k es) (hn : h id = none) : OwnS h0 (hset h id o) v k es := by
 rcases a with a | ⟨i, h1, h2, h3⟩
 ·exact .inl a
 ·refine .inr ⟨i, h1, ?_, h3⟩
  rw [hset_other (by intro e; rw [e, hn] at h2; cases h2)]; exact h2
theorem OwnS.val {h0 h : H} {v : V} {k : Nat} {es : List (List V)} (a : OwnS h0 h v k es) : ∃ c, v = .sl c es := by
 rcases a with a | ⟨i, h1, _⟩
 ·exact ⟨_, a⟩
 ·exact ⟨_, h1⟩
theorem agree_fresh {h k : H} (a : Agree h k) {id : Id} (hk : k id = none) : h id = none := by
 cases e : h id with
 | none => rfl
 | some o => rw [a.at e] at hk; cases hk
theorem obj_ne {h : H} {a b : Id} {cs : List V} {n k : Nat} (ha : h a = some (.box cs)) (hb : h b = some (.tok n k)) : (a = b) = False := by
 simp only [eq_iff_iff, iff_false]
 intro e; rw [e, hb] at ha; cases ha
theorem obj_ne' {h : H} {a b : Id} {cs : List V} {n k : Nat} (ha : h a = some (.box cs)) (hb : h b = some (.tok n k)) : (b = a) = False := by
 simp only [eq_iff_iff, iff_false]
 intro e; rw [e, ha] at hb; cases hb
theorem gen_ne {h : H} {gn : Nat} (hg : ∀ id, h id ≠ none → id.gen < gn) {g r i : Nat} {o : Obj} (ha : h ⟨g, r, i⟩ = some o) : (g = gn) = False := by
 simp only [eq_iff_iff, iff_false]
 have := hg _ (by rw [ha]; simp)
 simp at this; omega
theorem gen_ne' {h : H} {gn : Nat} (hg : ∀ id, h id ≠ none → id.gen < gn) {g r i : Nat} {o : Obj} (ha : h ⟨g, r, i⟩ = some o) : (gn = g) = False := by
 simp only [eq_iff_iff, iff_false]
 have := hg _ (by rw [ha]; simp)
 simp at this; omega
theorem wrap_small {n : Int} (h0 : -9223372036854775808 ≤ n) (h1 : n ≤ 9223372036854775807) : IntKind.i64.wrap n = n := IntWalk.i64_in n ⟨h0, h1⟩
theorem wrap_succ {i : Nat} (h : i ≤ 4611686018427387904) : IntKind.i64.wrap ((i : Int) + 1) = ((i + 1 : Nat) : Int) := by
 rw [wrap_small (by omega) (by omega)]; omega
theorem lt_true {i n : Nat} (h : i < n) : decide ((i : Int) < (n : Int)) = true := by simp; omega
theorem lt_false {i n : Nat} (h : n ≤ i) : decide ((i : Int) < (n : Int)) = false := by simp; omega
theorem map_take_succ {α β : Type} {f : α → β} {l : List α} {i : Nat} {x : α} (h : l[i]? = some x) : (l.take (i + 1)).map f = (l.take i).map f ++ [f x] := by
 rw [List.take_add_one, h]; simp
theorem min_lt {i n : Nat} (h : i < n) : min i n = i := by omega
attribute [go_sem] Int.toNat_natCast List.getElem?_map Int.natCast_nonneg List.length_take List.length_append eq_self_iff_true List.flatten_cons List.flatten_nil
theorem AR_cut {c : Ctx} {gen : Nat} {k : List It} {σ : St} {x : Code} (J : St → Prop) (h1 : AR c gen (.code x :: .inv J :: k) .normal σ)
  (h2 : ∀ σ', J σ' → AR c gen k .normal σ') : AR c gen (.code x :: k) .normal σ := by
 intro ok hm g a w hx r
 simp only [okStk, Bool.and_eq_true] at ok
 have := h1 (by simp [okStk, ok.1, ok.2]) hm g a w hx r
 refine wp_mono this ?_
 intro e a' w' hp
 cases e with
 | normal => obtain ⟨g2, σ2, p1, p2, p3⟩ := hp; exact h2 σ2 p3 ok.2 hm g2 a' w' p1 p2
 | _ => exact hp
theorem AR_cutB {c : Ctx} {gen : Nat} {k : List It} {σ : St} {id : Nat} {x : Code} (J : St → Prop) (h1 : AR c gen (.code x :: .block id :: .inv J :: k) .normal σ)
  (h2 : ∀ σ', J σ' → AR c gen k .normal σ') : AR c gen (.code (.block id x) :: k) .normal σ := AR_cut J (AR_block h1) h2
theorem AR_cutC {c : Ctx} {gen : Nat} {k : List It} {σ : St} {t : Nat} {b : Bool} {x y : Code} (J : St → Prop) (ht : av c.env σ.tm (.tmp t) = .bool b)
  (h1 : b = true → AR c gen (.code x :: .inv J :: k) .normal σ) (h2 : b = false → AR c gen (.code y :: .inv J :: k) .normal σ)
  (h3 : ∀ σ', J σ' → AR c gen k .normal σ') : AR c gen (.code (.cond (.tmp t) x y) :: k) .normal σ := AR_cut J (AR_cond ht h1 h2) h3
theorem AR_cutS {c : Ctx} {gen : Nat} {k : List It} {σ : St} {id : Nat} {ops : Array Oper} {draw : Bool} {x : Code} (J : St → Prop)
  (h1 : AR c gen (.code (.region id ops draw) :: .code x :: .inv J :: k) .normal σ)
  (h2 : ∀ σ', J σ' → AR c gen k .normal σ') : AR c gen (.code (.seq (.region id ops draw) x) :: k) .normal σ := AR_cut J (AR_seq h1) h2
def optN : Option Int → V
 | some n => .tup [.int .i64 n, .bool true]
 | none => .tup [.int .i64 0, .bool false]
theorem optN_some {n : Int} : optN (some n) = .tup [.int .i64 n, .bool true] := rfl
theorem optN_none : optN none = .tup [.int .i64 0, .bool false] := rfl
attribute [go_sem] optN_some optN_none
def tyWant (k : Int) : Option Int := if k == 1 || k == 2 || k == 5 then some 0 else if k == 3 || k == 4 then some 2 else none
mutual
def Ty.nodes : Ty → Option Int
 | .mk k l => match tyWant k with
  | none => none
  | some w => if (l.length : Int) == w then Ty.nodesL 1 l else none
def Ty.nodesL : Int → List Ty → Option Int
 | n, [] => some n
 | n, t :: l => match t.nodes with | none => none | some k => Ty.nodesL (IntKind.i64.wrap (n + k)) l
end
theorem Ty.nodes_eq (t : Ty) : t.nodes = match tyWant t.kind with | none => none | some w => if (t.args.length : Int) == w then Ty.nodesL 1 t.args else none := by
 cases t; rw [Ty.nodes]; rfl
theorem Ty.nodesL_nil (n : Int) : Ty.nodesL n [] = some n := by rw [Ty.nodesL]
theorem Ty.nodesL_none {n : Int} {t : Ty} {l : List Ty} (h : t.nodes = none) : Ty.nodesL n (t :: l) = none := by rw [Ty.nodesL, h]
theorem Ty.nodesL_some {n k : Int} {t : Ty} {l : List Ty} (h : t.nodes = some k) : Ty.nodesL n (t :: l) = Ty.nodesL (IntKind.i64.wrap (n + k)) l := by rw [Ty.nodesL, h]
def chk (m : Int) : Option Int → Int × Int
 | none => (0, 2)
 | some n => if m < n then (0, 4) else (n, 0)
def two (p : Int × Int) : V := .tup [.int .i64 p.1, .int .i64 p.2]
def tyErr (t : Ty) : Int := (chk 64 t.nodes).2
def noType (t : Ty) : Bool := t.kind == 0 && (t.args.length : Int) == 0
def arities : List Int := [0, 0, 1, 2, 0, 1, 3, 0, 2, 3, 2, 1, 1, 0]
def arity (k : Int) : Option Int := if k < 1 ∨ 14 ≤ k then none else arities[k.toNat]?
def typed (k : Int) : Bool := k == 2 || k == 6 || k == 9
def tmHead (k i : Int) (t : Ty) (n : Int) : Bool :=
 match arity k with
 | none => false
 | some a => n == a && decide (0 ≤ i) && (i == 0 || k == 1) && (if typed k then tyErr t == 0 else noType t)
mutual
def Tm.nodes : Tm → Option Int
 | .mk k i t l => if tmHead k i t l.length then Tm.nodesL 1 l else none
def Tm.nodesL : Int → List Tm → Option Int
 | n, [] => some n
 | n, t :: l => match t.nodes with | none => none | some k => Tm.nodesL (IntKind.i64.wrap (n + k)) l
end
theorem Tm.nodes_eq (t : Tm) : t.nodes = if tmHead t.kind t.index t.type t.args.length then Tm.nodesL 1 t.args else none := by
 cases t; rw [Tm.nodes]; rfl
theorem Tm.nodesL_nil (n : Int) : Tm.nodesL n [] = some n := by rw [Tm.nodesL]
theorem Tm.nodesL_none {n : Int} {t : Tm} {l : List Tm} (h : t.nodes = none) : Tm.nodesL n (t :: l) = none := by rw [Tm.nodesL, h]
theorem Tm.nodesL_some {n k : Int} {t : Tm} {l : List Tm} (h : t.nodes = some k) : Tm.nodesL n (t :: l) = Tm.nodesL (IntKind.i64.wrap (n + k)) l := by rw [Tm.nodesL, h]
def fmWant (k : Int) : Option (Int × Int × Bool) :=
 if k == 1 then some (2, 0, false) else if k == 2 || k == 3 then some (0, 2, false) else if k == 4 || k == 5 || k == 6 || k == 7 then some (0, 1, true) else none
def formed (k : Int) (t : Ty) (n m : Int) : Bool :=
 match fmWant k with
 | none => false
 | some (a, b, ty) => (if ty then tyErr t == 0 else noType t) && n == a && m == b
mutual
def Fm.nodes : Fm → Option Int
 | .mk k t l a => if formed k t l.length a.length then (match Tm.nodesL 1 l with | none => none | some n => Fm.nodesL n a) else none
def Fm.nodesL : Int → List Fm → Option Int
 | n, [] => some n
 | n, t :: l => match t.nodes with | none => none | some k => Fm.nodesL (IntKind.i64.wrap (n + k)) l
end
theorem Fm.nodes_eq (t : Fm) : t.nodes = if formed t.kind t.type t.terms.length t.args.length then (match Tm.nodesL 1 t.terms with | none => none | some n => Fm.nodesL n t.args) else none := by
 cases t; rw [Fm.nodes]; rfl
theorem Fm.nodesL_nil (n : Int) : Fm.nodesL n [] = some n := by rw [Fm.nodesL]
theorem Fm.nodesL_none {n : Int} {t : Fm} {l : List Fm} (h : t.nodes = none) : Fm.nodesL n (t :: l) = none := by rw [Fm.nodesL, h]
theorem Fm.nodesL_some {n k : Int} {t : Fm} {l : List Fm} (h : t.nodes = some k) : Fm.nodesL n (t :: l) = Fm.nodesL (IntKind.i64.wrap (n + k)) l := by rw [Fm.nodesL, h]
def fmErr (f : Fm) : Int := (chk 4096 f.nodes).2
mutual
def Fm.uni : Fm → Bool
 | .mk k _ _ a => k == 6 || k == 7 || Fm.uniL a
def Fm.uniL : List Fm → Bool
 | [] => false
 | f :: l => f.uni || Fm.uniL l
end
theorem drop_get {α : Type} {l : List α} {i : Nat} {x : α} (h : l[i]? = some x) : l.drop i = x :: l.drop (i + 1) := by
 have hlt := (List.getElem?_eq_some_iff.1 h).1
 rw [List.drop_eq_getElem_cons hlt]
 congr 1
 exact (List.getElem?_eq_some_iff.1 h).2
end GoAbs
