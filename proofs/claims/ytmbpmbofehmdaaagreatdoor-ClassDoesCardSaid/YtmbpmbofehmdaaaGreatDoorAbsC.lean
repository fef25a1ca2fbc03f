/-
 The abstract layer: loops, makers, the row.
-/
import Derived.Test.YtmbpmbofehmdaaaGreatDoorAbsB
import Derived.ProofKit
import Derived.ChangeStays
import Derived.ChangeSlices
import Derived.LaidMore
import Derived.OpenShut
import Derived.Stop.Joined
import Derived.Deep.Slices
set_option linter.unusedSimpArgs false
set_option linter.unusedVariables false
set_option linter.unusedSectionVars false
namespace GoAbs
open Go
theorem AR_gen2 {c : Ctx} {gen : Nat} {k : List It} {σ : St} {e : Exit} (h : ∀ gn, gen < gn → (∀ id, σ.h id ≠ none → id.gen < gn) → AR c gn k e σ) : AR c gen k e σ :=
 fun ok hm g a w hx r => h (max g.top (gen + 1)) (by omega) (fun id hid => Nat.lt_of_lt_of_le (r.rel.top id hid) (by omega)) ok hm g a w hx r
theorem gen_lt {g gn : Nat} (h : g < gn) : (g = gn) = False := by simp only [eq_iff_iff, iff_false]; omega
theorem gen_lt' {g gn : Nat} (h : g < gn) : (gn = g) = False := by simp only [eq_iff_iff, iff_false]; omega
def Stays (T : List Nat) (B : List Id) (σ0 σ : St) : Prop := (∀ t ∈ T, σ.tm t = σ0.tm t) ∧ ∀ b ∈ B, σ.h b = σ0.h b
@[go_sem] theorem Stays_eq (T : List Nat) (B : List Id) (σ0 σ : St) : Stays T B σ0 σ = ((∀ t ∈ T, σ.tm t = σ0.tm t) ∧ ∀ b ∈ B, σ.h b = σ0.h b) := rfl
theorem Stays.refl (T : List Nat) (B : List Id) (σ : St) : Stays T B σ σ := ⟨fun _ _ => rfl, fun _ _ => rfl⟩
theorem Stays.upd {T : List Nat} {B : List Id} {σ0 σ : St} (h : Stays T B σ0 σ) {t : Nat} (ht : T.contains t = false) (v : V) : Stays T B σ0 ⟨upd σ.tm (some t) v, σ.h⟩ :=
  ⟨fun j hj => by
    have : j ≠ t := by intro e; subst e; simp at ht; exact ht hj
    simp only [upd_at, if_neg this]; exact h.1 j hj, h.2⟩

theorem AR_range {c : Ctx} {gen : Nat} {k : List It} {σ0 : St} {B C r0 r9 tc tI tN ta y0 y1 y2 y3 y4 y5 : Nat} {p1 p2 p3 : String} {a1 a2 a3 : Array Edge} {body : Code}
    (T : List Nat) (Bx : List Id) (K : Nat → St → Prop) (n : Nat) (hn : n ≤ 4611686018427387904)
    (hT : T.contains tc = false ∧ T.contains ta = false ∧ T.contains tI = false) (hd : (tI == tc || tI == ta || tN == tc || tN == ta || tN == tI || tc == ta) = false)
    (hI : σ0.tm tI = .int .i64 0) (hN : σ0.tm tN = .int .i64 n) (hK : K 0 σ0)
    (hs : ∀ i σ t v, t ∈ [tc, ta, tI] → K i σ → K i ⟨upd σ.tm (some t) v, σ.h⟩)
    (round : ∀ i σ gn, gen < gn → (∀ id, σ.h id ≠ none → id.gen < gn) → i < n → σ.tm tI = .int .i64 i → σ.tm tN = .int .i64 n → Stays T Bx σ0 σ → K i σ →
      AR c gn (.code body :: .block C :: .inv (fun σ2 => σ2.tm tI = .int .i64 i ∧ σ2.tm tN = .int .i64 n ∧ Stays T Bx σ0 σ2 ∧ K (i + 1) σ2) :: .block B :: k) .normal σ)
    (after : ∀ σ gn, gen < gn → (∀ id, σ.h id ≠ none → id.gen < gn) → Stays T Bx σ0 σ → K n σ → AR c gn k .normal σ) :
    AR c gen (.code (.loop (.seq (.region r0 #[{ dst := some tc, op := .binOp .lss y0 (.tmp tI) (.tmp tN) y1, type := y2, pos := p1, after := a1, guard := none }] false)
      (.seq (.cond (.tmp tc) .skip (.exit B)) (.seq (.block C body) (.region r9 #[{ dst := some ta, op := .binOp .add y3 (.tmp tI) (.const (.int .i64 1)) y4, type := y5, pos := p2, after := a2, guard := none },
        { dst := some tI, op := .move (.tmp ta), type := y5, pos := p3, after := a3, guard := none }] false))))) :: .block B :: k) .normal σ0 := by
  simp only [Bool.or_eq_false_iff, beq_eq_false_iff_ne, ne_eq] at hd
  obtain ⟨⟨⟨⟨⟨d1, d2⟩, d3⟩, d4⟩, d5⟩, d6⟩ := hd
  refine AR_loop_nat (fun i σ => σ.tm tI = .int .i64 i ∧ σ.tm tN = .int .i64 n ∧ Stays T Bx σ0 σ ∧ K i σ) n ⟨hI, hN, Stays.refl _ _ _, hK⟩ ?_
  intro i σ hi ⟨j1, j2, j3, j4⟩
  refine AR_seq (AR_region ?_)
  simp only [go_sem, j1, j2]
  refine AR_seq ?_
  have j4' := hs i σ tc (.bool (decide ((i : Int) < n))) (by simp) j4
  have j3' := j3.upd hT.1 (.bool (decide ((i : Int) < n)))
  refine AR_cond (b := decide ((i : Int) < n)) (by simp [av, upd_at]) (fun hc => AR_skip ?_) (fun hc => AR_exit ?_)
  · simp at hc
    refine AR_seq (AR_block ?_)
    have hgo : AR c gen (.code body :: .block C :: .inv (fun σ2 => σ2.tm tI = .int .i64 i ∧ σ2.tm tN = .int .i64 n ∧ Stays T Bx σ0 σ2 ∧ K (i + 1) σ2) :: .block B :: k) .normal
        ⟨upd σ.tm (some tc) (.bool (decide ((i : Int) < n))), σ.h⟩ := by
      refine AR_gen2 (fun gn h1 h2 => round i _ gn h1 h2 hc ?_ ?_ j3' j4')
      · simp only [upd_at, if_neg d1]; exact j1
      · simp only [upd_at, if_neg d3]; exact j2
    have key : AR c gen (.code body :: .block C :: .inv (fun σ2 => σ2.tm tI = .int .i64 i ∧ σ2.tm tN = .int .i64 n ∧ Stays T Bx σ0 σ2 ∧ K (i + 1) σ2) ::
        .code (.region r9 #[{ dst := some ta, op := .binOp .add y3 (.tmp tI) (.const (.int .i64 1)) y4, type := y5, pos := p2, after := a2, guard := none },
          { dst := some tI, op := .move (.tmp ta), type := y5, pos := p3, after := a3, guard := none }] false) ::
        .inv (fun σ2 => i < n ∧ σ2.tm tI = .int .i64 ((i + 1 : Nat) : Int) ∧ σ2.tm tN = .int .i64 n ∧ Stays T Bx σ0 σ2 ∧ K (i + 1) σ2) :: .block B :: k) .normal
        ⟨upd σ.tm (some tc) (.bool (decide ((i : Int) < n))), σ.h⟩ := by
      intro ok hm g a w hx r
      simp only [okStk, Bool.and_eq_true] at ok
      have := hgo (by simp [okStk, ok.1, ok.2.2]) hm g a w hx r
      simp only [postI] at this ⊢
      refine wp_mono this ?_
      intro e a' w' hp
      cases e <;> exact hp
    have h2 : ∀ σ' : St, (σ'.tm tI = .int .i64 i ∧ σ'.tm tN = .int .i64 n ∧ Stays T Bx σ0 σ' ∧ K (i + 1) σ') →
        AR c gen (.code (.region r9 #[{ dst := some ta, op := .binOp .add y3 (.tmp tI) (.const (.int .i64 1)) y4, type := y5, pos := p2, after := a2, guard := none },
          { dst := some tI, op := .move (.tmp ta), type := y5, pos := p3, after := a3, guard := none }] false) ::
        .inv (fun σ2 => i < n ∧ σ2.tm tI = .int .i64 ((i + 1 : Nat) : Int) ∧ σ2.tm tN = .int .i64 n ∧ Stays T Bx σ0 σ2 ∧ K (i + 1) σ2) :: .block B :: k) .normal σ' := by
      intro σ' ⟨q1, q2, q3, q4⟩
      refine AR_region ?_
      simp only [go_sem, q1, q2]
      refine AR_inv ⟨hc, ?_, ?_, ?_, ?_⟩
      · simp only [upd_at, if_true]
        rw [wrap_small (by omega) (by omega)]; simp
      · simp only [upd_at, if_neg d5, if_neg d4]; exact q2
      · exact (q3.upd hT.2.1 _).upd hT.2.2 _
      · exact hs _ _ tI _ (by simp) (hs _ _ ta _ (by simp) q4)
    intro ok hm g a w hx r
    simp only [okStk, Bool.and_eq_true] at ok
    have := key (by simp only [okStk, Bool.and_eq_true]; exact ⟨ok.1, ok.2⟩) hm g a w hx r
    simp only [postI] at this ⊢
    refine wp_mono this ?_
    intro e a' w' hp
    cases e with
    | normal => 
      obtain ⟨g2, σ2, p1, p2, p3⟩ := hp
      exact h2 σ2 p3 (by simp only [okStk, Bool.and_eq_true]; exact ok.2) hm g2 a' w' p1 p2
    | exit id =>
      simp only [postI] at hp ⊢
      split at hp
      · rename_i e
        obtain ⟨g2, σ2, p1, p2, p3⟩ := hp
        rw [if_pos e]
        exact h2 σ2 p3 (by simp only [okStk, Bool.and_eq_true]; exact ok.2) hm g2 a' w' p1 p2
      · rename_i e
        rw [if_neg e]; exact hp
    | _ => exact hp
  · simp at hc
    obtain rfl : i = n := by omega
    exact AR_code_exit (AR_inv_exit (AR_block_hit (AR_gen2 (fun gn h1 h2 => after _ gn h1 h2 j3' j4'))))

theorem hset_twice {h : H} {a : Id} {x y : Obj} : hset (hset h a x) a y = hset h a y := by
 funext j; simp only [hset]; split <;> rfl
attribute [go_sem] hset_twice
theorem splice5 {cs : List V} {a b c d e : V} (h : cs.length = 5) : splice cs 0 [a, b, c, d, e] = [a, b, c, d, e] := splice_full (by rw [h]; rfl)
theorem splice2 {cs : List V} {a b : V} (h : cs.length = 2) : splice cs 0 [a, b] = [a, b] := splice_full (by rw [h]; rfl)
theorem splice4 {cs : List V} {a b c d : V} (h : cs.length = 4) : splice cs 0 [a, b, c, d] = [a, b, c, d] := splice_full (by rw [h]; rfl)
attribute [go_sem] List.append_eq
attribute [go_sem] splice5 splice2 splice4
theorem Rel.weakBox {env : Nat → Option (List V)} {g : G} {w : World} {h : H} (r : Rel env g w h) {id : Id} {cs : List V} (hb : h id = some (.box cs)) :
    Rel env g w (hset h id (.box (weakL cs))) where
  dom := fun i => by
    by_cases e : i = id
    · subst e; rw [hset_same, r.dom, hb]; simp
    · rw [hset_other e]; exact r.dom i
  top := fun i hi => by
    by_cases e : i = id
    · subst e; exact r.top _ (by rw [hb]; simp)
    · rw [hset_other e] at hi; exact r.top i hi
  box := fun i cs' hi => by
    by_cases e : i = id
    · subst e
      rw [hset_same] at hi
      simp only [Option.some.injEq, Obj.box.injEq] at hi
      subst hi
      obtain ⟨vs, h1, h2, h3, h4, h5⟩ := r.box i cs hb
      exact ⟨vs, h1, by rw [weakL_length]; exact h2, fun j c v hc hv => by
        obtain ⟨u, hu, rfl⟩ := weakL_get hv
        exact (h3 j c u hc hu).weak, h4, h5⟩
    · rw [hset_other e] at hi; exact r.box i cs' hi
  inj := fun i i' c c' hi hi' hl => by
    have hx : ∀ j c, hset h id (.box (weakL cs)) j = some (.box c) → ∃ c2, h j = some (.box c2) := by
      intro j c hj
      by_cases e : j = id
      · subst e; exact ⟨cs, hb⟩
      · rw [hset_other e] at hj; exact ⟨c, hj⟩
    obtain ⟨c2, h2⟩ := hx i c hi
    obtain ⟨c3, h3⟩ := hx i' c' hi'
    exact r.inj i i' c2 c3 h2 h3 hl
  tok := fun i n k hi => by
    have e : i ≠ id := by intro e; subst e; rw [hset_same] at hi; simp at hi
    rw [hset_other e] at hi; exact r.tok i n k hi
  apart := fun i i' n k c hi hn hi' a ha => by
    have e : i ≠ id := by intro e; subst e; rw [hset_same] at hi; simp at hi
    rw [hset_other e] at hi
    by_cases e' : i' = id
    · subst e'; exact r.apart i i' n k cs hi hn hb a ha
    · rw [hset_other e'] at hi'; exact r.apart i i' n k c hi hn hi' a ha
  apart2 := fun i i' n n' k k' hi hn hi' hn' a a' ha ha' hbk => by
    have e : i ≠ id := by intro e; subst e; rw [hset_same] at hi; simp at hi
    have e' : i' ≠ id := by intro e; subst e; rw [hset_same] at hi'; simp at hi'
    rw [hset_other e] at hi; rw [hset_other e'] at hi'
    exact r.apart2 i i' n n' k k' hi hn hi' hn' a a' ha ha' hbk
  limnew := r.limnew
  glob := r.glob

theorem AR_weakBox {c : Ctx} {gen : Nat} {k : List It} {e : Exit} {σ : St} (id : Id) {cs : List V} (hb : σ.h id = some (.box cs))
  (h : AR c gen k e ⟨σ.tm, hset σ.h id (.box (weakL cs))⟩) : AR c gen k e σ :=
 fun ok hm g a w hx r => h ok hm g a w hx ⟨r.rel.weakBox hb, r.tm, r.size, r.defers⟩
def isBox : Option Obj → Bool
 | some (.box _) => true
 | _ => false
@[go_sem] theorem isBox_box {cs : List V} : isBox (some (.box cs)) = true := rfl
def Keeps (h k : H) : Prop := ∀ id n q, h id = some (.tok n q) → k id = some (.tok n q)
theorem Keeps.refl (h : H) : Keeps h h := fun _ _ _ e => e
theorem Keeps.new {h k : H} (a : Keeps h k) {id : Id} {o : Obj} (hn : h id = none) : Keeps h (hset k id o) := fun i n q e => by
 rw [hset_other (by intro e2; rw [e2, hn] at e; cases e)]; exact a i n q e
theorem Keeps.box {h k : H} (a : Keeps h k) {id : Id} {o : Obj} (hn : isBox (h id) = true) : Keeps h (hset k id o) := fun i n q e => by
 rw [hset_other (by intro e2; rw [e2] at e; rw [e] at hn; cases hn)]; exact a i n q e
theorem OwnS.keep {h0 h k : H} {v : V} {n : Nat} {es : List (List V)} (a : OwnS h0 h v n es) (b : Keeps h k) : OwnS h0 k v n es := by
 rcases a with a | ⟨i, h1, h2, h3⟩
 ·exact .inl a
 ·exact .inr ⟨i, h1, b _ _ _ h2, h3⟩
theorem okE_app_own {P : Program} {env : Nat → Option (List V)} {ops : Array Oper} {draw : Bool} {gen reg : Nat} {rest : List Oper} {i : Nat} {log : List LogE} {Kc : St → Prop}
    {tm : Nat → V} {hp hq h0 : H} {dst : Option Nat} {s : V} {es xs : List (List V)} {cc : Cap} {T U : TyI} {nid : Id} {k : Nat}
    (hown' : OwnS h0 hq s k es) (hkp : Keeps hq hp) (hk : k = T.esize)
    (hc : T.kind = 4 ∧ U.kind = 4 ∧ T.esize ≠ 0 ∧ T.ezero.length = T.esize ∧ es.all (fun e => e.length == T.esize) = true ∧ xs.all (fun e => e.length == T.esize) = true ∧
        xs.flatten.all oneV = true ∧ (es.length + xs.length) * T.ebytes ≤ 140737488355328 ∧ es.length + xs.length ≤ 140737488355328)
    (h1 : h0 nid = none) (h2 : hp nid = none) (hl : draw = true → ∀ e : Eff, logOk ops i e log)
    (next : ∀ v' h' log', OwnS h0 h' v' k (es ++ xs) → (∀ j, isBox (hp j) = true → h' j = hp j) → (Agree h0 hp → Agree h0 h') → (∀ d, AgreeBut d h0 hp → AgreeBut d h0 h') →
      (∀ j, j ≠ nid → hp j = none → h' j = none) → aops P env ops draw gen reg rest (i + 1) log' Kc ⟨upd tm dst v', h'⟩) :
    okE P env ops draw gen reg rest dst i log Kc ⟨tm, hp⟩ (appE (some T) (some U) s (.sl cc xs) hp nid) := by
  have hown := hown'.keep hkp
  have go : ∀ id o, (hp id = none ∨ ∃ n q, hp id = some (.tok n q)) → h0 id = none → (hp id = none → id = nid) → (∀ j, isBox (hp j) = true → hset hp id o j = hp j) ∧
      (Agree h0 hp → Agree h0 (hset hp id o)) ∧ (∀ d, AgreeBut d h0 hp → AgreeBut d h0 (hset hp id o)) ∧ (∀ j, j ≠ nid → hp j = none → hset hp id o j = none) := by
    intro id o hid h0id hn
    refine ⟨fun j hj => ?_, fun a => a.new h0id, fun d a => a.new h0id, fun j hj hjn => ?_⟩
    · have : j ≠ id := by
        intro e; subst e
        rcases hid with h | ⟨n, q, h⟩ <;> rw [h] at hj <;> simp [isBox] at hj
      exact hset_other this
    · have : j ≠ id := by
        intro e; subst e
        exact hj (hn hjn)
      rw [hset_other this]; exact hjn
  rcases hown with rfl | ⟨id, rfl, h3, h4⟩
  · simp only [appE]
    rw [if_pos hc]
    simp only [h2, okE, happly, St.put]
    obtain ⟨g1, g2, g3, g4⟩ := go nid (.tok (es.length + xs.length) T.esize) (.inl h2) h1 (fun _ => rfl)
    exact ⟨fun hd => hl hd _, next _ _ _ (.inr ⟨nid, rfl, by rw [hset_same, List.length_append, hk], h1⟩) g1 g2 g3 g4⟩
  · simp only [appE]
    rw [if_pos hc]
    simp only [h3, hk, and_self, if_true, okE, happly, St.put]
    obtain ⟨g1, g2, g3, g4⟩ := go id (.tok (es.length + xs.length) T.esize) (.inr ⟨_, _, h3⟩) h4 (fun e => by rw [e] at h3; cases h3)
    exact ⟨fun hd => hl hd _, next _ _ _ (.inr ⟨id, rfl, by rw [hset_same, List.length_append, hk], h4⟩) g1 g2 g3 g4⟩

theorem rnd {h k : H} {gn gen : Nat} (hgn : ∀ id, k id ≠ none → id.gen < gn) (hl : gen < gn) (jA : Agree h k) : (∀ r i, k ⟨gn, r, i⟩ = none) ∧ (∀ r i, h ⟨gn, r, i⟩ = none) ∧ (gen = gn) = False ∧ (gn = gen) = False :=
 ⟨fresh_of hgn, fun r i => agree_fresh jA (fresh_of hgn r i), gen_lt hl, gen_lt' hl⟩
theorem rnx {α : Type} {l : List α} {i : Nat} (h : i < l.length) : ∃ x, l[i]? = some x ∧ x ∈ l ∧ min i l.length = i :=
 ⟨_, List.getElem?_eq_getElem h, List.getElem_mem h, min_lt h⟩
theorem ag_ {h k : H} (a : Agree h k := by repeat (first|exact Agree.refl _|assumption|refine Agree.new ?_ (hgf0 _ _)|refine Agree.new ?_ (hfr' _ _))) : Agree h k := a
theorem ar_ {c : Ctx} {gen : Nat} {k : List It} {σ0 : St} {B C r0 r9 tc tI tN ta y0 y1 y2 y3 y4 y5 : Nat} {p1 p2 p3 : String} {a1 a2 a3 : Array Edge} {body : Code} (T : List Nat) (Bx : List Id) (K : Nat → St → Prop) (n : Nat) (hK : K 0 σ0)
    (round : ∀ i σ gn, gen < gn → (∀ id, σ.h id ≠ none → id.gen < gn) → i < n → σ.tm tI = .int .i64 i → σ.tm tN = .int .i64 n → Stays T Bx σ0 σ → K i σ →
      AR c gn (.code body :: .block C :: .inv (fun σ2 => σ2.tm tI = .int .i64 i ∧ σ2.tm tN = .int .i64 n ∧ Stays T Bx σ0 σ2 ∧ K (i + 1) σ2) :: .block B :: k) .normal σ)
    (after : ∀ σ gn, gen < gn → (∀ id, σ.h id ≠ none → id.gen < gn) → Stays T Bx σ0 σ → K n σ → AR c gn k .normal σ)
    (hn : n ≤ 4611686018427387904 := by first | omega | (simp only [go_sem, *] <;> omega))
    (hT : T.contains tc = false ∧ T.contains ta = false ∧ T.contains tI = false := by exact ⟨rfl, rfl, rfl⟩) (hd : (tI == tc || tI == ta || tN == tc || tN == ta || tN == tI || tc == ta) = false := by rfl)
    (hI : σ0.tm tI = .int .i64 0 := by simp only [go_sem, *]) (hN : σ0.tm tN = .int .i64 n := by simp only [go_sem, *])
    (hs : ∀ i σ t v, t ∈ [tc, ta, tI] → K i σ → K i ⟨upd σ.tm (some t) v, σ.h⟩ := by intro i σ t v ht hK; simp only [List.mem_cons, List.not_mem_nil, or_false] at ht; rcases ht with rfl | rfl | rfl <;> exact hK) :
    AR c gen (.code (.loop (.seq (.region r0 #[{ dst := some tc, op := .binOp .lss y0 (.tmp tI) (.tmp tN) y1, type := y2, pos := p1, after := a1, guard := none }] false)
      (.seq (.cond (.tmp tc) .skip (.exit B)) (.seq (.block C body) (.region r9 #[{ dst := some ta, op := .binOp .add y3 (.tmp tI) (.const (.int .i64 1)) y4, type := y5, pos := p2, after := a2, guard := none },
        { dst := some tI, op := .move (.tmp ta), type := y5, pos := p3, after := a3, guard := none }] false))))) :: .block B :: k) .normal σ0 := AR_range T Bx K n hn hT hd hI hN hK hs round after

inductive TyW : Ty → Prop
 | mk (k : Int) (l : List Ty) (h : l.length ≤ 100000) (r : ∀ x ∈ l, TyW x) : TyW (.mk k l)
theorem TyW.len {t : Ty} (h : TyW t) : t.args.length ≤ 100000 := by cases h; assumption
theorem TyW.arg {t x : Ty} (h : TyW t) (hx : x ∈ t.args) : TyW x := by cases h with | mk k l h r => exact r x hx
inductive TmW : Tm → Prop
 | mk (k i : Int) (t : Ty) (l : List Tm) (ht : TyW t) (h : l.length ≤ 100000) (r : ∀ x ∈ l, TmW x) : TmW (.mk k i t l)
theorem TmW.len {t : Tm} (h : TmW t) : t.args.length ≤ 100000 := by cases h; assumption
theorem TmW.ty {t : Tm} (h : TmW t) : TyW t.type := by cases h; assumption
theorem TmW.arg {t x : Tm} (h : TmW t) (hx : x ∈ t.args) : TmW x := by cases h with | mk k i t l ht h r => exact r x hx
inductive FmW : Fm → Prop
 | mk (k : Int) (t : Ty) (l : List Tm) (a : List Fm) (ht : TyW t) (h : l.length ≤ 100000) (hl : ∀ x ∈ l, TmW x) (h' : a.length ≤ 100000) (r : ∀ x ∈ a, FmW x) : FmW (.mk k t l a)
theorem FmW.len {t : Fm} (h : FmW t) : t.args.length ≤ 100000 := by cases h; assumption
theorem FmW.tlen {t : Fm} (h : FmW t) : t.terms.length ≤ 100000 := by cases h; assumption
theorem FmW.ty {t : Fm} (h : FmW t) : TyW t.type := by cases h; assumption
theorem FmW.arg {t x : Fm} (h : FmW t) (hx : x ∈ t.args) : FmW x := by cases h with | mk k t l a ht h hl h' r => exact r x hx
theorem FmW.term {t : Fm} {x : Tm} (h : FmW t) (hx : x ∈ t.terms) : TmW x := by cases h with | mk k t l a ht h hl h' r => exact hl x hx
def bothC (a b : Ty) : List V := [.int .i64 a.kind, .sl .any (a.args.map Ty.cells), .int .i64 b.kind, .sl .any (b.args.map Ty.cells)]
@[go_sem] theorem bothC_len (a b : Ty) : (bothC a b).length = 4 := rfl
@[go_sem] theorem bothC_all (a b : Ty) : (bothC a b).all oneV = true := rfl
@[go_sem] theorem bothC_take0 (a b : Ty) : List.take 2 (bothC a b) = a.cells := by rw [Ty.cells_eq]; rfl
@[go_sem] theorem bothC_take2 (a b : Ty) : List.take 2 (List.drop 2 (bothC a b)) = b.cells := by rw [Ty.cells_eq]; rfl
@[go_sem] theorem bothC_take4 (a b : Ty) : List.take 4 (bothC a b) = bothC a b := rfl
@[go_sem] theorem bothC_splice {cs : List V} {a b : Ty} (h : cs.length = 4) : splice cs 0 (bothC a b) = bothC a b := splice_full (by rw [h]; rfl)
@[go_sem] theorem bothC_weak (a b : Ty) : weakL (bothC a b) = bothC a b := by simp only [bothC, weakL, weak, weakLL_Ty]
@[go_sem] theorem bothC_in {S : GoAbs.Id → Prop} (a b : Ty) : InL S (bothC a b) = True := by simp [bothC, InL, InV, capIn, InLL_Ty]
@[go_sem] theorem range0 : List.range 0 = [] := rfl
def tZero : Ty := .mk 0 []
def sized (a b : Ty) : (Ty × Ty) × Int := if tyErr a ≠ 0 then ((tZero, tZero), tyErr a) else if tyErr b ≠ 0 then ((tZero, tZero), tyErr b) else ((a, b), 0)
@[go_sem] def bothV (p : (Ty × Ty) × Int) : V := .tup [.agg (bothC p.1.1 p.1.2), .int .i64 p.2]
def bothP (p : Ty × Ty) : List V := bothC p.1 p.2
@[go_sem] theorem bothP_eq (p : Ty × Ty) : bothP p = bothC p.1 p.2 := rfl
@[go_sem] theorem bothP_all_len (l : List (Ty × Ty)) : (l.map bothP).all (fun e => e.length == 4) = true := by simp [bothP_eq, bothC_len]
theorem tUnit_W : TyW tUnit := .mk _ _ (by simp) (by simp)
theorem tZero_W : TyW tZero := .mk _ _ (by simp) (by simp)
def chCase (k : Int) (t : Ty) (ps : List (Ty × Ty)) : Ty × Ty :=
  if k == 2 then (chPair (ps.getD 0 (tZero, tZero)).1 (ps.getD 1 (tZero, tZero)).1, chPair (ps.getD 0 (tZero, tZero)).2 (ps.getD 1 (tZero, tZero)).2)
  else if k == 3 then (chPair (chFun (ps.getD 0 (tZero, tZero)).1 (ps.getD 1 (tZero, tZero)).1) (chFun (ps.getD 0 (tZero, tZero)).1 (chFun (ps.getD 1 (tZero, tZero)).2 (ps.getD 0 (tZero, tZero)).2)),
    chPair (ps.getD 0 (tZero, tZero)).1 (ps.getD 1 (tZero, tZero)).2)
  else if k == 4 then (chFun t (ps.getD 0 (tZero, tZero)).1, chPair t (ps.getD 0 (tZero, tZero)).2)
  else if k == 5 then (chPair t (ps.getD 0 (tZero, tZero)).1, (ps.getD 0 (tZero, tZero)).2)
  else (tUnit, tUnit)

mutual
def Fm.ch : Fm → (Ty × Ty) × Int
 | .mk k t _ a => Fm.chL k t [] a
def Fm.chL (k : Int) (t : Ty) (ps : List (Ty × Ty)) : List Fm → (Ty × Ty) × Int
 | [] => sized (chCase k t ps).1 (chCase k t ps).2
 | f :: l => if f.ch.2 == 0 then Fm.chL k t (ps ++ [f.ch.1]) l else ((tZero, tZero), f.ch.2)
end
@[go_sem] def tyErrV (p : Ty × Int) : V := .tup [.agg p.1.cells, .int .i64 p.2]
def Fm.look (f : Fm) : (Ty × Ty) × Int := if fmErr f == 0 then (if f.uni then ((tZero, tZero), 41) else f.ch) else ((tZero, tZero), fmErr f)
@[go_sem] def Fm.witness (f : Fm) : Ty × Int := (f.look.1.1, f.look.2)
@[go_sem] def Fm.challenge (f : Fm) : Ty × Int := (f.look.1.2, f.look.2)
theorem Fm.ok_nodes {f : Fm} (h : fmErr f = 0) : f.nodes ≠ none := by
 intro e; rw [fmErr, e] at h; simp [chk] at h
theorem lst1 {α : Type} {l : List α} (h : l.length = 1) : ∃ a, l = [a] := by
 match l, h with
 | [a], _ => exact ⟨a, rfl⟩
theorem lst2 {α : Type} {l : List α} (h : l.length = 2) : ∃ a b, l = [a, b] := by
 match l, h with
 | [a, b], _ => exact ⟨a, b, rfl⟩
theorem wrap_eq {n m : Int} (h : n = m) (h0 : -9223372036854775808 ≤ m) (h1 : m ≤ 9223372036854775807) : IntKind.i64.wrap n = m := by subst h; exact wrap_small h0 h1
def numT : Nat → Tm
 | 0 => tm0 4 []
 | n + 1 => tm0 5 [numT n]
theorem tm0_W {k : Int} {l : List Tm} (hl : l.length ≤ 1000) (h : ∀ x ∈ l, TmW x) : TmW (tm0 k l) := .mk _ _ _ _ tZero_W (by omega) h
theorem numT_W : ∀ n, TmW (numT n)
 | 0 => tm0_W (by simp) (by simp)
 | n + 1 => tm0_W (by simp) (by simp [numT_W n])
def appTm (f : Tm) : List Tm → Tm
 | [] => f
 | a :: l => appTm (tm0 3 [f, a]) l
theorem appTm_cons {f a : Tm} {l : List Tm} : appTm f (a :: l) = appTm (tm0 3 [f, a]) l := rfl
theorem appTm_nil {f : Tm} : appTm f [] = f := rfl
theorem tNat_W : TyW tNat := .mk _ _ (by simp) (by simp)
theorem tList_W : TyW tList := .mk _ _ (by simp) (by simp)
theorem tPair_W {a b : Ty} (ha : TyW a) (hb : TyW b) : TyW (tPair a b) := .mk _ _ (by simp) (by simp [ha, hb])
theorem tFun_W {a b : Ty} (ha : TyW a) (hb : TyW b) : TyW (tFun a b) := .mk _ _ (by simp) (by simp [ha, hb])
theorem tmT_W {k : Int} {t : Ty} {l : List Tm} (ht : TyW t) (hl : l.length ≤ 1000) (h : ∀ x ∈ l, TmW x) : TmW (tmT k t l) := .mk _ _ _ _ ht (by omega) h
theorem tmT_W1 {k : Int} {t : Ty} {a : Tm} (ht : TyW t) (h : TmW a) : TmW (tmT k t [a]) := tmT_W ht (by simp) (by simp [h])
theorem tmT_W3 {k : Int} {t : Ty} {a b c : Tm} (ht : TyW t) (h1 : TmW a) (h2 : TmW b) (h3 : TmW c) : TmW (tmT k t [a, b, c]) := tmT_W ht (by simp) (by simp [h1, h2, h3])
theorem tmVar_W (i : Int) : TmW (tmVar i) := .mk _ _ _ _ tZero_W (by simp) (by simp)
def lamN (t : Tm) : Tm := tmT 2 tNat [t]
def recN (b f n : Tm) : Tm := tmT 6 tNat [b, f, n]
theorem lamN_W {t : Tm} (h : TmW t) : TmW (lamN t) := tmT_W tNat_W (by simp) (by simp [h])
theorem recN_W {b f n : Tm} (h1 : TmW b) (h2 : TmW f) (h3 : TmW n) : TmW (recN b f n) := tmT_W tNat_W (by simp) (by simp [h1, h2, h3])
theorem tm0_W0 {k : Int} : TmW (tm0 k []) := tm0_W (by simp) (by simp)
theorem tm0_W1 {k : Int} {a : Tm} (h1 : TmW a) : TmW (tm0 k [a]) := tm0_W (by simp) (by simp [h1])
theorem tm0_W2 {k : Int} {a b : Tm} (h1 : TmW a) (h2 : TmW b) : TmW (tm0 k [a, b]) := tm0_W (by simp) (by simp [h1, h2])
theorem tm0_W3 {k : Int} {a b c : Tm} (h1 : TmW a) (h2 : TmW b) (h3 : TmW c) : TmW (tm0 k [a, b, c]) := tm0_W (by simp) (by simp [h1, h2, h3])
def predT : Tm := lamN (recN (tm0 4 []) (lamN (lamN (tmVar 1))) (tmVar 0))
theorem predT_W : TmW predT := lamN_W (recN_W tm0_W0 (lamN_W (lamN_W (tmVar_W _))) (tmVar_W _))
def plusT : Tm := lamN (lamN (recN (tmVar 1) (lamN (lamN (tm0 5 [tmVar 0]))) (tmVar 0)))
theorem plusT_W : TmW plusT := lamN_W (lamN_W (recN_W (tmVar_W _) (lamN_W (lamN_W (tm0_W1 (tmVar_W _)))) (tmVar_W _)))
def subT : Tm := lamN (lamN (recN (tmVar 1) (lamN (lamN (tm0 3 [predT, tmVar 0]))) (tmVar 0)))
theorem subT_W : TmW subT := lamN_W (lamN_W (recN_W (tmVar_W _) (lamN_W (lamN_W (tm0_W2 predT_W (tmVar_W _)))) (tmVar_W _)))
def nextD (l : List Int) (a : Nat) (n : Int) : Int × Nat := if n < 1 ∨ l.length ≤ a then (0, a) else (modI (l.getD a 0) n, a + 1)
def deckC (l : List Int) (a : Nat) : List V := [.sl .any (ints l), .int .i64 a]
@[go_sem] theorem deckC_in {S : Id → Prop} (l : List Int) (a : Nat) : InL S (deckC l a) = True := by simp [deckC, InL, InV, capIn, InLL_ints]
def mkType (l : List Int) : Nat → Nat → Ty × Nat
 | 0, a => (if (nextD l a 7).1 == 3 then tList else if (nextD l a 7).1 == 4 then tUnit else tNat, (nextD l a 7).2)
 | n + 1, a =>
  if (nextD l a 7).1 == 3 then (tList, (nextD l a 7).2) else if (nextD l a 7).1 == 4 then (tUnit, (nextD l a 7).2)
  else if (nextD l a 7).1 == 5 then
   (tPair (mkType l n (nextD l a 7).2).1 (mkType l n (mkType l n (nextD l a 7).2).2).1, (mkType l n (mkType l n (nextD l a 7).2).2).2)
  else if (nextD l a 7).1 == 6 then
   (tFun (mkType l n (nextD l a 7).2).1 (mkType l n (mkType l n (nextD l a 7).2).2).1, (mkType l n (mkType l n (nextD l a 7).2).2).2)
  else (tNat, (nextD l a 7).2)
theorem mkType_W {l : List Int} : ∀ (n a : Nat), TyW (mkType l n a).1
  | 0, a => by rw [mkType]; repeat' split
               all_goals first|exact tNat_W|exact tList_W|exact tUnit_W
  | n + 1, a => by
    rw [mkType]; repeat' split
    all_goals first|exact tNat_W|exact tList_W|exact tUnit_W|exact tPair_W (mkType_W _ _) (mkType_W _ _)|exact tFun_W (mkType_W _ _) (mkType_W _ _)
theorem kinds7 (c : Int) : c = 0 ∨ c = 1 ∨ c = 2 ∨ c = 3 ∨ c = 4 ∨ c = 5 ∨ c = 6 ∨
  ((c == 0) = false ∧ (c == 1) = false ∧ (c == 2) = false ∧ (c == 3) = false ∧ (c == 4) = false ∧ (c == 5) = false ∧ (c == 6) = false) := by
 by_cases h0 : c = 0
 ·exact .inl h0
 by_cases h1 : c = 1
 ·exact .inr (.inl h1)
 by_cases h2 : c = 2
 ·exact .inr (.inr (.inl h2))
 by_cases h3 : c = 3
 ·exact .inr (.inr (.inr (.inl h3)))
 by_cases h4 : c = 4
 ·exact .inr (.inr (.inr (.inr (.inl h4))))
 by_cases h5 : c = 5
 ·exact .inr (.inr (.inr (.inr (.inr (.inl h5)))))
 by_cases h6 : c = 6
 ·exact .inr (.inr (.inr (.inr (.inr (.inr (.inl h6))))))
 exact .inr (.inr (.inr (.inr (.inr (.inr (.inr ⟨by simpa using h0, by simpa using h1, by simpa using h2, by simpa using h3, by simpa using h4, by simpa using h5, by simpa using h6⟩))))))
def varAt (g : List Ty) (t : Ty) (i : Nat) : Bool := match g[g.length - 1 - i]? with | some x => Ty.same x t | none => false
def varsN (g : List Ty) (t : Ty) (n : Nat) : List Int := ((List.range n).filter (varAt g t)).map (fun (j : Nat) => (j : Int))
theorem varsN_succ {g : List Ty} {t : Ty} {n : Nat} : varsN g t (n + 1) = varsN g t n ++ (if varAt g t n then [(n : Int)] else []) := by
 unfold varsN
 rw [List.range_succ, List.filter_append, List.map_append]
 congr 1
 cases h : varAt g t n <;> simp [h]
theorem varsN_len {g : List Ty} {t : Ty} {n : Nat} : (varsN g t n).length ≤ n := by
 unfold varsN
 rw [List.length_map]
 exact Nat.le_trans (List.length_filter_le _ _) (by simp)
def subC : List Bool → Code → Code
 | [], c => c
 | true :: l, .seq _ b => subC l b
 | false :: l, .seq a _ => subC l a
 | _, c => c
def bodyOf (f : Func) : Code := f.body.getD .skip
inductive TyF : Ty → Prop
 | nat : TyF tNat
 | list : TyF tList
 | unit : TyF tUnit
 | pair {a b : Ty} : TyF a → TyF b → TyF (tPair a b)
 | func {a b : Ty} : TyF a → TyF b → TyF (tFun a b)
mutual
def tyH : Ty → Nat
 | .mk _ l => tyHL l + 1
def tyHL : List Ty → Nat
 | [] => 0
 | t :: l => max (tyH t) (tyHL l)
end
theorem tyH_nat : tyH tNat = 1 := by simp [tNat, tyH, tyHL]
theorem tyH_list : tyH tList = 1 := by simp [tList, tyH, tyHL]
theorem tyH_unit : tyH tUnit = 1 := by simp [tUnit, tyH, tyHL]
theorem tyH_pair {a b : Ty} : tyH (tPair a b) = max (tyH a) (tyH b) + 1 := by simp [tPair, tyH, tyHL]
theorem tyH_fun {a b : Ty} : tyH (tFun a b) = max (tyH a) (tyH b) + 1 := by simp [tFun, tyH, tyHL]
theorem TyF.W {t : Ty} (h : TyF t) : TyW t := by
 induction h with
 | nat => exact tNat_W
 | list => exact tList_W
 | unit => exact tUnit_W
 | pair _ _ h1 h2 => exact tPair_W h1 h2
 | func _ _ h1 h2 => exact tFun_W h1 h2
mutual
theorem Ty.same_true : ∀ {a b : Ty}, Ty.same a b = true → a = b
 | .mk k l, .mk k' l', h => by
  simp only [Ty.same, Bool.and_eq_true, beq_iff_eq] at h
  rw [h.1, Ty.sameL_true h.2]
theorem Ty.sameL_true : ∀ {a b : List Ty}, Ty.sameL a b = true → a = b
 | [], [], _ => rfl
 | x :: l, y :: l', h => by
  simp only [Ty.sameL, Bool.and_eq_true] at h
  rw [Ty.same_true h.1, Ty.sameL_true h.2]
 | [], _ :: _, h => by simp [Ty.sameL] at h
 | _ :: _, [], h => by simp [Ty.sameL] at h
end
mutual
theorem Ty.same_refl : ∀ a : Ty, Ty.same a a = true
 | .mk k l => by simp [Ty.same, Ty.sameL_refl l]
theorem Ty.sameL_refl : ∀ l : List Ty, Ty.sameL l l = true
 | [] => by simp [Ty.sameL]
 | x :: l => by simp [Ty.sameL, Ty.same_refl x, Ty.sameL_refl l]
end
inductive MkTy : Nat → Ty → Prop
 | nat {n : Nat} : MkTy n tNat
 | list {n : Nat} : MkTy n tList
 | unit {n : Nat} : MkTy n tUnit
 | pair {n : Nat} {a b : Ty} : MkTy n a → MkTy n b → MkTy (n + 1) (tPair a b)
 | func {n : Nat} {a b : Ty} : MkTy n a → MkTy n b → MkTy (n + 1) (tFun a b)
theorem mkType_Mk {l : List Int} : ∀ (n a : Nat), MkTy n (mkType l n a).1
  | 0, a => by rw [mkType]; repeat' split
               all_goals first|exact .nat|exact .list|exact .unit
  | n + 1, a => by
    rw [mkType]; repeat' split
    all_goals first|exact .nat|exact .list|exact .unit|exact .pair (mkType_Mk _ _) (mkType_Mk _ _)|exact .func (mkType_Mk _ _) (mkType_Mk _ _)
theorem MkTy.F {n : Nat} {t : Ty} (h : MkTy n t) : TyF t := by
 induction h with
 | nat => exact .nat
 | list => exact .list
 | unit => exact .unit
 | pair _ _ h1 h2 => exact .pair h1 h2
 | func _ _ h1 h2 => exact .func h1 h2
theorem MkTy.H {n : Nat} {t : Ty} (h : MkTy n t) : tyH t ≤ n + 1 := by
 induction h with
 | nat => rw [tyH_nat]; omega
 | list => rw [tyH_list]; omega
 | unit => rw [tyH_unit]; omega
 | pair _ _ h1 h2 => rw [tyH_pair]; omega
 | func _ _ h1 h2 => rw [tyH_fun]; omega
inductive MkTm : Nat → List Ty → Ty → Tm → Prop
 | var {n : Nat} {g : List Ty} {t : Ty} {i : Nat} (hi : i < g.length) (h : g[g.length - 1 - i]? = some t) : MkTm n g t (tmVar i)
 | app {n : Nat} {g : List Ty} {t s : Ty} {b x : Tm} (hs : MkTy 0 s) : MkTm n (g ++ [s]) t b → MkTm n g s x → MkTm (n + 1) g t (tm0 3 [tmT 2 s [b], x])
 | fst {n : Nat} {g : List Ty} {t s : Ty} {x y : Tm} (hs : MkTy 0 s) : MkTm n g t x → MkTm n g s y → MkTm (n + 1) g t (tm0 11 [tm0 10 [x, y]])
 | snd {n : Nat} {g : List Ty} {t s : Ty} {x y : Tm} (hs : MkTy 0 s) : MkTm n g s x → MkTm n g t y → MkTm (n + 1) g t (tm0 12 [tm0 10 [x, y]])
 | recr {n : Nat} {g : List Ty} {t : Ty} {b f : Tm} {k : Nat} (hk : k < 3) : MkTm n (g ++ [tNat, t]) t f → MkTm n g t b →
   MkTm (n + 1) g t (tmT 6 t [b, tmT 2 tNat [tmT 2 t [f]], numT k])
 | fold {n : Nat} {g : List Ty} {t : Ty} {b f x : Tm} : MkTm n (g ++ [tNat, tList, t]) t f → MkTm n g t b → MkTm n g tList x →
   MkTm (n + 1) g t (tmT 9 t [b, tmT 2 tNat [tmT 2 tList [tmT 2 t [f]]], x])
 | fapp {n : Nat} {g : List Ty} {t s : Ty} {x : Tm} {i : Nat} (hi : i < g.length) (h : g[g.length - 1 - i]? = some (tFun s t)) : MkTm n g s x →
   MkTm (n + 1) g t (tm0 3 [tmVar i, x])
 | succ {n : Nat} {g : List Ty} {x : Tm} : MkTm n g tNat x → MkTm (n + 1) g tNat (tm0 5 [x])
 | plus {n : Nat} {g : List Ty} {x y : Tm} : MkTm n g tNat x → MkTm n g tNat y → MkTm (n + 1) g tNat (tm0 3 [tm0 3 [plusT, x], y])
 | sub {n : Nat} {g : List Ty} {x y : Tm} : MkTm n g tNat x → MkTm n g tNat y → MkTm (n + 1) g tNat (tm0 3 [tm0 3 [subT, x], y])
 | num {n : Nat} {g : List Ty} {k : Nat} (hk : k < 3) : MkTm n g tNat (numT k)
 | cons {n : Nat} {g : List Ty} {x y : Tm} : MkTm n g tNat x → MkTm n g tList y → MkTm (n + 1) g tList (tm0 8 [x, y])
 | nil {n : Nat} {g : List Ty} : MkTm n g tList (tm0 7 [])
 | pair {n : Nat} {g : List Ty} {a b : Ty} {x y : Tm} : MkTm (n - 1) g a x → MkTm (n - 1) g b y → MkTm n g (tPair a b) (tm0 10 [x, y])
 | lam {n : Nat} {g : List Ty} {a b : Ty} {x : Tm} : MkTm (n - 1) (g ++ [a]) b x → MkTm n g (tFun a b) (tmT 2 a [x])
 | unit {n : Nat} {g : List Ty} : MkTm n g tUnit (tm0 13 [])
theorem MkTm.W {n : Nat} {g : List Ty} {t : Ty} {x : Tm} (h : MkTm n g t x) (hg : ∀ y ∈ g, TyF y) (ht : TyF t) : TmW x := by
 have app : ∀ {g l : List Ty}, (∀ y ∈ g, TyF y) → (∀ y ∈ l, TyF y) → ∀ y ∈ g ++ l, TyF y := by
  intro g l h1 h2 y hy
  rcases List.mem_append.1 hy with hy | hy
  ·exact h1 y hy
  ·exact h2 y hy
 induction h with
 | var => exact tmVar_W _
 | app hs _ _ h1 h2 => exact tm0_W2 (tmT_W hs.F.W (by simp) (by simp [h1 (app hg (by simp [hs.F])) ht])) (h2 hg hs.F)
 | fst hs _ _ h1 h2 => exact tm0_W1 (tm0_W2 (h1 hg ht) (h2 hg hs.F))
 | snd hs _ _ h1 h2 => exact tm0_W1 (tm0_W2 (h1 hg hs.F) (h2 hg ht))
 | recr hk _ _ h1 h2 => exact tmT_W3 ht.W (h2 hg ht) (tmT_W1 tNat_W (tmT_W1 ht.W (h1 (app hg (by simp [ht, TyF.nat])) ht))) (numT_W _)
 | fold _ _ _ h1 h2 h3 =>
  exact tmT_W3 ht.W (h2 hg ht) (tmT_W1 tNat_W (tmT_W1 tList_W (tmT_W1 ht.W (h1 (app hg (by simp [ht, TyF.nat, TyF.list])) ht)))) (h3 hg .list)
 | fapp hi h _ h1 =>
  have := hg _ (List.mem_of_getElem? h)
  cases this with
  | func ha hb => exact tm0_W2 (tmVar_W _) (h1 hg ha)
 | succ _ h1 => exact tm0_W1 (h1 hg ht)
 | plus _ _ h1 h2 => exact tm0_W2 (tm0_W2 plusT_W (h1 hg ht)) (h2 hg ht)
 | sub _ _ h1 h2 => exact tm0_W2 (tm0_W2 subT_W (h1 hg ht)) (h2 hg ht)
 | num => exact numT_W _
 | cons _ _ h1 h2 => exact tm0_W2 (h1 hg .nat) (h2 hg ht)
 | nil => exact tm0_W0
 | pair _ _ h1 h2 => cases ht with | pair ha hb => exact tm0_W2 (h1 hg ha) (h2 hg hb)
 | lam _ h1 => cases ht with | func ha hb => exact tmT_W ha.W (by simp) (by simp [h1 (app hg (by simp [ha])) hb])
 | unit => exact tm0_W0
theorem modI_range {n k : Int} (h1 : 0 < k) (h2 : k ≤ 1000000) : 0 ≤ modI n k ∧ modI n k < k := by
 unfold modI
 have a1 := Int.tmod_lt_of_pos n h1
 have a2 : -k < n.tmod k := by
  have := Int.lt_tmod_of_pos n h1
  omega
 rw [wrap_small (by omega) (by omega)]
 exact ⟨Int.tmod_nonneg _ (by omega), Int.tmod_lt_of_pos _ h1⟩
theorem nextD_range {l : List Int} {a : Nat} {n : Int} (h1 : 0 < n) (h2 : n ≤ 1000000) : 0 ≤ (nextD l a n).1 ∧ (nextD l a n).1 < n := by
 unfold nextD
 split
 ·simp; omega
 ·exact modI_range h1 h2
def funAt (g : List Ty) (t : Ty) (i : Nat) : Bool :=
 match g[g.length - 1 - i]? with
 | some y => y.kind == 4 && (match y.args[1]? with | some q => Ty.same q t | none => false)
 | none => false
theorem funAt_none {g : List Ty} {t : Ty} (h : (List.range g.length).find? (funAt g t) = none) {i : Nat} (hi : i < g.length) : funAt g t i = false := by
 have := List.find?_eq_none.1 h i (by simpa using hi)
 simpa using this
theorem funAt_some {g : List Ty} {t : Ty} {k : Nat} (h : (List.range g.length).find? (funAt g t) = some k) : k < g.length ∧ funAt g t k = true ∧ ∀ i, i < k → funAt g t i = false := by
 obtain ⟨h1, as, bs, h2, h3⟩ := List.find?_eq_some_iff_append.1 h
 have hlen : as.length = k := by
  have : (List.range g.length)[as.length]? = some k := by rw [h2]; simp
  have hlt : as.length < (List.range g.length).length := by rw [h2]; simp
  rw [List.getElem?_range (by simpa using hlt)] at this
  simpa using this
 have hk : k < g.length := by
  have hlt : as.length < (List.range g.length).length := by rw [h2]; simp
  rw [hlen] at hlt; simpa using hlt
 refine ⟨hk, h1, fun i hi => ?_⟩
 have hm : i ∈ as := by
  have e : (List.range g.length)[i]? = as[i]? := by rw [h2, List.getElem?_append_left (by omega)]
  rw [List.getElem?_range (by omega)] at e
  exact List.mem_of_getElem? e.symm
 simpa using h3 i hm
theorem funAt_fun {g : List Ty} {t : Ty} {k : Nat} (hg : ∀ y ∈ g, TyF y) (h : funAt g t k = true) : ∃ s, g[g.length - 1 - k]? = some (tFun s t) ∧ TyF s ∧ tFun s t ∈ g := by
 unfold funAt at h
 split at h
 ·rename_i y hy
  have hm := List.mem_of_getElem? hy
  have := hg y hm
  cases this with
  | func ha hb =>
   simp [tFun, Ty.kind, Ty.args] at h
   have := Ty.same_true h
   subst this
   exact ⟨_, hy, ha, hm⟩
  | _ => simp [tNat, tList, tUnit, tPair, Ty.kind] at h
 ·simp at h
theorem varsN_get {g : List Ty} {t : Ty} {k : Nat} {v : Int} (h : (varsN g t g.length)[k]? = some v) : ∃ i : Nat, v = (i : Int) ∧ i < g.length ∧ g[g.length - 1 - i]? = some t := by
 have hm := List.mem_of_getElem? h
 unfold varsN at hm
 obtain ⟨i, hi, rfl⟩ := List.mem_map.1 hm
 obtain ⟨h1, h2⟩ := List.mem_filter.1 hi
 refine ⟨i, rfl, by simpa using h1, ?_⟩
 unfold varAt at h2
 split at h2
 ·rename_i x hx
  rw [hx, Ty.same_true h2]
 ·simp at h2
theorem kind4 {y : Ty} (h : TyF y) (hk : (y.kind == 4) = true) : ∃ p q, y = tFun p q := by
 cases h with
 | func => exact ⟨_, _, rfl⟩
 | _ => simp [tNat, tList, tUnit, tPair, Ty.kind] at hk
inductive MkFm (u : Bool) : Nat → List Ty → Fm → Prop
 | eq {n : Nat} {g : List Ty} {x y : Tm} : MkTm 1 g tNat x → MkTm 1 g tNat y → MkFm u n g (fmEq x y)
 | two {n : Nat} {g : List Ty} {k : Int} {a b : Fm} (hk : k = 2 ∨ k = 3) : MkFm u n g a → MkFm u n g b → MkFm u (n + 1) g (fmTwo k a b)
 | q {n : Nat} {g : List Ty} {k : Int} {s : Ty} {a : Fm} (hk : k = 4 ∨ k = 5 ∨ (u = true ∧ (k = 6 ∨ k = 7))) (hs : MkTy (if u then 1 else 0) s) :
   MkFm u n (g ++ [s]) a → MkFm u (n + 1) g (fmQ k s a)
theorem fmEq_W {x y : Tm} (hx : TmW x) (hy : TmW y) : FmW (fmEq x y) := .mk _ _ _ _ tZero_W (by simp) (by simp [hx, hy]) (by simp) (by simp)
theorem fmTwo_W {k : Int} {a b : Fm} (ha : FmW a) (hb : FmW b) : FmW (fmTwo k a b) := .mk _ _ _ _ tZero_W (by simp) (by simp) (by simp) (by simp [ha, hb])
theorem fmQ_W {k : Int} {t : Ty} {a : Fm} (ht : TyW t) (ha : FmW a) : FmW (fmQ k t a) := .mk _ _ _ _ ht (by simp) (by simp) (by simp) (by simp [ha])
theorem MkTy.up {n : Nat} {t : Ty} (h : MkTy n t) : ∀ {m : Nat}, n ≤ m → MkTy m t := by
 induction h with
 | nat => exact fun _ => .nat
 | list => exact fun _ => .list
 | unit => exact fun _ => .unit
 | pair _ _ h1 h2 => intro m hm; match m, hm with
           | m + 1, hm => exact .pair (h1 (by omega)) (h2 (by omega))
 | func _ _ h1 h2 => intro m hm; match m, hm with
           | m + 1, hm => exact .func (h1 (by omega)) (h2 (by omega))
theorem RV.move {g g' : G} {w : World} {S : Id → Prop} (hl : g'.lim = g.lim) (hS : ∀ id, S id → g'.dom id = true ∧ g'.loc id = g.loc id ∧ g'.buf id = g.buf id)
  {c : Value} {v : V} (h : RV g w c v) (hin : InV S v) : RV g' w c v := by
 induction h with
 | undef c => exact .undef c
 | bool b => exact .bool b
 | int k n => exact .int k n
 | str s => exact .str s
 | agg vs cs h _ ih => rw [InV] at hin; exact .agg vs cs h fun i c v hc hv => ih i c v hc hv (InL_get hin hv)
 | tup vs cs h _ ih => rw [InV] at hin; exact .tup vs cs h fun i c v hc hv => ih i c v hc hv (InL_get hin hv)
 | sl a cap c es k cell hk hcap hrun _ hc ih =>
  rw [InV] at hin
  refine .sl a cap c es k cell hk hcap (by rw [hl]; exact hrun) (fun i v hv => ih i v hv (InL_get (InLL_flat.1 hin.2) hv)) ?_
  cases c with
  | any => trivial
  | full => exact hc
  | own id =>
   obtain ⟨a1, a2, a3⟩ := hS id hin.1
   exact ⟨a1, by rw [a3]; exact hc.2⟩
 | ptr id off h => rw [InV] at hin; rw [← (hS id hin).2.1]; exact .ptr id off (hS id hin).1
 | slb id n cap h h2 => rw [InV] at hin; rw [← (hS id hin).2.1]; exact .slb id n cap (hS id hin).1 h2
 | slr id n cap h h2 => rw [InV] at hin; rw [← (hS id hin).2.1]; exact .slr id n cap (hS id hin).1 h2
 | el b off cs o cell hlm hrun _ ih => rw [InV] at hin; exact .el b off cs o cell (by rw [hl]; exact hlm) hrun fun i v hv => ih i v hv (InL_get hin hv)
 | nilp => exact .nilp
 | fn f fs cs fs' cs' h1 h2 _ _ ih1 ih2 =>
  rw [InV] at hin
  exact .fn f fs cs fs' cs' h1 h2 (fun i c v hc hv => ih1 i c v hc hv (InL_get hin.1 hv)) (fun i c v hc hv => ih2 i c v hc hv (InL_get hin.2 hv))
 | nilf => exact .nilf
 | iface t c v _ ih => rw [InV] at hin; exact .iface t c v (ih hin)
 | nili => exact .nili
theorem AR_new {P : Program} {env : Nat → Option (List V)} {n : Nat} {fn : Func} {g0 : G} {w0 : World} {h0 : H} {gen : Nat} {σ : St} {k : List It}
    {id i0 : Id} {cs : List V} (hrel0 : Rel env g0 w0 h0) (hid : h0 id = none) (hres : aresL P σ fn.results.toList = some [.ptr i0 0])
    (hb : σ.h i0 = some (.box cs)) (h00 : h0 i0 = none) (hin : InL (fun j => h0 j ≠ none) cs) (hag : Agree h0 σ.h) :
    AR ⟨P, env, n, fn, g0, w0, h0, .ptr id 0, hset h0 id (.box cs)⟩ gen k .ret σ := by
  refine AR_to_ret ?_
  intro _ _ g a w hx r
  obtain ⟨cv, h1, h2⟩ := run_results r fn hres
  have q := r.rel
  simp only [oneOr] at h2
  let g' : G := { g with dom := fun j => decide (hset h0 id (.box cs) j ≠ none), loc := fun j => if j = id then g.loc i0 else g.loc j, top := max g.top (id.gen + 1) }
  have hne : ∀ j, h0 j ≠ none → j ≠ id := fun j hj e => hj (by rw [e]; exact hid)
  have hmv : ∀ {c : Value} {v : V}, RV g w c v → InV (fun j => h0 j ≠ none) v → RV g' w c v := by
    intro c v hv hi
    refine RV.move (g := g) (g' := g') rfl ?_ hv hi
    intro j hj
    exact ⟨by show decide _ = true; rw [hset_other (hne j hj)]; simpa using hj, by show (if j = id then _ else _) = _; rw [if_neg (hne j hj)], rfl⟩
  have h00' : ∀ j, h0 j ≠ none → j ≠ i0 := fun j hj e => hj (by rw [e]; exact h00)
  have hold : ∀ j, j ≠ id → hset h0 id (.box cs) j = h0 j := fun j hj => hset_other hj
  refine ⟨r.defers, cv, h1, cv, g', rfl, ?_, ?_, ?_⟩
  · refine ⟨hx.os, hx.tape, hx.output, hx.size, hx.lim, hx.cells, hx.wr, fun j hj => ?_, Nat.le_trans hx.top (by show g.top ≤ max _ _; omega)⟩
    obtain ⟨a1, a2, a3⟩ := hx.dom j hj
    have hj0 := (hrel0.dom j).1 hj
    exact ⟨by show decide _ = true; rw [hold j (hne j hj0)]; simpa using hj0, by show (if j = id then _ else _) = _; rw [if_neg (hne j hj0)]; exact a2, a3⟩
  · refine ⟨fun j => by show decide _ = true ↔ _; simp, ?_, ?_, ?_, ?_, ?_, ?_, q.limnew, ?_⟩
    · intro j hj
      show _ < max _ _
      by_cases e : j = id
      · subst e; omega
      · have hj : hset h0 id (.box cs) j ≠ none := hj
        rw [hold j e] at hj
        have := q.top j (by rw [hag j hj]; exact hj)
        omega
    · intro j cs' e
      have e : hset h0 id (.box cs) j = some (.box cs') := e
      by_cases hj : j = id
      · subst hj
        rw [hset_same] at e; simp only [Option.some.injEq, Obj.box.injEq] at e; subst e
        obtain ⟨vs, b1, b2, b3, b4, b5⟩ := q.box i0 cs hb
        refine ⟨vs, by show CellsAt w (if j = j then _ else _) _; rw [if_pos rfl]; exact b1, b2, fun i c v hc hv => hmv (b3 i c v hc hv) (InL_get hin hv),
          by show g.lim (if j = j then _ else _) = 0; rw [if_pos rfl]; exact b4, by show g.wr (if j = j then _ else _) = true; rw [if_pos rfl]; exact b5⟩
      · rw [hold j hj] at e
        obtain ⟨vs, b1, b2, b3, b4, b5⟩ := q.box j cs' (hag.at e)
        refine ⟨vs, by show CellsAt w (if j = id then _ else _) _; rw [if_neg hj]; exact b1, b2, fun i c v hc hv => hmv (b3 i c v hc hv) ?_,
          by show g.lim (if j = id then _ else _) = 0; rw [if_neg hj]; exact b4, by show g.wr (if j = id then _ else _) = true; rw [if_neg hj]; exact b5⟩
        obtain ⟨vs0, _, z2, z3, _⟩ := hrel0.box j cs' e
        obtain ⟨c0, hc0⟩ := RVLp_get (g := g0) (w := w0) z2 hv
        exact InV_mono (fun i hi => (hrel0.dom i).1 hi) v ((z3 i c0 v hc0 hv).inV)
    · intro i1 i2 c1 c2 e1 e2 e
      have e1 : hset h0 id (.box cs) i1 = some (.box c1) := e1
      have e2 : hset h0 id (.box cs) i2 = some (.box c2) := e2
      have e' : (if i1 = id then g.loc i0 else g.loc i1) = (if i2 = id then g.loc i0 else g.loc i2) := e
      by_cases f1 : i1 = id <;> by_cases f2 : i2 = id
      · rw [f1, f2]
      · exfalso
        rw [if_pos f1, if_neg f2] at e'
        rw [hold i2 f2] at e2
        have := q.inj i0 i2 cs c2 hb (hag.at e2) e'
        exact h00' i2 (by rw [e2]; simp) this.symm
      · exfalso
        rw [if_neg f1, if_pos f2] at e'
        rw [hold i1 f1] at e1
        have := q.inj i1 i0 c1 cs (hag.at e1) hb e'
        exact h00' i1 (by rw [e1]; simp) this
      · rw [if_neg f1, if_neg f2] at e'
        rw [hold i1 f1] at e1; rw [hold i2 f2] at e2
        exact q.inj i1 i2 c1 c2 (hag.at e1) (hag.at e2) e'
    · intro j n' k' e
      have e : hset h0 id (.box cs) j = some (.tok n' k') := e
      have hj : j ≠ id := by intro f; rw [f, hset_same] at e; simp at e
      rw [hold j hj] at e
      exact q.tok j n' k' (hag.at e)
    · intro i1 i2 n' k' c' e hlt e2 a ha
      have e : hset h0 id (.box cs) i1 = some (.tok n' k') := e
      have e2 : hset h0 id (.box cs) i2 = some (.box c') := e2
      have hj : i1 ≠ id := by intro f; rw [f, hset_same] at e; simp at e
      rw [hold i1 hj] at e
      show a.block ≠ (if i2 = id then g.loc i0 else g.loc i2)
      by_cases f2 : i2 = id
      · rw [if_pos f2]; exact q.apart i1 i0 n' k' cs (hag.at e) hlt hb a ha
      · rw [if_neg f2]; rw [hold i2 f2] at e2; exact q.apart i1 i2 n' k' c' (hag.at e) hlt (hag.at e2) a ha
    · intro i1 i2 n1 n2 k1 k2 e hlt e2 hlt2
      have e : hset h0 id (.box cs) i1 = some (.tok n1 k1) := e
      have e2 : hset h0 id (.box cs) i2 = some (.tok n2 k2) := e2
      have f1 : i1 ≠ id := by intro f; rw [f, hset_same] at e; simp at e
      have f2 : i2 ≠ id := by intro f; rw [f, hset_same] at e2; simp at e2
      rw [hold i1 f1] at e; rw [hold i2 f2] at e2
      exact q.apart2 i1 i2 n1 n2 k1 k2 (hag.at e) hlt (hag.at e2) hlt2
    · intro k' cs' e
      exact hmv (q.glob k' cs' e) (InV_mono (fun i hi => (hrel0.dom i).1 hi) _ (hrel0.glob k' cs' e).inV)
  · have hd : g'.dom id = true := by show decide _ = true; rw [hset_same]; simp
    have hl : g.loc i0 = g'.loc id := by show _ = (if id = id then _ else _); rw [if_pos rfl]
    cases h2
    rw [hl]
    exact RV.ptr (g := g') id 0 hd

theorem agreeBut_fresh' {h k : H} {d : Id} {o : Obj} {gn : Nat} (hd : h d = some o) (a : AgreeBut d h k) (hgf : ∀ r i, k ⟨gn, r, i⟩ = none) (hk : ∀ r i, d ≠ ⟨gn, r, i⟩) : ∀ r i, h ⟨gn, r, i⟩ = none :=
 fun r i => by
  cases e : h ⟨gn, r, i⟩ with
  | none => rfl
  | some o => exact absurd (a _ (fun q => hk r i q.symm) (by rw [e]; simp)) (by rw [hgf, e]; simp)
theorem fresh_ne2 {h : H} {gen gn : Nat} (hfr : ∀ id, h id ≠ none → id.gen < gen) {d : Id} {o : Obj} (hd : h d = some o) (hlt : gen < gn) (r i : Nat) : (d = ⟨gn, r, i⟩) = False :=
 fresh_ne (fun id hid => Nat.lt_trans (hfr id hid) hlt) hd r i
theorem fresh_ne2' {h : H} {gen gn : Nat} (hfr : ∀ id, h id ≠ none → id.gen < gen) {d : Id} {o : Obj} (hd : h d = some o) (hlt : gen < gn) (r i : Nat) : ((⟨gn, r, i⟩ : Id) = d) = False :=
 fresh_ne' (fun id hid => Nat.lt_trans (hfr id hid) hlt) hd r i
def News (P : Program) (env : Nat → Option (List V)) (f : FuncId) (args : List V) (cs : List V) : Prop :=
 ∀ (h : H) (id : Id), h id = none → Ret P env f args h (.ptr id 0) (hset h id (.box cs))
theorem Call1_new {P : Program} {env : Nat → Option (List V)} {k : FuncId} {args : List V} {h : H} {R : Eff → Prop} (id : Id) {cs : List V} (hp : News P env k args cs)
    (hd : h id = none) (hr : R ⟨.ptr id 0, [id], [(id, .box cs)]⟩) : Call1 P env k args h R :=
  ⟨⟨.ptr id 0, [id], [(id, .box cs)]⟩, by simp, fun h2 hh => by
    have := hp h2 id (by rw [hh id (by simp), hd])
    simpa [happly] using this, hr⟩

theorem okE_app_ownd {P : Program} {env : Nat → Option (List V)} {ops : Array Oper} {draw : Bool} {gen reg : Nat} {rest : List Oper} {i : Nat} {log : List LogE} {Kc : St → Prop}
    {tm : Nat → V} {hp hq h0 : H} {dst : Option Nat} {s : V} {es xs : List (List V)} {cc : Cap} {T U : TyI} {nid : Id} {k : Nat}
    (hown' : OwnS h0 hq s k es) (hkp : Keeps hq hp) (hk : k = T.esize)
    (hc : T.kind = 4 ∧ U.kind = 4 ∧ T.esize ≠ 0 ∧ T.ezero.length = T.esize ∧ es.all (fun e => e.length == T.esize) = true ∧ xs.all (fun e => e.length == T.esize) = true ∧
        xs.flatten.all oneV = true ∧ (es.length + xs.length) * T.ebytes ≤ 140737488355328 ∧ es.length + xs.length ≤ 140737488355328)
    (h1 : h0 nid = none) (h2 : hp nid = none) (hl : draw = true → ∀ e : Eff, logOk ops i e log)
    (next : ∀ v' h' id', OwnS h0 h' v' k (es ++ xs) → (∀ j, isBox (hp j) = true → h' j = hp j) → (Agree h0 hp → Agree h0 h') → (∀ d, AgreeBut d h0 hp → AgreeBut d h0 h') →
      (∀ j, j ≠ nid → hp j = none → h' j = none) → aops P env ops draw gen reg rest (i + 1) ((i, [id'], [id']) :: log) Kc ⟨upd tm dst v', h'⟩) :
    okE P env ops draw gen reg rest dst i log Kc ⟨tm, hp⟩ (appE (some T) (some U) s (.sl cc xs) hp nid) := by
  have hown := hown'.keep hkp
  have go : ∀ id o, (hp id = none ∨ ∃ n q, hp id = some (.tok n q)) → h0 id = none → (hp id = none → id = nid) → (∀ j, isBox (hp j) = true → hset hp id o j = hp j) ∧
      (Agree h0 hp → Agree h0 (hset hp id o)) ∧ (∀ d, AgreeBut d h0 hp → AgreeBut d h0 (hset hp id o)) ∧ (∀ j, j ≠ nid → hp j = none → hset hp id o j = none) := by
    intro id o hid h0id hn
    refine ⟨fun j hj => ?_, fun a => a.new h0id, fun d a => a.new h0id, fun j hj hjn => ?_⟩
    · have : j ≠ id := by
        intro e; subst e
        rcases hid with h | ⟨n, q, h⟩ <;> rw [h] at hj <;> simp [isBox] at hj
      exact hset_other this
    · have : j ≠ id := by
        intro e; subst e
        exact hj (hn hjn)
      rw [hset_other this]; exact hjn
  rcases hown with rfl | ⟨id, rfl, h3, h4⟩
  · simp only [appE]
    rw [if_pos hc]
    simp only [h2, okE, happly, St.put]
    obtain ⟨g1, g2, g3, g4⟩ := go nid (.tok (es.length + xs.length) T.esize) (.inl h2) h1 (fun _ => rfl)
    exact ⟨fun hd => hl hd _, next _ _ _ (.inr ⟨nid, rfl, by rw [hset_same, List.length_append, hk], h1⟩) g1 g2 g3 g4⟩
  · simp only [appE]
    rw [if_pos hc]
    simp only [h3, hk, and_self, if_true, okE, happly, St.put]
    obtain ⟨g1, g2, g3, g4⟩ := go id (.tok (es.length + xs.length) T.esize) (.inr ⟨_, _, h3⟩) h4 (fun e => by rw [e] at h3; cases h3)
    exact ⟨fun hd => hl hd _, next _ _ _ (.inr ⟨id, rfl, by rw [hset_same, List.length_append, hk], h4⟩) g1 g2 g3 g4⟩
end GoAbs
namespace GoAbs
open Go Go.ChangeShapes Go.WideShapes Go.RowKit
def G0 (W : World) : G where
 lim := fun b => match W.heap[b]? with | some (.cells c _ _) => c.size | _ => 0
 wr := fun _ => false
 loc := fun _ => 0
 buf := fun _ => ⟨none, 0, 0, 0⟩
 dom := fun _ => false
 top := 0
def h0 : H := fun _ => none
theorem rel_start {env : Nat → Option (List V)} {W : World} (hg : ∀ k cs, env k = some cs → RV (G0 W) W (.pointer (some ⟨k, 0, none⟩)) (.el cs 0)) : Rel env (G0 W) W h0 where
 dom := fun id => by simp [G0, h0]
 top := fun id h => by simp [h0] at h
 box := fun id cs h => by simp [h0] at h
 inj := fun id id' cs cs' h => by simp [h0] at h
 tok := fun id n k h => by simp [h0] at h
 apart := fun id id' n k cs h => by simp [h0] at h
 apart2 := fun id id' n n' k k' h => by simp [h0] at h
 limnew := fun b hb => by
  show (match W.heap[b]? with | some (.cells c _ _) => c.size | _ => 0) = 0
  rw [Array.getElem?_eq_none hb]
 glob := hg
theorem lim_of_cell {W : World} {b off : Nat} {v : Value} (h : W.cell? ⟨b, off, none⟩ = some v) : off < (G0 W).lim b := by
 simp only [World.cell?] at h
 show off < (match W.heap[b]? with | some (.cells c _ _) => c.size | _ => 0)
 split at h
 ·rename_i c t fr hb
  rw [hb]
  simp at h
  exact (Array.getElem?_eq_some_iff.1 h).1
 ·cases h
section
variable {H' : Type} {enc : TypeId × Value → H'} {P : Program} {W W' : World}
theorem spot_none {a : Addr} {v : Value} (h : W.cell? a = some v) : a = ⟨a.block, a.off, none⟩ := by
 obtain ⟨b, o, s⟩ := a
 cases s with
 | none => rfl
 | some s =>
  simp only [World.cell?] at h
  split at h
  ·simp at h
  ·cases h
theorem rv_ints {t e : TypeId} (ht : P.underlying t = some (.slice e)) (he : P.underlying e = some (.int .i64)) (hc : P.cellsOf e = 1) {base base' : Nat} {sp : Nat → Bool} {held : Bool}
  {v : Value} {d : DataW H'} {ps : List MemPlace} (hk : Value.okWide P W .any base' t v) (h : DataW.Trod enc P W base sp held t v d ps) :
  ∃ l : List Int, RV (G0 W) W v (.sl .any (ints l)) := by
 obtain ⟨fuel, h⟩ := h
 obtain ⟨a0, len0, cap0, rfl⟩ := okWide_slice ht hk
 rcases open_ints ht he hc h with ⟨hcs, _⟩ | ⟨a, len, cap, zs, hcs, _, hl, hm, hz, _, hcell, _⟩
 ·simp [Value.cells] at hcs
  obtain ⟨rfl, rfl, rfl⟩ := hcs
  exact ⟨[], .sl none 0 .any [] 1 (fun _ => .nilFunc) (by simp) (by simp) (by simp) (by simp) trivial⟩
 ·simp [Value.cells] at hcs
  obtain ⟨rfl, rfl, rfl⟩ := hcs
  have hlz : len0 ≤ zs.length := by rw [hz]; split <;> omega
  refine ⟨zs.take len0, ?_⟩
  have hel : (ints (zs.take len0)).length = len0 := by rw [ints_len, List.length_take]; omega
  have key : RV (G0 W) W (.slice (some a) (ints (zs.take len0)).length cap0) (.sl .any (ints (zs.take len0))) := by
   refine .sl (some a) cap0 .any _ 1 (fun i => .int .i64 (zs.getD i 0)) ?_ (by omega) ?_ ?_ trivial
   ·intro e he; obtain ⟨n, _, rfl⟩ := List.mem_map.1 he; rfl
   ·intro hne
    have hpos : 0 < len0 := by
     rcases Nat.eq_zero_or_pos len0 with h0 | h0
     ·subst h0; exact absurd rfl hne
     ·exact h0
    have h0 := hcell 0 (by omega)
    have ha : a.add 0 = a := by simp [Addr.add]
    rw [ha] at h0
    have hs := spot_none h0
    have hall : ∀ i, i < len0 → W.cell? ⟨a.block, a.off + i, none⟩ = some (.int .i64 (zs.getD i 0)) := by
     intro i hi
     have := hcell i (by omega)
     rw [hs, add_off] at this
     exact this
    refine ⟨a.block, a.off, by rw [← hs], ?_, fun i hi => hall i (by omega)⟩
    have := lim_of_cell (hall (len0 - 1) (by omega))
    omega
   ·intro i v hv
    have e : (ints (zs.take len0)).flatten = (zs.take len0).map fun n => V.int .i64 n := by
     generalize zs.take len0 = l
     induction l with
     | nil => rfl
     | cons x l ih => simp [ints] at ih ⊢; exact ih
    rw [e, List.getElem?_map] at hv
    cases hx : (zs.take len0)[i]? with
    | none => simp [hx] at hv
    | some x =>
     simp [hx] at hv; subst hv
     have hx' : zs[i]? = some x := by
      rw [List.getElem?_take] at hx
      split at hx
      ·exact hx
      ·cases hx
     simp only [List.getD_eq_getElem?_getD, hx', Option.getD_some]
     exact .int _ _
  rw [hel] at key
  exact key
theorem rv_table {t e : TypeId} {n : Nat} (ht : P.underlying t = some (.array n e)) (he : P.underlying e = some (.int .i64)) (hc : P.cellsOf e = 1) {base fuel g : Nat} {sp : Nat → Bool} {held : Bool}
  {cs : Array Value} {zs : List Int} {ps : List MemPlace} (hd : DataW.trod enc P W base sp held fuel t cs.toList = some (.agg (zs.map fun z => .lit (.int .i64 z)), ps))
  (hcell : ∀ i, W.cell? ⟨g, i, none⟩ = cs[i]?) : RV (G0 W) W (.pointer (some ⟨g, 0, none⟩)) (.el (zs.map fun z => .int .i64 z) 0) := by
 obtain ⟨xs, m, _, hx, hlen, hn, hel⟩ := DataW.trod_array ht hd
 simp only [Prod.mk.injEq, DataW.agg.injEq] at hx
 have hzl : zs.length = xs.length := by have := congrArg List.length hx.1; simpa using this
 have hall : ∀ i, i < zs.length → W.cell? ⟨g, i, none⟩ = some (.int .i64 (zs.getD i 0)) := by
  intro i hi
  have h1 := hel i (by omega)
  have hxi : ∃ y, xs[i]? = some y := ⟨_, List.getElem?_eq_getElem (by omega)⟩
  obtain ⟨y, hy⟩ := hxi
  rw [hc, Nat.mul_one, hy] at h1
  obtain ⟨k, e1, e2, _⟩ := DataW.trod_int he h1
  have hz : zs[i]? = some k := by
   have e3 : (zs.map fun z => (DataW.lit (.int .i64 z) : DataW H'))[i]? = (xs.map (·.1))[i]? := by rw [hx.1]
   rw [List.getElem?_map, List.getElem?_map, hy] at e3
   cases hzi : zs[i]? with
   | none => rw [hzi] at e3; simp at e3
   | some z => rw [hzi, e2] at e3; simp at e3; rw [e3]
  rw [hcell, List.getD_eq_getElem?_getD, hz, Option.getD_some]
  have e4 : cs.toList[i]? = some (.int .i64 k) := by
   have := congrArg (fun l : List Value => l[0]?) e1
   simpa [List.getElem?_take, List.getElem?_drop] using this
  simpa using e4
 have key := RV.el (g := G0 W) (w := W) g 0 (zs.map fun z => V.int .i64 z) 0 (fun i => .int .i64 (zs.getD i 0)) ?_ ?_ ?_
 ·exact key
 ·rcases Nat.eq_zero_or_pos zs.length with h0 | h0
  ·simp [h0]
  ·have := lim_of_cell (hall (zs.length - 1) (by omega))
   rw [List.length_map]; omega
 ·intro i hi
  rw [List.length_map] at hi
  rw [Nat.zero_add]; exact hall i hi
 ·intro i v hv
  rw [List.getElem?_map] at hv
  cases hz : zs[i]? with
  | none => simp [hz] at hv
  | some z =>
   simp [hz] at hv; subst hv
   simp only [List.getD_eq_getElem?_getD, hz, Option.getD_some]
   exact .int _ _
def sizedB (P : Program) : Bool := (List.range P.types.size).all fun t => match P.underlying t with | some (.slice e) => decide (0 < P.cellsOf e) | _ => true
theorem hsz_of (h : sizedB P = true) {t e : TypeId} (ht : t < P.types.size) (hu : P.underlying t = some (.slice e)) : 0 < P.cellsOf e := by
 have := List.all_eq_true.1 h t (by simpa using ht)
 rw [hu] at this
 simpa using this
theorem same_old {g' : G} (x : Ext (G0 W) W g' W') {b : Nat} (hb : b < W.heap.size) : W'.heap[b]? = W.heap[b]? := (x.wr b hb rfl).1
theorem trodAll_stays (K : Kids P (· < P.types.size)) (hs : sizedB P = true) (hold : ∀ b, b < W.heap.size → W'.heap[b]? = W.heap[b]?) {sp : Nat → Bool} :
  ∀ {ts : List TypeId} {vs : List Value} {ds : List (DataW H')} {ps : List MemPlace}, (∀ t ∈ ts, t < P.types.size) →
  DataW.TrodAll enc P W 0 (fun _ => true) true ts vs ds ps → (∀ p ∈ ps, p.block < W.heap.size) → (∀ p ∈ ps, sp p.block = true) → DataW.TrodAll enc P W' 0 sp true ts vs ds ps
 | [], [], [], _, _, h, _, _ => h
 | t :: ts, v :: vs, d :: ds, _, ht, ⟨p, q, ⟨n, h⟩, h', e⟩, hl, hsp => by
  subst e
  refine ⟨p, q, ⟨n, ?_⟩, trodAll_stays K hs hold (fun t h => ht t (List.mem_cons_of_mem _ h)) h' (fun x hx => hl x (List.mem_append_right _ hx)) (fun x hx => hsp x (List.mem_append_right _ hx)), rfl⟩
  refine DataW.trod_stays K (fun ht hu => hsz_of hs ht hu) (fun h => by cases h) (ht t (by simp)) h ?_ (fun x hx => hsp x (List.mem_append_left _ hx))
  intro x hx
  have hb := hl x (List.mem_append_left _ hx)
  cases x with
  | cell b off =>
   have := hold b hb
   simp [World.sameAt, World.cell?, this]
  | map b => exact hold b hb
theorem post_law {f : Func} {s : ChangeSpec} {args : Array Value} {ds gs : List (DataW H')} {before : List MemPlace} {tb : TypeId} {fresh handsOn again : Bool}
  (K : Kids P (· < P.types.size)) (hs : sizedB P = true) (hts : ∀ t ∈ f.params.toList, t < P.types.size) (hvars : s.vars = [])
  (hW : DataW.Whole enc P f.params.toList s.vars false W args.toList ds gs before) (hres : f.resultTypes = #[tb]) (htb : P.underlying tb = some .bool)
  (hfn : (s.fn H' ds).results = [.lit (.bool true)] ∧ (s.fn H' ds).args = ds ∧ (s.fn H' ds).vars = [])
  (hos : W'.os = W.os) (hout : W'.output = W.output) (hsize : W.heap.size ≤ W'.heap.size) (hold : ∀ b, b < W.heap.size → W'.heap[b]? = W.heap[b]?) :
  s.post enc P f false fresh handsOn again W args (.bool true) W' := by
 have hlt := hW.lt
 have hW0 := hW
 obtain ⟨p, q, h1, h2, rfl, h3, h4⟩ := hW
 rw [hvars] at h2
 obtain ⟨rfl, rfl⟩ := trodVars_none h2
 rw [List.append_nil] at *
 have hR : ∀ (b : Nat) (sp : Nat → Bool) (hd : Bool), DataW.TrodAll enc P W' b sp hd f.resultTypes.toList ((Value.bool true).resultList f.resultTypes.size) (s.fn H' ds).results [] := by
  intro b sp hd
  rw [hres, hfn.1]
  exact trodAll_mk1 (shut_bool htb true)
 have hA : ∀ sp : Nat → Bool, (∀ x ∈ p, sp x.block = true) → DataW.TrodAll enc P W' 0 sp true f.params.toList args.toList (s.fn H' ds).args p := by
  intro sp hsp
  rw [hfn.2.1]
  exact trodAll_stays K hs hold hts h1 hlt hsp
 have hV : ∀ sp : Nat → Bool, DataW.TrodVars enc P W' sp s.vars (s.fn H' ds).vars [] := by
  intro sp; rw [hvars, hfn.2.2]; exact rfl
 have hfz : ∀ b off, MemPlace.cell b off ∈ p → W'.frozen? ⟨b, off, none⟩ = false := by
  intro b off hp
  have := h3 b off hp
  have hb := hold b (hlt _ hp)
  simpa [World.frozen?, hb] using this
 refine ⟨ds, [], p, [], p, [], hW0, by rw [List.append_nil]; exact hR _ _ _, by rw [List.append_nil]; exact hA _ (fun x hx => by simpa using hlt x hx), by rw [List.append_nil]; exact hV _, ?_, fun _ => ?_⟩
 ·refine ⟨hos, hout, fun i hi => ?_⟩
  rw [hold i hi]
  have := (World.keptBut_refl W (fun p => False)).2.2 i hi
  split
  ·rename_i e1 e2
   rw [e1] at e2
   cases e2
   exact ⟨rfl, rfl, rfl, fun _ _ => rfl⟩
  ·rename_i e1 e2
   rw [e1] at e2
   cases e2
   exact .inr ⟨rfl, rfl⟩
  ·rfl
 ·refine ⟨ok_one hres rfl (okWide_bool_mk htb true), _, _, [] ++ p ++ [], ⟨[] ++ p, [], trodAll_append (hA _ (fun _ _ => rfl)) (hR _ _ _), hV _, rfl, ?_, fun h => by cases h⟩, ?_⟩
  ·intro b off hp
   exact hfz b off (by simpa using hp)
  ·intro x hx _
   simpa using hx
theorem law_calls {env : Nat → Option (List V)} {f : FuncId} {args : Array Value} {vs : List V} (hp : Pure P env f vs (.bool true))
  (hg : ∀ k cs, env k = some cs → RV (G0 W) W (.pointer (some ⟨k, 0, none⟩)) (.el cs 0)) (ha : RVL (G0 W) W args vs) {Q : Ending → World → Prop}
  (hq : ∀ W', W'.os = W.os → W'.output = W.output → W.heap.size ≤ W'.heap.size → (∀ b, b < W.heap.size → W'.heap[b]? = W.heap[b]?) → Q (.returned (.bool true)) W') :
  Calls P f args W Q := by
 obtain ⟨_, h⟩ := hp h0
 refine (h (G0 W) W args (rel_start hg) ha).mono ?_
 rintro e W' ⟨c, g', rfl, x, _, hv⟩
 cases hv
 exact hq W' x.os x.output x.size (fun b hb => same_old x hb)
end
end GoAbs
namespace GoAbs
open Go Go.ChangeShapes Go.WideShapes Go.RowKit
theorem flat_get {α : Type} {k : Nat} (hk : 0 < k) : ∀ (es : List (List α)), (∀ e ∈ es, e.length = k) → ∀ (p : Nat) (v : α), es.flatten[p]? = some v → ∃ e, es[p / k]? = some e ∧ e[p % k]? = some v
 | [], _, p, v, h => by simp at h
 | e :: es, hl, p, v, h => by
  have he := hl e (by simp)
  rw [List.flatten_cons] at h
  by_cases hp : p < k
  ·rw [List.getElem?_append_left (by omega)] at h
   refine ⟨e, ?_, ?_⟩
   ·rw [Nat.div_eq_of_lt hp]; rfl
   ·rw [Nat.mod_eq_of_lt hp]; exact h
  ·rw [List.getElem?_append_right (by omega), he] at h
   obtain ⟨e', h1, h2⟩ := flat_get hk es (fun x hx => hl x (by simp [hx])) (p - k) v h
   have hd : p / k = (p - k) / k + 1 := by
    rw [Nat.div_eq_sub_div hk (by omega)]
   have hm : p % k = (p - k) % k := Nat.mod_eq_sub_mod (by omega)
   refine ⟨e', ?_, ?_⟩
   ·rw [hd]; simpa using h1
   ·rw [hm]; exact h2
section
variable {H' : Type} {enc : TypeId × Value → H'} {P : Program} {W : World} {base : Nat} {sp : Nat → Bool} {held : Bool}
def CellsRV (W : World) (cs : List Value) (vs : List V) : Prop := cs.length = vs.length ∧ ∀ (i : Nat) (c : Value) (v : V), cs[i]? = some c → vs[i]? = some v → RV (G0 W) W c v
theorem raw_slice {T : Type} [Inhabited T] (ec : T → List V) {t e : TypeId} {k : Nat} (hk0 : 0 < k) (ht : P.underlying t = some (.slice e)) (hk : P.cellsOf e = k) (hec : ∀ x, (ec x).length = k) {fuel : Nat}
    (ih : ∀ n, n < fuel → ∀ cs x, DataW.trod enc P W base sp held n e cs = some x → ∃ y : T, CellsRV W cs (ec y)) {cs : List Value} {x : DataW H' × List MemPlace}
    (h : DataW.trod enc P W base sp held fuel t cs = some x) : ∃ (l : List T) (c : Value), cs = [c] ∧ RV (G0 W) W c (.sl .any (l.map ec)) := by
  rcases DataW.trod_slice ht h with ⟨rfl, _⟩ | ⟨a, len, cap, elems, rest, n, rfl, rfl, _, _, hlc, _, hlen, hel, _, _⟩
  · exact ⟨[], _, rfl, .sl none 0 .any [] k (fun _ => .nilFunc) (by simp) (by simp) (by simp) (by simp) trivial⟩
  · obtain ⟨f, hf⟩ := Go.Deep.choose_lt (α := T) (n := len) (p := fun i y => ∃ cs', W.cells? base (a.add (i * k)) k = some cs' ∧ CellsRV W cs' (ec y)) (fun i hi => by
      have := hel i hi
      rw [List.getElem?_eq_getElem (by omega), hk] at this
      obtain ⟨cs', h1, h2⟩ := Option.bind_eq_some_iff.1 this
      obtain ⟨y, hy⟩ := ih n (by omega) cs' _ h2
      exact ⟨y, cs', h1, hy⟩)
    have hcell : ∀ i j, i < len → j < k → ∃ c v, W.cell? (a.add (i * k + j)) = some c ∧ (ec (f i))[j]? = some v ∧ RV (G0 W) W c v := by
      intro i j hi hj
      obtain ⟨cs', h1, h2⟩ := hf i hi
      obtain ⟨_, hl', hc⟩ := World.cells?_some h1
      have := hc j hj
      rw [Go.Deep.add_add] at this
      have e1 : cs'[j]? = some cs'[j] := List.getElem?_eq_getElem (by omega)
      have e2 : (ec (f i))[j]? = some ((ec (f i))[j]'(by rw [hec]; exact hj)) := List.getElem?_eq_getElem (by rw [hec]; exact hj)
      exact ⟨_, _, this.trans e1, e2, h2.2 j _ _ e1 e2⟩
    refine ⟨(List.range len).map f, _, rfl, ?_⟩
    have hll : (((List.range len).map f).map ec).length = len := by simp
    have key : RV (G0 W) W (.slice (some a) (((List.range len).map f).map ec).length cap) (.sl .any (((List.range len).map f).map ec)) := by
      refine .sl (some a) cap .any _ k (fun p => (W.cell? (a.add p)).getD undef) ?_ (by omega) ?_ ?_ trivial
      · intro e he
        obtain ⟨y, _, rfl⟩ := List.mem_map.1 he
        exact hec y
      · intro hne
        have hpos : 0 < len := by
          rcases Nat.eq_zero_or_pos len with h0 | h0
          · rw [h0] at hne; exact absurd rfl hne
          · exact h0
        obtain ⟨c0, _, h0, _⟩ := hcell 0 0 hpos hk0
        have ha : a.add (0 * k + 0) = a := by simp [Addr.add]
        rw [ha] at h0
        have hs := spot_none h0
        have hall : ∀ p, p < len * k → ∃ c, W.cell? ⟨a.block, a.off + p, none⟩ = some c ∧ W.cell? (a.add p) = some c := by
          intro p hp
          have hi : p / k < len := Nat.div_lt_of_lt_mul (by rw [Nat.mul_comm]; exact hp)
          obtain ⟨c, _, h1, _⟩ := hcell (p / k) (p % k) hi (Nat.mod_lt _ hk0)
          rw [show p / k * k + p % k = p by rw [Nat.mul_comm]; exact Nat.div_add_mod p k] at h1
          refine ⟨c, ?_, h1⟩
          rw [hs, add_off] at h1
          exact h1
        rw [hll]
        refine ⟨a.block, a.off, by rw [← hs], ?_, fun p hp => ?_⟩
        · have hp : 0 < len * k := Nat.mul_pos hpos hk0
          obtain ⟨c, h1, _⟩ := hall (len * k - 1) (by omega)
          have := lim_of_cell h1
          omega
        · obtain ⟨c, h1, h2⟩ := hall p hp
          rw [h1, h2]; rfl
      · intro p v hv
        obtain ⟨e, h1, h2⟩ := flat_get hk0 _ (by intro e he; obtain ⟨y, _, rfl⟩ := List.mem_map.1 he; exact hec y) p v hv
        rw [List.getElem?_map, List.getElem?_map] at h1
        have hi : p / k < len := by
          rcases Nat.lt_or_ge (p / k) len with h' | h'
          · exact h'
          · simp [List.getElem?_eq_none (show (List.range len).length ≤ p / k by simpa using h')] at h1
        rw [List.getElem?_range hi] at h1
        simp at h1
        subst h1
        obtain ⟨c, v', h3, h4, h5⟩ := hcell (p / k) (p % k) hi (Nat.mod_lt _ hk0)
        rw [show p / k * k + p % k = p by rw [Nat.mul_comm]; exact Nat.div_add_mod p k] at h3
        rw [h4] at h2
        cases h2
        show RV (G0 W) W ((W.cell? (a.add p)).getD undef) v
        rw [h3]; exact h5
    rw [hll] at key
    exact key

instance : Inhabited Ty := ⟨.mk 0 []⟩
instance : Inhabited Tm := ⟨.mk 0 0 (.mk 0 []) []⟩
instance : Inhabited Fm := ⟨.mk 0 (.mk 0 []) [] []⟩
end
def PureE (P : Program) (env : Nat → Option (List V)) (f : FuncId) (args : List V) (es : List (Id × Obj)) (v : V) : Prop :=
 ∀ h : H, (∀ p ∈ es, h p.1 = some p.2) → Ret P env f args h v h
theorem Call1_pureE {P : Program} {env : Nat → Option (List V)} {k : FuncId} {args : List V} {h : H} {R : Eff → Prop} {es : List (Id × Obj)} {v : V} (hp : PureE P env k args es v)
  (he : ∀ p ∈ es, h p.1 = some p.2) (hr : R ⟨v, es.map (·.1), []⟩) : Call1 P env k args h R :=
 ⟨⟨v, es.map (·.1), []⟩, by simp, fun h2 hh => hp h2 (fun p hp => by rw [hh p.1 (List.mem_map.2 ⟨p, hp, rfl⟩), he p hp]), hr⟩
def TurnsE (P : Program) (env : Nat → Option (List V)) (f : FuncId) (args : List V) (es : List (Id × Obj)) (d : Id) (o : Obj) (v : V) (o' : Obj) : Prop :=
 ∀ h : H, (∀ p ∈ es, h p.1 = some p.2) → h d = some o → Ret P env f args h v (hset h d o')
theorem Call1_turnE {P : Program} {env : Nat → Option (List V)} {k : FuncId} {args : List V} {h : H} {R : Eff → Prop} {es : List (Id × Obj)} {d : Id} {o o' : Obj} {v : V}
    (hp : TurnsE P env k args es d o v o') (he : ∀ p ∈ es, h p.1 = some p.2) (hd : h d = some o) (hr : R ⟨v, d :: es.map (·.1), [(d, o')]⟩) : Call1 P env k args h R :=
  ⟨⟨v, d :: es.map (·.1), [(d, o')]⟩, by simp, fun h2 hh => by
    have := hp h2 (fun p hp => by rw [hh p.1 (by simp only [List.mem_cons, List.mem_map]; exact .inr ⟨p, hp, rfl⟩), he p hp]) (by rw [hh d (by simp), hd])
    simpa [happly] using this, hr⟩

theorem okE_app_owne {P : Program} {env : Nat → Option (List V)} {ops : Array Oper} {draw : Bool} {gen reg : Nat} {rest : List Oper} {i : Nat} {log : List LogE} {Kc : St → Prop}
    {tm : Nat → V} {hp hq h0 : H} {dst : Option Nat} {s : V} {es xs : List (List V)} {cc : Cap} {T U : TyI} {nid : Id} {k : Nat}
    (hown' : OwnS h0 hq s k es) (hkp : Keeps hq hp) (hk : k = T.esize)
    (hc : T.kind = 4 ∧ U.kind = 4 ∧ T.esize ≠ 0 ∧ T.ezero.length = T.esize ∧ es.all (fun e => e.length == T.esize) = true ∧ xs.all (fun e => e.length == T.esize) = true ∧
        xs.flatten.all oneV = true ∧ (es.length + xs.length) * T.ebytes ≤ 140737488355328 ∧ es.length + xs.length ≤ 140737488355328)
    (h1 : h0 nid = none) (h2 : hp nid = none) (hl : draw = true → ∀ e : Eff, logOk ops i e log)
    (next : ∀ v' h' id', OwnS h0 h' v' k (es ++ xs) → (∀ j, isBox (hp j) = true → h' j = hp j) → (Agree h0 hp → Agree h0 h') → (∀ d, AgreeBut d h0 hp → AgreeBut d h0 h') →
      (∀ j, j ≠ nid → hp j = none → h' j = none) → (∀ j, isBox (hp j) = true → (id' = j) = False) → aops P env ops draw gen reg rest (i + 1) ((i, [id'], [id']) :: log) Kc ⟨upd tm dst v', h'⟩) :
    okE P env ops draw gen reg rest dst i log Kc ⟨tm, hp⟩ (appE (some T) (some U) s (.sl cc xs) hp nid) := by
  have hown := hown'.keep hkp
  have go : ∀ id o, (hp id = none ∨ ∃ n q, hp id = some (.tok n q)) → h0 id = none → (hp id = none → id = nid) → (∀ j, isBox (hp j) = true → hset hp id o j = hp j) ∧
      (Agree h0 hp → Agree h0 (hset hp id o)) ∧ (∀ d, AgreeBut d h0 hp → AgreeBut d h0 (hset hp id o)) ∧ (∀ j, j ≠ nid → hp j = none → hset hp id o j = none) ∧ (∀ j, isBox (hp j) = true → (id = j) = False) := by
    intro id o hid h0id hn
    refine ⟨fun j hj => ?_, fun a => a.new h0id, fun d a => a.new h0id, fun j hj hjn => ?_, fun j hj => ?_⟩
    · have : j ≠ id := by
        intro e; subst e
        rcases hid with h | ⟨n, q, h⟩ <;> rw [h] at hj <;> simp [isBox] at hj
      exact hset_other this
    · have : j ≠ id := by
        intro e; subst e
        exact hj (hn hjn)
      rw [hset_other this]; exact hjn
    · simp only [eq_iff_iff, iff_false]
      intro e; subst e
      rcases hid with h | ⟨n, q, h⟩ <;> rw [h] at hj <;> simp [isBox] at hj
  rcases hown with rfl | ⟨id, rfl, h3, h4⟩
  · simp only [appE]
    rw [if_pos hc]
    simp only [h2, okE, happly, St.put]
    obtain ⟨g1, g2, g3, g4, g5⟩ := go nid (.tok (es.length + xs.length) T.esize) (.inl h2) h1 (fun _ => rfl)
    exact ⟨fun hd => hl hd _, next _ _ _ (.inr ⟨nid, rfl, by rw [hset_same, List.length_append, hk], h1⟩) g1 g2 g3 g4 g5⟩
  · simp only [appE]
    rw [if_pos hc]
    simp only [h3, hk, and_self, if_true, okE, happly, St.put]
    obtain ⟨g1, g2, g3, g4, g5⟩ := go id (.tok (es.length + xs.length) T.esize) (.inr ⟨_, _, h3⟩) h4 (fun e => by rw [e] at h3; cases h3)
    exact ⟨fun hd => hl hd _, next _ _ _ (.inr ⟨id, rfl, by rw [hset_same, List.length_append, hk], h4⟩) g1 g2 g3 g4 g5⟩

theorem AR_fall {c : Ctx} {gen : Nat} {σ : St} (h : AR c gen [] .ret σ) : AR c gen [] .normal σ := fun ok hm g a w hx r => h ok hm g a w hx r
end GoAbs
