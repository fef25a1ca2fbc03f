/-
  The abstract layer: plain laws.
-/
import Derived.Test.YtnhjlnkogoihhaaGreatDoorAbsC
set_option linter.unusedSimpArgs false
set_option linter.unusedVariables false
set_option linter.unusedSectionVars false
namespace GoAbs
open Go

theorem Ty.nodes_mk (k : Int) (l : List Ty) : (Ty.mk k l).nodes = match tyWant k with | none => none | some w => if (l.length : Int) == w then Ty.nodesL 1 l else none := by rw [Ty.nodes]; rfl
theorem Tm.nodes_mk (k i : Int) (t : Ty) (l : List Tm) : (Tm.mk k i t l).nodes = if tmHead k i t l.length then Tm.nodesL 1 l else none := by rw [Tm.nodes]
theorem Fm.nodes_mk (k : Int) (t : Ty) (l : List Tm) (a : List Fm) :
    (Fm.mk k t l a).nodes = if formed k t l.length a.length then (match Tm.nodesL 1 l with | none => none | some n => Fm.nodesL n a) else none := by rw [Fm.nodes]; rfl
theorem Tm.nodes_ok {k i : Int} {t : Ty} {l : List Tm} (h : tmHead k i t l.length = true) (hn : Tm.nodesL 1 l ≠ none) : (Tm.mk k i t l).nodes ≠ none := by
  rw [Tm.nodes_mk, h]; exact hn
theorem Fm.nodes_ok {k : Int} {t : Ty} {l : List Tm} {a : List Fm} {n : Int} (h : formed k t l.length a.length = true) (hl : Tm.nodesL 1 l = some n) (hn : Fm.nodesL n a ≠ none) :
    (Fm.mk k t l a).nodes ≠ none := by
  rw [Fm.nodes_mk, h, hl]; exact hn

mutual
def tySz : Ty → Nat
  | .mk _ l => tySzL l + 1
def tySzL : List Ty → Nat
  | [] => 0
  | t :: l => tySz t + tySzL l
end
theorem tySz_nat : tySz tNat = 1 := by simp [tNat, tySz, tySzL]
theorem tySz_list : tySz tList = 1 := by simp [tList, tySz, tySzL]
theorem tySz_unit : tySz tUnit = 1 := by simp [tUnit, tySz, tySzL]
theorem tySz_pair {a b : Ty} : tySz (tPair a b) = tySz a + tySz b + 1 := by simp [tPair, tySz, tySzL]
theorem tySz_fun {a b : Ty} : tySz (tFun a b) = tySz a + tySz b + 1 := by simp [tFun, tySz, tySzL]
theorem tySz_pos (t : Ty) : 1 ≤ tySz t := by cases t; simp [tySz]

theorem nodes_two {k : Int} {a b : Ty} {x y : Nat} (hk : k = 3 ∨ k = 4) (ha : a.nodes = some (x : Int)) (hb : b.nodes = some (y : Int)) (h : x + y + 1 ≤ 1000000) :
    (Ty.mk k [a, b]).nodes = some ((x + y + 1 : Nat) : Int) := by
  have hw : tyWant k = some 2 := by rcases hk with rfl | rfl <;> rfl
  rw [Ty.nodes_mk, hw]
  have hl : (([a, b] : List Ty).length : Int) = 2 := rfl
  simp only [hl, beq_self_eq_true, if_true]
  have e1 : IntKind.i64.wrap (1 + (x : Int)) = ((x + 1 : Nat) : Int) := wrap_eq (by omega) (by omega) (by omega)
  have e2 : IntKind.i64.wrap (((x + 1 : Nat) : Int) + (y : Int)) = ((x + y + 1 : Nat) : Int) := wrap_eq (by omega) (by omega) (by omega)
  rw [Ty.nodesL_some ha, Ty.nodesL_some hb, Ty.nodesL_nil, e1, e2]

theorem TyF.nodes {t : Ty} (h : TyF t) : tySz t ≤ 1000000 → t.nodes = some (tySz t : Int) := by
  induction h with
  | nat => intro _; rfl
  | list => intro _; rfl
  | unit => intro _; rfl
  | pair _ _ h1 h2 => intro hs; rw [tySz_pair] at hs ⊢; exact nodes_two (.inl rfl) (h1 (by omega)) (h2 (by omega)) (by omega)
  | func _ _ h1 h2 => intro hs; rw [tySz_fun] at hs ⊢; exact nodes_two (.inr rfl) (h1 (by omega)) (h2 (by omega)) (by omega)

/-- Well made and not too large. -/
def TyG (t : Ty) : Prop := TyF t ∧ tySz t ≤ 64
theorem TyF.err {t : Ty} (h : TyF t) (hs : tySz t ≤ 1000000) : tyErr t = if tySz t ≤ 64 then 0 else 4 := by
  unfold tyErr
  rw [h.nodes hs, chk]
  by_cases h64 : tySz t ≤ 64
  · rw [if_neg (by omega), if_pos h64]
  · rw [if_pos (by omega), if_neg h64]
theorem TyG.err {t : Ty} (h : TyG t) : tyErr t = 0 := by rw [h.1.err (by have := h.2; omega), if_pos h.2]
theorem TyG.nat : TyG tNat := ⟨.nat, by rw [tySz_nat]; omega⟩
theorem TyG.list : TyG tList := ⟨.list, by rw [tySz_list]; omega⟩
theorem TyG.unit : TyG tUnit := ⟨.unit, by rw [tySz_unit]; omega⟩
theorem TyG.pair1 {a b : Ty} (h : TyG (tPair a b)) : TyG a ∧ TyG b := by
  obtain ⟨h1, h2⟩ := h
  rw [tySz_pair] at h2
  cases h1 with | pair ha hb => exact ⟨⟨ha, by omega⟩, ⟨hb, by omega⟩⟩
theorem TyG.fun1 {a b : Ty} (h : TyG (tFun a b)) : TyG a ∧ TyG b := by
  obtain ⟨h1, h2⟩ := h
  rw [tySz_fun] at h2
  cases h1 with | func ha hb => exact ⟨⟨ha, by omega⟩, ⟨hb, by omega⟩⟩
theorem MkTy.sz0 {t : Ty} (h : MkTy 0 t) : tySz t = 1 := by
  cases h with
  | nat => exact tySz_nat
  | list => exact tySz_list
  | unit => exact tySz_unit
theorem MkTy.sz1 {t : Ty} (h : MkTy 1 t) : tySz t ≤ 3 := by
  cases h with
  | nat => rw [tySz_nat]; omega
  | list => rw [tySz_list]; omega
  | unit => rw [tySz_unit]; omega
  | pair h1 h2 => rw [tySz_pair, h1.sz0, h2.sz0]; omega
  | func h1 h2 => rw [tySz_fun, h1.sz0, h2.sz0]; omega
theorem MkTy.G {n : Nat} (hn : n ≤ 1) {t : Ty} (h : MkTy n t) : TyG t := ⟨h.F, by have := (h.up hn).sz1; omega⟩

theorem Tm.nodesL_ne : ∀ {l : List Tm} {n : Int}, (∀ x ∈ l, x.nodes ≠ none) → Tm.nodesL n l ≠ none
  | [], n, _ => by rw [Tm.nodesL_nil]; simp
  | x :: l, n, h => by
    cases hx : x.nodes with
    | none => exact absurd hx (h x (by simp))
    | some k => rw [Tm.nodesL_some hx]; exact Tm.nodesL_ne (fun y hy => h y (by simp [hy]))
theorem Fm.nodesL_ne : ∀ {l : List Fm} {n : Int}, (∀ x ∈ l, x.nodes ≠ none) → Fm.nodesL n l ≠ none
  | [], n, _ => by rw [Fm.nodesL_nil]; simp
  | x :: l, n, h => by
    cases hx : x.nodes with
    | none => exact absurd hx (h x (by simp))
    | some k => rw [Fm.nodesL_some hx]; exact Fm.nodesL_ne (fun y hy => h y (by simp [hy]))

/-- Well made terms. -/
inductive TmG : Tm → Prop
  | plain {k : Int} {l : List Tm} {a : Int} (ha : arity k = some a) (hl : (l.length : Int) = a) (ht : typed k = false) (h : ∀ x ∈ l, TmG x) : TmG (tm0 k l)
  | var {i : Int} (hi : 0 ≤ i) : TmG (tmVar i)
  | typd {k : Int} {t : Ty} {l : List Tm} {a : Int} (ha : arity k = some a) (hl : (l.length : Int) = a) (ht : typed k = true) (hg : TyG t) (h : ∀ x ∈ l, TmG x) : TmG (tmT k t l)
theorem TmG.nodes {t : Tm} (h : TmG t) : t.nodes ≠ none := by
  induction h with
  | @plain k l a ha hl ht _ ih =>
    have : tmHead k 0 (.mk 0 []) l.length = true := by simp [tmHead, ha, hl, ht, noType, Ty.kind, Ty.args]
    exact Tm.nodes_ok this (Tm.nodesL_ne ih)
  | @var i hi =>
    have : tmHead 1 i (.mk 0 []) ([] : List Tm).length = true := by simp [tmHead, arity, arities, hi, typed, noType, Ty.kind, Ty.args]
    exact Tm.nodes_ok this (Tm.nodesL_ne (by simp))
  | @typd k t l a ha hl ht hg _ ih =>
    have : tmHead k 0 t l.length = true := by simp [tmHead, ha, hl, ht, hg.err]
    exact Tm.nodes_ok this (Tm.nodesL_ne ih)

theorem ar4 : arity 4 = some 0 := rfl
theorem ar5 : arity 5 = some 1 := rfl
theorem ar3 : arity 3 = some 2 := rfl
theorem ar2 : arity 2 = some 1 := rfl
theorem ar6 : arity 6 = some 3 := rfl
theorem ar7 : arity 7 = some 0 := rfl
theorem ar8 : arity 8 = some 2 := rfl
theorem ar9 : arity 9 = some 3 := rfl
theorem ar10 : arity 10 = some 2 := rfl
theorem ar11 : arity 11 = some 1 := rfl
theorem ar12 : arity 12 = some 1 := rfl
theorem ar13 : arity 13 = some 0 := rfl
theorem TmG.t0 {k : Int} (ha : arity k = some 0) (ht : typed k = false) : TmG (tm0 k []) := .plain ha rfl ht (by simp)
theorem TmG.t1 {k : Int} {a : Tm} (ha : arity k = some 1) (ht : typed k = false) (h1 : TmG a) : TmG (tm0 k [a]) := .plain ha rfl ht (by simp [h1])
theorem TmG.t2 {k : Int} {a b : Tm} (ha : arity k = some 2) (ht : typed k = false) (h1 : TmG a) (h2 : TmG b) : TmG (tm0 k [a, b]) := .plain ha rfl ht (by simp [h1, h2])
theorem TmG.lam {t : Ty} {a : Tm} (hg : TyG t) (h1 : TmG a) : TmG (tmT 2 t [a]) := .typd ar2 rfl rfl hg (by simp [h1])
theorem TmG.recr {t : Ty} {a b c : Tm} (hg : TyG t) (h1 : TmG a) (h2 : TmG b) (h3 : TmG c) : TmG (tmT 6 t [a, b, c]) := .typd ar6 rfl rfl hg (by simp [h1, h2, h3])
theorem TmG.fold {t : Ty} {a b c : Tm} (hg : TyG t) (h1 : TmG a) (h2 : TmG b) (h3 : TmG c) : TmG (tmT 9 t [a, b, c]) := .typd ar9 rfl rfl hg (by simp [h1, h2, h3])
theorem numT_G : ∀ n, TmG (numT n)
  | 0 => .t0 ar4 rfl
  | n + 1 => .t1 ar5 rfl (numT_G n)
theorem lamN_G {t : Tm} (h : TmG t) : TmG (lamN t) := .lam .nat h
theorem recN_G {a b c : Tm} (h1 : TmG a) (h2 : TmG b) (h3 : TmG c) : TmG (recN a b c) := .recr .nat h1 h2 h3
theorem v0_G : TmG (tmVar 0) := .var (by omega)
theorem v1_G : TmG (tmVar 1) := .var (by omega)
theorem predT_G : TmG predT := lamN_G (recN_G (.t0 ar4 rfl) (lamN_G (lamN_G v1_G)) v0_G)
theorem plusT_G : TmG plusT := lamN_G (lamN_G (recN_G v1_G (lamN_G (lamN_G (.t1 ar5 rfl v0_G))) v0_G))
theorem subT_G : TmG subT := lamN_G (lamN_G (recN_G v1_G (lamN_G (lamN_G (.t2 ar3 rfl predT_G v0_G))) v0_G))

theorem MkTm.G {n : Nat} {g : List Ty} {t : Ty} {x : Tm} (h : MkTm n g t x) (hg : ∀ y ∈ g, TyG y) (ht : TyG t) : TmG x := by
  have app : ∀ {g l : List Ty}, (∀ y ∈ g, TyG y) → (∀ y ∈ l, TyG y) → ∀ y ∈ g ++ l, TyG y := by
    intro g l h1 h2 y hy
    rcases List.mem_append.1 hy with hy | hy
    · exact h1 y hy
    · exact h2 y hy
  induction h with
  | var => exact .var (by omega)
  | app hs _ _ h1 h2 =>
    have hsG := hs.G (by omega)
    exact .t2 ar3 rfl (.lam hsG (h1 (app hg (by simp [hsG])) ht)) (h2 hg hsG)
  | fst hs _ _ h1 h2 => exact .t1 ar11 rfl (.t2 ar10 rfl (h1 hg ht) (h2 hg (hs.G (by omega))))
  | snd hs _ _ h1 h2 => exact .t1 ar12 rfl (.t2 ar10 rfl (h1 hg (hs.G (by omega))) (h2 hg ht))
  | recr hk _ _ h1 h2 => exact .recr ht (h2 hg ht) (.lam .nat (.lam ht (h1 (app hg (by simp [ht, TyG.nat])) ht))) (numT_G _)
  | fold _ _ _ h1 h2 h3 => exact .fold ht (h2 hg ht) (.lam .nat (.lam .list (.lam ht (h1 (app hg (by simp [ht, TyG.nat, TyG.list])) ht)))) (h3 hg .list)
  | fapp hi h _ h1 => exact .t2 ar3 rfl (.var (by omega)) (h1 hg (hg _ (List.mem_of_getElem? h)).fun1.1)
  | succ _ h1 => exact .t1 ar5 rfl (h1 hg ht)
  | plus _ _ h1 h2 => exact .t2 ar3 rfl (.t2 ar3 rfl plusT_G (h1 hg ht)) (h2 hg ht)
  | sub _ _ h1 h2 => exact .t2 ar3 rfl (.t2 ar3 rfl subT_G (h1 hg ht)) (h2 hg ht)
  | num => exact numT_G _
  | cons _ _ h1 h2 => exact .t2 ar8 rfl (h1 hg .nat) (h2 hg ht)
  | nil => exact .t0 ar7 rfl
  | pair _ _ h1 h2 => exact .t2 ar10 rfl (h1 hg ht.pair1.1) (h2 hg ht.pair1.2)
  | lam _ h1 => exact .lam ht.fun1.1 (h1 (app hg (by simp [ht.fun1.1])) ht.fun1.2)
  | unit => exact .t0 ar13 rfl

/-- Well made formulas; u: with uniform quantifiers. -/
inductive FmG (u : Bool) : Fm → Prop
  | eq {x y : Tm} : TmG x → TmG y → FmG u (fmEq x y)
  | two {k : Int} {a b : Fm} (hk : k = 2 ∨ k = 3) : FmG u a → FmG u b → FmG u (fmTwo k a b)
  | q {k : Int} {s : Ty} {a : Fm} (hk : k = 4 ∨ k = 5 ∨ (u = true ∧ (k = 6 ∨ k = 7))) (hs : TyG s) : FmG u a → FmG u (fmQ k s a)
theorem MkFm.G {u : Bool} {n : Nat} {g : List Ty} {f : Fm} (h : MkFm u n g f) (hg : ∀ y ∈ g, TyG y) : FmG u f := by
  induction h with
  | eq h1 h2 => exact .eq (h1.G hg .nat) (h2.G hg .nat)
  | two hk _ _ h1 h2 => exact .two hk (h1 hg) (h2 hg)
  | q hk hs _ h1 =>
    have hG := hs.G (by split <;> omega)
    refine .q hk hG (h1 ?_)
    intro y hy
    rcases List.mem_append.1 hy with hy | hy
    · exact hg y hy
    · simp at hy; subst hy; exact hG

theorem FmG.nodes {u : Bool} {f : Fm} (h : FmG u f) : f.nodes ≠ none := by
  induction h with
  | @eq x y h1 h2 =>
    have hn := Tm.nodesL_ne (n := 1) (l := [x, y]) (by simp [h1.nodes, h2.nodes])
    cases hx : Tm.nodesL 1 [x, y] with
    | none => exact absurd hx hn
    | some k => exact Fm.nodes_ok rfl hx (by rw [Fm.nodesL_nil]; simp)
  | @two k a b hk _ _ h1 h2 =>
    have : formed k (.mk 0 []) ([] : List Tm).length [a, b].length = true := by rcases hk with rfl | rfl <;> rfl
    exact Fm.nodes_ok this (Tm.nodesL_nil 1) (Fm.nodesL_ne (by simp [h1, h2]))
  | @q k s a hk hs _ h1 =>
    have : formed k s ([] : List Tm).length [a].length = true := by
      rcases hk with rfl | rfl | ⟨_, rfl | rfl⟩ <;> simp [formed, fmWant, hs.err]
    exact Fm.nodes_ok this (Tm.nodesL_nil 1) (Fm.nodesL_ne (by simp [h1]))

theorem FmG.uni {f : Fm} (h : FmG false f) : f.uni = false := by
  induction h with
  | eq => rw [Fm.uni_eq]; simp [fmEq, Fm.kind, Fm.args, Fm.uniL_nil]
  | two hk _ _ h1 h2 => rw [Fm.uni_eq]; rcases hk with rfl | rfl <;> simp [fmTwo, Fm.kind, Fm.args, Fm.uniL_nil, Fm.uniL_cons, h1, h2]
  | q hk _ _ h1 => rw [Fm.uni_eq]; rcases hk with rfl | rfl | ⟨h, _⟩ <;> first | (simp [fmQ, Fm.kind, Fm.args, Fm.uniL_nil, Fm.uniL_cons, h1]; done) | cases h

theorem FmG.err {u : Bool} {f : Fm} (h : FmG u f) : fmErr f = 0 ∨ fmErr f = 4 := by
  unfold fmErr
  cases hn : f.nodes with
  | none => exact absurd hn h.nodes
  | some n => simp only [chk]; split <;> simp

theorem chPair_F {a b : Ty} (ha : TyF a) (hb : TyF b) : TyF (chPair a b) := by
  unfold chPair; repeat' split
  all_goals first | assumption | exact .pair ha hb
theorem chFun_F {a b : Ty} (ha : TyF a) (hb : TyF b) : TyF (chFun a b) := by
  unfold chFun; repeat' split
  all_goals first | assumption | exact .unit | exact .func ha hb
theorem chPair_sz {a b : Ty} : tySz (chPair a b) ≤ tySz a + tySz b + 1 := by
  unfold chPair; repeat' split
  · omega
  · omega
  · rw [tySz_pair]; omega
theorem chFun_sz {a b : Ty} : tySz (chFun a b) ≤ tySz a + tySz b + 1 := by
  unfold chFun; repeat' split
  · rw [tySz_unit]; omega
  · omega
  · rw [tySz_fun]; omega

theorem sized_cases {a b : Ty} (ha : TyF a) (hb : TyF b) (sa : tySz a ≤ 1000000) (sb : tySz b ≤ 1000000) :
    (sized a b = ((a, b), 0) ∧ TyG a ∧ TyG b) ∨ (sized a b = ((tZero, tZero), 4) ∧ ¬ (TyG a ∧ TyG b)) := by
  have ea := ha.err sa
  have eb := hb.err sb
  unfold sized
  rw [ea, eb]
  by_cases h1 : tySz a ≤ 64 <;> by_cases h2 : tySz b ≤ 64 <;> simp [h1, h2, TyG, ha, hb]

/-- The types of a formula's witnesses and challenges are well made, or it is said that they are too large. -/
def ChOk (r : (Ty × Ty) × Int) : Prop := (r.2 = 0 ∧ TyG r.1.1 ∧ TyG r.1.2) ∨ r.2 = 4
theorem sized_ok {a b : Ty} (ha : TyF a) (hb : TyF b) (sa : tySz a ≤ 1000000) (sb : tySz b ≤ 1000000) : ChOk (sized a b) := by
  rcases sized_cases ha hb sa sb with ⟨h, h1, h2⟩ | ⟨h, _⟩
  · rw [h]; exact .inl ⟨rfl, h1, h2⟩
  · rw [h]; exact .inr rfl

theorem ch_two {k : Int} {a b : Fm} : (fmTwo k a b).ch = if a.ch.2 == 0 then (if b.ch.2 == 0 then sized (chCase k (.mk 0 []) [a.ch.1, b.ch.1]).1 (chCase k (.mk 0 []) [a.ch.1, b.ch.1]).2
    else ((tZero, tZero), b.ch.2)) else ((tZero, tZero), a.ch.2) := by
  rw [Fm.ch_eq]
  simp only [fmTwo, Fm.kind, Fm.type, Fm.args, Fm.chL_cons, Fm.chL_nil, List.nil_append, List.cons_append]
theorem ch_q {k : Int} {s : Ty} {a : Fm} : (fmQ k s a).ch = if a.ch.2 == 0 then sized (chCase k s [a.ch.1]).1 (chCase k s [a.ch.1]).2 else ((tZero, tZero), a.ch.2) := by
  rw [Fm.ch_eq]
  simp only [fmQ, Fm.kind, Fm.type, Fm.args, Fm.chL_cons, Fm.chL_nil, List.nil_append, List.cons_append]
theorem ch_eqn {x y : Tm} : (fmEq x y).ch = ((tUnit, tUnit), 0) := by
  rw [Fm.ch_eq]
  simp only [fmEq, Fm.kind, Fm.type, Fm.args, Fm.chL_nil]
  rfl

theorem FmG.ch {f : Fm} (h : FmG false f) : ChOk f.ch := by
  induction h with
  | eq => rw [ch_eqn]; exact .inl ⟨rfl, .unit, .unit⟩
  | @two k a b hk _ _ h1 h2 =>
    rw [ch_two]
    rcases h1 with ⟨e1, a1, a2⟩ | e1
    · rcases h2 with ⟨e2, b1, b2⟩ | e2
      · rw [e1, e2]
        simp only [beq_self_eq_true, if_true]
        have p1 := a1.2
        have p2 := a2.2
        have p3 := b1.2
        have p4 := b2.2
        rcases hk with rfl | rfl
        · simp only [chCase, List.getD_cons_zero, List.getD_cons_succ, Int.reduceBEq, if_true]
          have q1 := chPair_sz (a := a.ch.1.1) (b := b.ch.1.1)
          have q2 := chPair_sz (a := a.ch.1.2) (b := b.ch.1.2)
          exact sized_ok (chPair_F a1.1 b1.1) (chPair_F a2.1 b2.1) (by omega) (by omega)
        · simp only [chCase, List.getD_cons_zero, List.getD_cons_succ, Int.reduceBEq, if_true, Bool.false_eq_true, if_false]
          have q1 := chFun_sz (a := a.ch.1.1) (b := b.ch.1.1)
          have q2 := chFun_sz (a := b.ch.1.2) (b := a.ch.1.2)
          have q3 := chFun_sz (a := a.ch.1.1) (b := chFun b.ch.1.2 a.ch.1.2)
          have q4 := chPair_sz (a := chFun a.ch.1.1 b.ch.1.1) (b := chFun a.ch.1.1 (chFun b.ch.1.2 a.ch.1.2))
          have q5 := chPair_sz (a := a.ch.1.1) (b := b.ch.1.2)
          exact sized_ok (chPair_F (chFun_F a1.1 b1.1) (chFun_F a1.1 (chFun_F b2.1 a2.1))) (chPair_F a1.1 b2.1) (by omega) (by omega)
      · rw [e1, e2]; exact .inr rfl
    · rw [e1]; exact .inr rfl
  | @q k s a hk hs _ h1 =>
    rw [ch_q]
    rcases h1 with ⟨e1, a1, a2⟩ | e1
    · rw [e1]
      simp only [beq_self_eq_true, if_true]
      have p1 := a1.2
      have p2 := a2.2
      have p3 := hs.2
      rcases hk with rfl | rfl | ⟨h, _⟩
      · simp only [chCase, List.getD_cons_zero, List.getD_cons_succ, Int.reduceBEq, if_true, Bool.false_eq_true, if_false]
        have q1 := chFun_sz (a := s) (b := a.ch.1.1)
        have q2 := chPair_sz (a := s) (b := a.ch.1.2)
        exact sized_ok (chFun_F hs.1 a1.1) (chPair_F hs.1 a2.1) (by omega) (by omega)
      · simp only [chCase, List.getD_cons_zero, List.getD_cons_succ, Int.reduceBEq, if_true, Bool.false_eq_true, if_false]
        have q1 := chPair_sz (a := s) (b := a.ch.1.1)
        exact sized_ok (chPair_F hs.1 a1.1) a2.1 (by omega) (by omega)
      · cases h
    · rw [e1]; exact .inr rfl

theorem FmG.look {f : Fm} (h : FmG false f) : (fmErr f = 0 ∧ f.look = f.ch ∧ f.ch.2 = 0 ∧ TyG f.ch.1.1 ∧ TyG f.ch.1.2) ∨ f.look.2 = 4 := by
  unfold Fm.look
  rcases h.err with he | he
  · simp only [he, beq_self_eq_true, if_true, h.uni, Bool.false_eq_true, if_false]
    rcases h.ch with ⟨h1, h2, h3⟩ | h1
    · exact .inl ⟨trivial, trivial, h1, h2, h3⟩
    · exact .inr h1
  · right; rw [he]; rfl

theorem FmG.look0 {f : Fm} (h : FmG false f) : f.look.2 = 0 ∨ f.look.2 = 4 := by
  rcases h.look with ⟨_, h1, h2, _⟩ | h
  · left; rw [h1, h2]
  · exact .inr h
theorem Fm.look_W (f : Fm) (h : FmW f) : TyW f.look.1.1 ∧ TyW f.look.1.2 := by
  unfold Fm.look
  repeat' split
  all_goals first | exact ⟨tZero_W, tZero_W⟩ | exact Fm.ch_W f h
def falseF : Fm := fmEq (tm0 4 []) (tm0 5 [tm0 4 []])
theorem falseF_G {u : Bool} : FmG u falseF := .eq (.t0 ar4 rfl) (.t1 ar5 rfl (.t0 ar4 rfl))
theorem falseF_W : FmW falseF := fmEq_W tm0_W0 (tm0_W1 tm0_W0)

theorem TyF.kind5 {t : Ty} (h : TyF t) (hk : (t.kind == 5) = true) : t = tUnit := by
  cases h with
  | unit => rfl
  | _ => simp [tNat, tList, tPair, tFun, Ty.kind] at hk

/-- The law of negation. -/
theorem law_not {f : Fm} (h : FmG false f) :
    (f.look.2 = 0 ∧ (fmTwo 3 f falseF).look.2 = 0 ∧ (fmTwo 3 f falseF).look.1.1 = chFun f.look.1.1 f.look.1.2 ∧ (fmTwo 3 f falseF).look.1.2 = f.look.1.1) ∨
    f.look.2 = 4 ∨ (fmTwo 3 f falseF).look.2 = 4 := by
  have h2 : FmG false (fmTwo 3 f falseF) := .two (.inr rfl) h falseF_G
  rcases h.look with ⟨_, e1, e2, g1, g2⟩ | e
  · rcases h2.look with ⟨_, e3, e4, _, _⟩ | e
    · left
      rw [e1, e3]
      refine ⟨e2, e4, ?_⟩
      have hch : (fmTwo 3 f falseF).ch = sized (chPair (chFun f.ch.1.1 tUnit) (chFun f.ch.1.1 (chFun tUnit f.ch.1.2))) (chPair f.ch.1.1 tUnit) := by
        rw [ch_two, e2]
        simp only [falseF, ch_eqn, beq_self_eq_true, if_true, chCase, List.getD_cons_zero, List.getD_cons_succ, Int.reduceBEq, Bool.false_eq_true, if_false]
      have hs : (sized (chPair (chFun f.ch.1.1 tUnit) (chFun f.ch.1.1 (chFun tUnit f.ch.1.2))) (chPair f.ch.1.1 tUnit)).2 = 0 := by rw [← hch]; exact e4
      have hs2 : sized (chPair (chFun f.ch.1.1 tUnit) (chFun f.ch.1.1 (chFun tUnit f.ch.1.2))) (chPair f.ch.1.1 tUnit) =
          ((chPair (chFun f.ch.1.1 tUnit) (chFun f.ch.1.1 (chFun tUnit f.ch.1.2)), chPair f.ch.1.1 tUnit), 0) := by
        unfold sized at hs ⊢
        split at hs
        · rename_i h'; exact absurd hs h'
        · rename_i h'
          rw [if_neg h']
          split at hs
          · rename_i h''; exact absurd hs h''
          · rename_i h''; rw [if_neg h'']
      rw [hch, hs2]
      have u5 : (tUnit.kind == 5) = true := rfl
      have x1 : chFun f.ch.1.1 tUnit = tUnit := by simp only [chFun, u5, if_true]
      have x2 : ∀ t, chPair tUnit t = t := fun t => by simp only [chPair, u5, if_true]
      constructor
      · rw [x1, x2]
        cases hk : (f.ch.1.2.kind == 5) with
        | true =>
          have := g2.1.kind5 hk
          rw [this]; simp only [chFun, u5, if_true]
        | false =>
          have : chFun tUnit f.ch.1.2 = f.ch.1.2 := by simp only [chFun, hk, u5, if_true, Bool.false_eq_true, if_false]
          rw [this]
      · cases hk : (f.ch.1.1.kind == 5) with
        | true =>
          have := g1.1.kind5 hk
          rw [this, x2]
        | false => simp only [chPair, hk, u5, if_true, Bool.false_eq_true, if_false]
    · exact .inr (.inr e)
  · exact .inr (.inl e)
end GoAbs

namespace GoAbs
open Go

mutual
def tmSz : Tm → Nat
  | .mk _ _ _ l => tmSzL l + 1
def tmSzL : List Tm → Nat
  | [] => 0
  | t :: l => tmSz t + tmSzL l
end
mutual
def fmSz : Fm → Nat
  | .mk _ _ l a => tmSzL l + fmSzL a + 1
def fmSzL : List Fm → Nat
  | [] => 0
  | t :: l => fmSz t + fmSzL l
end
theorem tmSz_0 {k : Int} : tmSz (tm0 k []) = 1 := by simp [tm0, tmSz, tmSzL]
theorem tmSz_v {k : Int} : tmSz (tmVar k) = 1 := by simp [tmVar, tmSz, tmSzL]
theorem tmSz_1 {k : Int} {a : Tm} : tmSz (tm0 k [a]) = tmSz a + 1 := by simp [tm0, tmSz, tmSzL]
theorem tmSz_2 {k : Int} {a b : Tm} : tmSz (tm0 k [a, b]) = tmSz a + tmSz b + 1 := by simp [tm0, tmSz, tmSzL]
theorem tmSz_T1 {k : Int} {t : Ty} {a : Tm} : tmSz (tmT k t [a]) = tmSz a + 1 := by simp [tmT, tmSz, tmSzL]
theorem tmSz_T3 {k : Int} {t : Ty} {a b c : Tm} : tmSz (tmT k t [a, b, c]) = tmSz a + (tmSz b + tmSz c) + 1 := by simp [tmT, tmSz, tmSzL]
theorem tmSz_num : ∀ n, tmSz (numT n) = n + 1
  | 0 => by rw [numT, tmSz_0]
  | n + 1 => by rw [numT, tmSz_1, tmSz_num n]
theorem fmSz_eq {x y : Tm} : fmSz (fmEq x y) = tmSz x + tmSz y + 1 := by simp [fmEq, fmSz, fmSzL, tmSzL]
theorem fmSz_two {k : Int} {x y : Fm} : fmSz (fmTwo k x y) = fmSz x + fmSz y + 1 := by simp [fmTwo, fmSz, fmSzL, tmSzL]
theorem fmSz_q {k : Int} {t : Ty} {x : Fm} : fmSz (fmQ k t x) = fmSz x + 1 := by simp [fmQ, fmSz, fmSzL, tmSzL]
theorem tmSz_plus : tmSz plusT = 9 := by simp [plusT, lamN, recN, tmSz_T1, tmSz_T3, tmSz_v, tmSz_1]
theorem tmSz_sub : tmSz subT = 16 := by simp [subT, predT, lamN, recN, tmSz_T1, tmSz_T3, tmSz_v, tmSz_1, tmSz_2, tmSz_0]

theorem Tm.nodesL_sum : ∀ {l : List Tm} {n : Nat}, (∀ x ∈ l, tmSz x ≤ 1000000 → x.nodes = some (tmSz x : Int)) → n + tmSzL l ≤ 1000000 →
    Tm.nodesL (n : Int) l = some ((n + tmSzL l : Nat) : Int)
  | [], n, _, _ => by rw [Tm.nodesL_nil]; simp [tmSzL]
  | x :: l, n, h, hs => by
    rw [tmSzL] at hs
    have e : IntKind.i64.wrap ((n : Int) + (tmSz x : Int)) = ((n + tmSz x : Nat) : Int) := wrap_eq (by omega) (by omega) (by omega)
    rw [Tm.nodesL_some (h x (by simp) (by omega)), e, Tm.nodesL_sum (fun y hy => h y (by simp [hy])) (by omega), tmSzL, Nat.add_assoc]
theorem Fm.nodesL_sum : ∀ {l : List Fm} {n : Nat}, (∀ x ∈ l, fmSz x ≤ 1000000 → x.nodes = some (fmSz x : Int)) → n + fmSzL l ≤ 1000000 →
    Fm.nodesL (n : Int) l = some ((n + fmSzL l : Nat) : Int)
  | [], n, _, _ => by rw [Fm.nodesL_nil]; simp [fmSzL]
  | x :: l, n, h, hs => by
    rw [fmSzL] at hs
    have e : IntKind.i64.wrap ((n : Int) + (fmSz x : Int)) = ((n + fmSz x : Nat) : Int) := wrap_eq (by omega) (by omega) (by omega)
    rw [Fm.nodesL_some (h x (by simp) (by omega)), e, Fm.nodesL_sum (fun y hy => h y (by simp [hy])) (by omega), fmSzL, Nat.add_assoc]
theorem tmSzL_mem : ∀ {l : List Tm} {x : Tm}, x ∈ l → tmSz x ≤ tmSzL l
  | y :: l, x, h => by
    rw [tmSzL]
    rcases List.mem_cons.1 h with rfl | h
    · omega
    · have := tmSzL_mem h; omega
theorem Tm.head_val {k i : Int} {t : Ty} {l : List Tm} (h : tmHead k i t l.length = true) (ih : ∀ x ∈ l, tmSz x ≤ 1000000 → x.nodes = some (tmSz x : Int)) (hs : tmSz (.mk k i t l) ≤ 1000000) :
    (Tm.mk k i t l).nodes = some (tmSz (.mk k i t l) : Int) := by
  rw [tmSz] at hs ⊢
  have := Tm.nodesL_sum (n := 1) ih (by omega)
  rw [Tm.nodes_mk, h]
  simp only [if_true]
  rw [Nat.add_comm (tmSzL l) 1]; exact this
theorem TmG.nodes_val {t : Tm} (h : TmG t) : tmSz t ≤ 1000000 → t.nodes = some (tmSz t : Int) := by
  induction h with
  | @plain k l a ha hl ht _ ih =>
    have : tmHead k 0 (.mk 0 []) l.length = true := by simp [tmHead, ha, hl, ht, noType, Ty.kind, Ty.args]
    exact Tm.head_val this ih
  | @var i hi =>
    have : tmHead 1 i (.mk 0 []) ([] : List Tm).length = true := by simp [tmHead, arity, arities, hi, typed, noType, Ty.kind, Ty.args]
    exact Tm.head_val this (by simp)
  | @typd k t l a ha hl ht hg _ ih =>
    have : tmHead k 0 t l.length = true := by simp [tmHead, ha, hl, ht, hg.err]
    exact Tm.head_val this ih
theorem Fm.head_val {k : Int} {t : Ty} {l : List Tm} {a : List Fm} (h : formed k t l.length a.length = true) (hl : ∀ x ∈ l, TmG x)
    (ih : ∀ x ∈ a, fmSz x ≤ 1000000 → x.nodes = some (fmSz x : Int)) (hs : fmSz (.mk k t l a) ≤ 1000000) : (Fm.mk k t l a).nodes = some (fmSz (.mk k t l a) : Int) := by
  rw [fmSz] at hs ⊢
  have h1 := Tm.nodesL_sum (n := 1) (l := l) (fun x hx => (hl x hx).nodes_val) (by omega)
  have h2 := Fm.nodesL_sum (n := 1 + tmSzL l) ih (by omega)
  rw [Fm.nodes_mk, h]
  have h1' : Tm.nodesL 1 l = some ((1 + tmSzL l : Nat) : Int) := h1
  simp only [if_true, h1']
  rw [h2]; congr 2; omega
theorem FmG.nodes_val {u : Bool} {f : Fm} (h : FmG u f) : fmSz f ≤ 1000000 → f.nodes = some (fmSz f : Int) := by
  induction h with
  | @eq x y h1 h2 => exact Fm.head_val rfl (by simp [h1, h2]) (by simp)
  | @two k a b hk _ _ h1 h2 =>
    have : formed k (.mk 0 []) ([] : List Tm).length [a, b].length = true := by rcases hk with rfl | rfl <;> rfl
    exact Fm.head_val this (by simp) (fun x hx => by simp at hx; rcases hx with rfl | rfl <;> assumption)
  | @q k s a hk hs _ h1 =>
    have : formed k s ([] : List Tm).length [a].length = true := by
      rcases hk with rfl | rfl | ⟨_, rfl | rfl⟩ <;> simp [formed, fmWant, hs.err]
    exact Fm.head_val this (by simp) (by intro x hx; simp at hx; subst hx; exact h1)
theorem FmG.err_val {u : Bool} {f : Fm} (h : FmG u f) (hs : fmSz f ≤ 1000000) : fmErr f = if fmSz f ≤ 4096 then 0 else 4 := by
  unfold fmErr
  rw [h.nodes_val hs, chk]
  by_cases h64 : fmSz f ≤ 4096
  · rw [if_neg (by omega), if_pos h64]
  · rw [if_pos (by omega), if_neg h64]

/-- How great a term may become that is made. -/
def bndT (M : Nat) : Nat → Nat
  | 0 => 3 * M
  | n + 1 => 40 + 3 * bndT M n
theorem bndT_ge (M : Nat) : ∀ n, 3 * M ≤ bndT M n
  | 0 => Nat.le_refl _
  | n + 1 => by have := bndT_ge M n; rw [bndT]; omega
theorem MkTm.sz {M : Nat} (hM : 1 ≤ M) {n : Nat} {g : List Ty} {t : Ty} {x : Tm} (h : MkTm n g t x) (hg : ∀ y ∈ g, tySz y ≤ M) (ht : tySz t ≤ M) :
    tmSz x ≤ bndT M n ∧ (n = 0 → tmSz x ≤ 3 * tySz t) := by
  have app : ∀ {g l : List Ty}, (∀ y ∈ g, tySz y ≤ M) → (∀ y ∈ l, tySz y ≤ M) → ∀ y ∈ g ++ l, tySz y ≤ M := by
    intro g l h1 h2 y hy
    rcases List.mem_append.1 hy with hy | hy
    · exact h1 y hy
    · exact h2 y hy
  have nat1 : tySz tNat ≤ M := by rw [tySz_nat]; exact hM
  have list1 : tySz tList ≤ M := by rw [tySz_list]; exact hM
  have small : ∀ {n : Nat} {t : Ty} {x : Tm}, tmSz x ≤ 3 → tmSz x ≤ bndT M n ∧ (n = 0 → tmSz x ≤ 3 * tySz t) := by
    intro n t x hx
    have := bndT_ge M n
    have := tySz_pos t
    exact ⟨by omega, fun _ => by omega⟩
  induction h with
  | var => exact small (by rw [tmSz_v]; omega)
  | @app n g t s b x hs _ _ h1 h2 =>
    have s1 : tySz s ≤ M := by rw [hs.sz0]; exact hM
    have a1 := (h1 (app hg (by simpa using s1)) ht).1
    have a2 := (h2 hg s1).1
    exact ⟨by rw [tmSz_2, tmSz_T1, bndT]; omega, fun h => by omega⟩
  | @fst n g t s x y hs _ _ h1 h2 =>
    have s1 : tySz s ≤ M := by rw [hs.sz0]; exact hM
    have a1 := (h1 hg ht).1
    have a2 := (h2 hg s1).1
    exact ⟨by rw [tmSz_1, tmSz_2, bndT]; omega, fun h => by omega⟩
  | @snd n g t s x y hs _ _ h1 h2 =>
    have s1 : tySz s ≤ M := by rw [hs.sz0]; exact hM
    have a1 := (h1 hg s1).1
    have a2 := (h2 hg ht).1
    exact ⟨by rw [tmSz_1, tmSz_2, bndT]; omega, fun h => by omega⟩
  | recr hk _ _ h1 h2 =>
    have a1 := (h1 (app hg (by simp [nat1, ht])) ht).1
    have a2 := (h2 hg ht).1
    exact ⟨by rw [tmSz_T3, tmSz_T1, tmSz_T1, tmSz_num, bndT]; omega, fun h => by omega⟩
  | fold _ _ _ h1 h2 h3 =>
    have a1 := (h1 (app hg (by simp [nat1, list1, ht])) ht).1
    have a2 := (h2 hg ht).1
    have a3 := (h3 hg list1).1
    exact ⟨by rw [tmSz_T3, tmSz_T1, tmSz_T1, tmSz_T1, bndT]; omega, fun h => by omega⟩
  | fapp hi h _ h1 =>
    have s1 := hg _ (List.mem_of_getElem? h)
    rw [tySz_fun] at s1
    have a1 := (h1 hg (by omega)).1
    exact ⟨by rw [tmSz_2, tmSz_v, bndT]; omega, fun h => by omega⟩
  | succ _ h1 =>
    have a1 := (h1 hg ht).1
    exact ⟨by rw [tmSz_1, bndT]; omega, fun h => by omega⟩
  | plus _ _ h1 h2 =>
    have a1 := (h1 hg ht).1
    have a2 := (h2 hg ht).1
    exact ⟨by rw [tmSz_2, tmSz_2, tmSz_plus, bndT]; omega, fun h => by omega⟩
  | sub _ _ h1 h2 =>
    have a1 := (h1 hg ht).1
    have a2 := (h2 hg ht).1
    exact ⟨by rw [tmSz_2, tmSz_2, tmSz_sub, bndT]; omega, fun h => by omega⟩
  | num hk => exact small (by rw [tmSz_num]; omega)
  | cons _ _ h1 h2 =>
    have a1 := (h1 hg nat1).1
    have a2 := (h2 hg ht).1
    exact ⟨by rw [tmSz_2, bndT]; omega, fun h => by omega⟩
  | nil => exact small (by rw [tmSz_0]; omega)
  | @pair n g a b x y _ _ h1 h2 =>
    rw [tySz_pair] at ht
    have a1 := h1 hg (by omega)
    have a2 := h2 hg (by omega)
    rw [tmSz_2, tySz_pair]
    cases n with
    | zero =>
      have b1 := a1.2 rfl
      have b2 := a2.2 rfl
      exact ⟨by rw [bndT]; omega, fun _ => by omega⟩
    | succ n =>
      have b1 := a1.1
      have b2 := a2.1
      simp only [Nat.add_sub_cancel] at b1 b2
      exact ⟨by rw [bndT]; omega, fun h => by omega⟩
  | @lam n g a b x _ h1 =>
    rw [tySz_fun] at ht
    have a1 := h1 (app hg (by simp; omega)) (by omega)
    rw [tmSz_T1, tySz_fun]
    cases n with
    | zero =>
      have b1 := a1.2 rfl
      exact ⟨by rw [bndT]; omega, fun _ => by omega⟩
    | succ n =>
      have b1 := a1.1
      simp only [Nat.add_sub_cancel] at b1
      exact ⟨by rw [bndT]; omega, fun h => by omega⟩
  | unit => exact small (by rw [tmSz_0]; omega)

/-- The law of formulas without quantifiers. -/
theorem law_free {x y x' y' : Tm} {k : Int} {t : Ty} (hk : k = 2 ∨ k = 3) (h1 : MkTm 1 [] tNat x) (h2 : MkTm 1 [] tNat y) (h3 : MkTm 1 [] tNat x') (h4 : MkTm 1 [] tNat y') (ht : MkTy 1 t) :
    (fmTwo k (fmEq x y) (fmEq x' y')).look = ((tUnit, tUnit), 0) ∧ (fmQ 4 t (fmTwo k (fmEq x y) (fmEq x' y'))).look = ((tUnit, t), 0) ∧
    (fmQ 5 t (fmTwo k (fmEq x y) (fmEq x' y'))).look = ((t, tUnit), 0) := by
  have sz : ∀ {x : Tm}, MkTm 1 [] tNat x → TmG x ∧ tmSz x ≤ 49 := fun h =>
    ⟨h.G (by simp) .nat, (MkTm.sz (M := 1) (by omega) h (by simp) (by rw [tySz_nat]; omega)).1⟩
  obtain ⟨g1, s1⟩ := sz h1
  obtain ⟨g2, s2⟩ := sz h2
  obtain ⟨g3, s3⟩ := sz h3
  obtain ⟨g4, s4⟩ := sz h4
  have tG := ht.G (by omega)
  have gh : FmG false (fmTwo k (fmEq x y) (fmEq x' y')) := .two hk (.eq g1 g2) (.eq g3 g4)
  have sh : fmSz (fmTwo k (fmEq x y) (fmEq x' y')) ≤ 200 := by rw [fmSz_two, fmSz_eq, fmSz_eq]; omega
  have ga : ∀ q, q = 4 ∨ q = 5 → FmG false (fmQ q t (fmTwo k (fmEq x y) (fmEq x' y'))) := fun q hq => .q (by rcases hq with rfl | rfl <;> simp) tG gh
  have look : ∀ {f : Fm}, FmG false f → fmSz f ≤ 300 → f.look = f.ch := by
    intro f hf hs
    unfold Fm.look
    have e : fmErr f = 0 := by rw [hf.err_val (by omega)]; exact if_pos (by omega)
    simp only [e, beq_self_eq_true, if_true, hf.uni, Bool.false_eq_true, if_false]
  have u5 : (tUnit.kind == 5) = true := rfl
  have z1 : sized tUnit tUnit = ((tUnit, tUnit), 0) := rfl
  have hch : (fmTwo k (fmEq x y) (fmEq x' y')).ch = ((tUnit, tUnit), 0) := by
    rw [ch_two, ch_eqn, ch_eqn]
    rcases hk with rfl | rfl <;> rfl
  have e1 : chFun t tUnit = tUnit := by simp only [chFun, u5, if_true]
  have e2 : chPair t tUnit = t := by
    cases hk : (t.kind == 5) with
    | true => rw [tG.1.kind5 hk]; rfl
    | false => simp only [chPair, hk, u5, if_true, Bool.false_eq_true, if_false]
  have su := TyG.unit
  have zt1 : sized tUnit t = ((tUnit, t), 0) := by simp [sized, su.err, tG.err]
  have zt2 : sized t tUnit = ((t, tUnit), 0) := by simp [sized, su.err, tG.err]
  refine ⟨by rw [look gh (by omega), hch], ?_, ?_⟩
  · rw [look (ga 4 (.inl rfl)) (by rw [fmSz_q]; omega), ch_q, hch]
    simp only [beq_self_eq_true, if_true, chCase, List.getD_cons_zero, Int.reduceBEq, Bool.false_eq_true, if_false, e1, e2, zt1]
  · rw [look (ga 5 (.inr rfl)) (by rw [fmSz_q]; omega), ch_q, hch]
    simp only [beq_self_eq_true, if_true, chCase, List.getD_cons_zero, Int.reduceBEq, Bool.false_eq_true, if_false, e1, e2, zt2]
end GoAbs

namespace GoAbs
open Go

def addW (a b : Int) : Int := IntKind.i64.wrap (a + b)
def subW (a b : Int) : Int := IntKind.i64.wrap (a - b)

mutual
def Ty.szW : Ty → Int
  | .mk _ l => Ty.szWL 1 l
def Ty.szWL : Int → List Ty → Int
  | n, [] => n
  | n, t :: l => Ty.szWL (IntKind.i64.wrap (n + t.szW)) l
end
theorem Ty.szW_eq (t : Ty) : t.szW = Ty.szWL 1 t.args := by cases t; rw [Ty.szW]; rfl
theorem Ty.szWL_nil {n : Int} : Ty.szWL n [] = n := by rw [Ty.szWL]
theorem Ty.szWL_cons {n : Int} {t : Ty} {l : List Ty} : Ty.szWL n (t :: l) = Ty.szWL (IntKind.i64.wrap (n + t.szW)) l := by rw [Ty.szWL]
mutual
def Tm.szW : Tm → Int
  | .mk _ _ _ l => Tm.szWL 1 l
def Tm.szWL : Int → List Tm → Int
  | n, [] => n
  | n, t :: l => Tm.szWL (IntKind.i64.wrap (n + t.szW)) l
end
theorem Tm.szW_eq (t : Tm) : t.szW = Tm.szWL 1 t.args := by cases t; rw [Tm.szW]; rfl
theorem Tm.szWL_nil {n : Int} : Tm.szWL n [] = n := by rw [Tm.szWL]
theorem Tm.szWL_cons {n : Int} {t : Tm} {l : List Tm} : Tm.szWL n (t :: l) = Tm.szWL (IntKind.i64.wrap (n + t.szW)) l := by rw [Tm.szWL]
mutual
def Fm.szW : Fm → Int
  | .mk _ _ l a => Fm.szWL (Tm.szWL 1 l) a
def Fm.szWL : Int → List Fm → Int
  | n, [] => n
  | n, t :: l => Fm.szWL (IntKind.i64.wrap (n + t.szW)) l
end
theorem Fm.szW_eq (t : Fm) : t.szW = Fm.szWL (Tm.szWL 1 t.terms) t.args := by cases t; rw [Fm.szW]; rfl
theorem Fm.szWL_nil {n : Int} : Fm.szWL n [] = n := by rw [Fm.szWL]
theorem Fm.szWL_cons {n : Int} {t : Fm} {l : List Fm} : Fm.szWL n (t :: l) = Fm.szWL (IntKind.i64.wrap (n + t.szW)) l := by rw [Fm.szWL]

def Ty.good (t : Ty) : Bool := t.nodes.isSome
def Tm.good (t : Tm) : Bool := t.nodes.isSome
def Fm.good (t : Fm) : Bool := t.nodes.isSome
theorem Ty.nodesL_good : ∀ (l : List Ty) (n : Int), (Ty.nodesL n l).isSome = l.all Ty.good
  | [], n => by rw [Ty.nodesL_nil]; rfl
  | t :: l, n => by
    cases h : t.nodes with
    | none => rw [Ty.nodesL_none h]; simp [Ty.good, h]
    | some k => rw [Ty.nodesL_some h, Ty.nodesL_good l]; simp [Ty.good, h]
theorem Tm.nodesL_good : ∀ (l : List Tm) (n : Int), (Tm.nodesL n l).isSome = l.all Tm.good
  | [], n => by rw [Tm.nodesL_nil]; rfl
  | t :: l, n => by
    cases h : t.nodes with
    | none => rw [Tm.nodesL_none h]; simp [Tm.good, h]
    | some k => rw [Tm.nodesL_some h, Tm.nodesL_good l]; simp [Tm.good, h]
theorem Fm.nodesL_good : ∀ (l : List Fm) (n : Int), (Fm.nodesL n l).isSome = l.all Fm.good
  | [], n => by rw [Fm.nodesL_nil]; rfl
  | t :: l, n => by
    cases h : t.nodes with
    | none => rw [Fm.nodesL_none h]; simp [Fm.good, h]
    | some k => rw [Fm.nodesL_some h, Fm.nodesL_good l]; simp [Fm.good, h]
theorem Ty.good_eq (t : Ty) : t.good = match tyWant t.kind with | none => false | some w => ((t.args.length : Int) == w) && t.args.all Ty.good := by
  show t.nodes.isSome = _
  rw [Ty.nodes_eq]
  cases tyWant t.kind with
  | none => rfl
  | some w =>
    cases h : ((t.args.length : Int) == w) with
    | true => simp only [h, if_true, Ty.nodesL_good, Bool.true_and]
    | false => simp only [h, Bool.false_eq_true, if_false, Bool.false_and]; rfl
theorem Tm.good_eq (t : Tm) : t.good = (tmHead t.kind t.index t.type t.args.length && t.args.all Tm.good) := by
  show t.nodes.isSome = _
  rw [Tm.nodes_eq]
  cases h : tmHead t.kind t.index t.type t.args.length with
  | true => simp only [if_true, Tm.nodesL_good, Bool.true_and]
  | false => simp
theorem Fm.good_eq (t : Fm) : t.good = (formed t.kind t.type t.terms.length t.args.length && t.terms.all Tm.good && t.args.all Fm.good) := by
  show t.nodes.isSome = _
  rw [Fm.nodes_eq]
  cases h : formed t.kind t.type t.terms.length t.args.length with
  | true =>
    simp only [if_true, Bool.true_and]
    have h1 := Tm.nodesL_good t.terms 1
    cases hn : Tm.nodesL 1 t.terms with
    | none => rw [hn] at h1; rw [← h1]; simp
    | some n => rw [hn] at h1; rw [← h1]; simp only [Fm.nodesL_good, Option.isSome_some, Bool.true_and]
  | false => simp

mutual
def Tm.least (m : Int) : Tm → Bool
  | .mk _ i _ l => decide (i ≤ m) && Tm.leastL m l
def Tm.leastL (m : Int) : List Tm → Bool
  | [] => true
  | t :: l => t.least m && Tm.leastL m l
end
theorem Tm.least_eq (m : Int) (t : Tm) : t.least m = (decide (t.index ≤ m) && Tm.leastL m t.args) := by cases t; rw [Tm.least]; rfl
theorem Tm.leastL_nil {m : Int} : Tm.leastL m [] = true := by rw [Tm.leastL]
theorem Tm.leastL_cons {m : Int} {t : Tm} {l : List Tm} : Tm.leastL m (t :: l) = (t.least m && Tm.leastL m l) := by rw [Tm.leastL]
mutual
def Fm.least (m : Int) : Fm → Bool
  | .mk _ _ l a => Tm.leastL m l && Fm.leastL m a
def Fm.leastL (m : Int) : List Fm → Bool
  | [] => true
  | t :: l => t.least m && Fm.leastL m l
end
theorem Fm.least_eq (m : Int) (t : Fm) : t.least m = (Tm.leastL m t.terms && Fm.leastL m t.args) := by cases t; rw [Fm.least]; rfl
theorem Fm.leastL_nil {m : Int} : Fm.leastL m [] = true := by rw [Fm.leastL]
theorem Fm.leastL_cons {m : Int} {t : Fm} {l : List Fm} : Fm.leastL m (t :: l) = (t.least m && Fm.leastL m l) := by rw [Fm.leastL]

def tmBelow (k : Int) : Int := if k == 2 then 1 else 0
def quant (k : Int) : Bool := k == 4 || k == 5 || k == 6 || k == 7
def fmBelow (k : Int) : Int := if quant k then 1 else 0

mutual
def Tm.times : Tm → Int → Int
  | .mk k i _ l, at' => Tm.timesL (addW at' (tmBelow k)) (if k == 1 && i == at' then addW 0 1 else 0) l
def Tm.timesL (at' : Int) : Int → List Tm → Int
  | n, [] => n
  | n, t :: l => Tm.timesL at' (addW n (t.times at')) l
end
theorem Tm.times_eq (t : Tm) (at' : Int) : t.times at' = Tm.timesL (addW at' (tmBelow t.kind)) (if t.kind == 1 && t.index == at' then addW 0 1 else 0) t.args := by cases t; rw [Tm.times]; rfl
theorem Tm.timesL_nil {a n : Int} : Tm.timesL a n [] = n := by rw [Tm.timesL]
theorem Tm.timesL_cons {a n : Int} {t : Tm} {l : List Tm} : Tm.timesL a n (t :: l) = Tm.timesL a (addW n (t.times a)) l := by rw [Tm.timesL]
mutual
def Fm.times : Fm → Int → Int
  | .mk k _ l a, at' => Fm.timesL (addW at' (fmBelow k)) (Tm.timesL at' 0 l) a
def Fm.timesL (at' : Int) : Int → List Fm → Int
  | n, [] => n
  | n, t :: l => Fm.timesL at' (addW n (t.times at')) l
end
theorem Fm.times_eq (t : Fm) (at' : Int) : t.times at' = Fm.timesL (addW at' (fmBelow t.kind)) (Tm.timesL at' 0 t.terms) t.args := by cases t; rw [Fm.times]; rfl
theorem Fm.timesL_nil {a n : Int} : Fm.timesL a n [] = n := by rw [Fm.timesL]
theorem Fm.timesL_cons {a n : Int} {t : Fm} {l : List Fm} : Fm.timesL a n (t :: l) = Fm.timesL a (addW n (t.times a)) l := by rw [Fm.timesL]

mutual
def Tm.up (by' : Int) : Tm → Int → Tm
  | .mk k i t l, fr => .mk k (if k == 1 && decide (i ≥ fr) then addW i by' else i) t (Tm.upL by' l (addW fr (tmBelow k)))
def Tm.upL (by' : Int) : List Tm → Int → List Tm
  | [], _ => []
  | t :: l, fr => t.up by' fr :: Tm.upL by' l fr
end
theorem Tm.upL_map {b : Int} : ∀ (l : List Tm) (fr : Int), Tm.upL b l fr = l.map fun t => t.up b fr
  | [], fr => by simp [Tm.upL]
  | t :: l, fr => by simp [Tm.upL, Tm.upL_map l fr]
theorem Tm.up_eq (b : Int) (t : Tm) (fr : Int) : t.up b fr = .mk t.kind (if t.kind == 1 && decide (t.index ≥ fr) then addW t.index b else t.index) t.type (t.args.map fun x => x.up b (addW fr (tmBelow t.kind))) := by
  cases t; rw [Tm.up, Tm.upL_map]; rfl
mutual
def tmInn (s : Tm) (at' : Int) : Tm → Int → Tm
  | .mk k i t l, d => if k == 1 then (if i == addW at' d then Tm.up (addW at' d) s 0 else if decide (i > addW at' d) then tmVar (subW i 1) else .mk k i t l)
    else .mk k i t (tmInnL s at' l (addW d (tmBelow k)))
def tmInnL (s : Tm) (at' : Int) : List Tm → Int → List Tm
  | [], _ => []
  | t :: l, d => tmInn s at' t d :: tmInnL s at' l d
end
theorem tmInnL_map {s : Tm} {a : Int} : ∀ (l : List Tm) (d : Int), tmInnL s a l d = l.map fun t => tmInn s a t d
  | [], d => by simp [tmInnL]
  | t :: l, d => by simp [tmInnL, tmInnL_map l d]
theorem tmInn_eq (s : Tm) (a : Int) (t : Tm) (d : Int) : tmInn s a t d = if t.kind == 1 then
    (if t.index == addW a d then Tm.up (addW a d) s 0 else if decide (t.index > addW a d) then tmVar (subW t.index 1) else t)
    else .mk t.kind t.index t.type (t.args.map fun x => tmInn s a x (addW d (tmBelow t.kind))) := by
  cases t; rw [tmInn, tmInnL_map]; rfl
mutual
def fmInn (s : Tm) (at' : Int) : Fm → Int → Fm
  | .mk k t l a, d => .mk k t (l.map fun x => tmInn s at' x d) (fmInnL s at' a (addW d (fmBelow k)))
def fmInnL (s : Tm) (at' : Int) : List Fm → Int → List Fm
  | [], _ => []
  | t :: l, d => fmInn s at' t d :: fmInnL s at' l d
end
theorem fmInnL_map {s : Tm} {a : Int} : ∀ (l : List Fm) (d : Int), fmInnL s a l d = l.map fun t => fmInn s a t d
  | [], d => by simp [fmInnL]
  | t :: l, d => by simp [fmInnL, fmInnL_map l d]
theorem fmInn_eq (s : Tm) (a : Int) (t : Fm) (d : Int) : fmInn s a t d = .mk t.kind t.type (t.terms.map fun x => tmInn s a x d) (t.args.map fun x => fmInn s a x (addW d (fmBelow t.kind))) := by
  cases t; rw [fmInn, fmInnL_map]; rfl

mutual
theorem Ty.szW_nodes : ∀ (t : Ty) (n : Int), t.nodes = some n → t.szW = n
  | .mk k l, n, h => by
    rw [Ty.nodes_mk] at h
    rw [Ty.szW]
    split at h
    · cases h
    · split at h
      · exact Ty.szWL_nodes l 1 n h
      · cases h
theorem Ty.szWL_nodes : ∀ (l : List Ty) (m n : Int), Ty.nodesL m l = some n → Ty.szWL m l = n
  | [], m, n, h => by rw [Ty.nodesL_nil] at h; rw [Ty.szWL_nil]; exact Option.some.inj h
  | t :: l, m, n, h => by
    cases hx : t.nodes with
    | none => rw [Ty.nodesL_none hx] at h; cases h
    | some k =>
      rw [Ty.nodesL_some hx] at h
      rw [Ty.szWL_cons, Ty.szW_nodes t k hx]
      exact Ty.szWL_nodes l _ n h
end
mutual
theorem Tm.szW_nodes : ∀ (t : Tm) (n : Int), t.nodes = some n → t.szW = n
  | .mk k i t l, n, h => by
    rw [Tm.nodes_mk] at h
    rw [Tm.szW]
    split at h
    · exact Tm.szWL_nodes l 1 n h
    · cases h
theorem Tm.szWL_nodes : ∀ (l : List Tm) (m n : Int), Tm.nodesL m l = some n → Tm.szWL m l = n
  | [], m, n, h => by rw [Tm.nodesL_nil] at h; rw [Tm.szWL_nil]; exact Option.some.inj h
  | t :: l, m, n, h => by
    cases hx : t.nodes with
    | none => rw [Tm.nodesL_none hx] at h; cases h
    | some k =>
      rw [Tm.nodesL_some hx] at h
      rw [Tm.szWL_cons, Tm.szW_nodes t k hx]
      exact Tm.szWL_nodes l _ n h
end
mutual
theorem Fm.szW_nodes : ∀ (t : Fm) (n : Int), t.nodes = some n → t.szW = n
  | .mk k t l a, n, h => by
    rw [Fm.nodes_mk] at h
    rw [Fm.szW]
    split at h
    · cases hl : Tm.nodesL 1 l with
      | none => rw [hl] at h; cases h
      | some m => rw [hl] at h; rw [Tm.szWL_nodes l 1 m hl]; exact Fm.szWL_nodes a m n h
    · cases h
theorem Fm.szWL_nodes : ∀ (l : List Fm) (m n : Int), Fm.nodesL m l = some n → Fm.szWL m l = n
  | [], m, n, h => by rw [Fm.nodesL_nil] at h; rw [Fm.szWL_nil]; exact Option.some.inj h
  | t :: l, m, n, h => by
    cases hx : t.nodes with
    | none => rw [Fm.nodesL_none hx] at h; cases h
    | some k =>
      rw [Fm.nodesL_some hx] at h
      rw [Fm.szWL_cons, Fm.szW_nodes t k hx]
      exact Fm.szWL_nodes l _ n h
end

def refArgs (k : Int) : Int :=
  if k == 1 || k == 4 || k == 7 || k == 13 then 0 else if k == 2 || k == 5 || k == 11 || k == 12 then 1 else if k == 3 || k == 8 || k == 10 then 2 else if k == 6 || k == 9 then 3 else -1
def tmErr (t : Tm) : Int := (chk 4096 t.nodes).2

theorem kinds13 {k : Int} (h1 : ¬ k < 1) (h2 : ¬ 14 ≤ k) : k = 1 ∨ k = 2 ∨ k = 3 ∨ k = 4 ∨ k = 5 ∨ k = 6 ∨ k = 7 ∨ k = 8 ∨ k = 9 ∨ k = 10 ∨ k = 11 ∨ k = 12 ∨ k = 13 := by omega
theorem tmHead_ref (k i : Int) (t : Ty) (n : Nat) : tmHead k i t (n : Int) =
    (!((n : Int) != refArgs k) && !decide (i < 0) && !(k != 1 && i != 0) && (if typed k then tyErr t == 0 else noType t)) := by
  unfold tmHead arity
  by_cases hk : k < 1 ∨ 14 ≤ k
  · rw [if_pos hk]
    have : refArgs k = -1 := by
      have hne : ∀ m : Int, 1 ≤ m → m ≤ 13 → (k == m) = false := fun m a b => by simp; omega
      simp [refArgs, hne]
    rw [this]
    have : ((n : Int) != -1) = true := by simp <;> omega
    rw [this]; rfl
  · rw [if_neg hk]
    obtain ⟨h1, h2⟩ := not_or.1 hk
    have hi : (!decide (i < 0)) = decide (0 ≤ i) := by
      by_cases h : i < 0
      · have : ¬ 0 ≤ i := by omega
        simp [h, this]
      · have : 0 ≤ i := by omega
        simp [h, this]
    rcases kinds13 h1 h2 with h | h | h | h | h | h | h | h | h | h | h | h | h <;> subst h
    all_goals
      simp only [arities, refArgs, typed, hi]
      cases h0 : (i == 0) <;> simp [bne, h0]

def zeroF : Fm := .mk 0 (.mk 0 []) [] []
def mulW (a b : Int) : Int := IntKind.i64.wrap (a * b)
def fmPut (f : Fm) (a : Int) (s : Tm) : Fm × Int :=
  if fmErr f != 0 then (zeroF, fmErr f)
  else if decide (a < 0) || decide (a > 4096) then (zeroF, 1)
  else if tmErr s != 0 then (zeroF, tmErr s)
  else if !f.least 536870912 || !s.least 536870912 then (zeroF, 1)
  else if decide (addW f.szW (mulW (f.times a) (subW s.szW 1)) > 4096) then (zeroF, 4)
  else (fmInn s a f 0, 0)
@[go_sem] def fmErrV (p : Fm × Int) : V := .tup [.agg p.1.cells, .int .i64 p.2]
end GoAbs

namespace GoAbs
open Go

theorem addW_eq {a b : Int} (h0 : -1000000000000 ≤ a) (h1 : a ≤ 1000000000000) (h2 : -1000000000000 ≤ b) (h3 : b ≤ 1000000000000) : addW a b = a + b := wrap_eq rfl (by omega) (by omega)
theorem subW_eq {a b : Int} (h0 : -1000000000000 ≤ a) (h1 : a ≤ 1000000000000) (h2 : -1000000000000 ≤ b) (h3 : b ≤ 1000000000000) : subW a b = a - b := wrap_eq rfl (by omega) (by omega)

theorem Tm.leastL_iff {m : Int} : ∀ {l : List Tm}, Tm.leastL m l = true ↔ ∀ x ∈ l, x.least m = true
  | [] => by simp [Tm.leastL_nil]
  | x :: l => by simp [Tm.leastL_cons, Tm.leastL_iff (l := l)]
theorem Fm.leastL_iff {m : Int} : ∀ {l : List Fm}, Fm.leastL m l = true ↔ ∀ x ∈ l, x.least m = true
  | [] => by simp [Fm.leastL_nil]
  | x :: l => by simp [Fm.leastL_cons, Fm.leastL_iff (l := l)]
theorem least_mk {m k i : Int} {t : Ty} {l : List Tm} (hi : i ≤ m) (h : ∀ x ∈ l, x.least m = true) : (Tm.mk k i t l).least m = true := by
  rw [Tm.least, Tm.leastL_iff.2 h]; simp [hi]
theorem least_0 {m k : Int} (hm : 1 ≤ m) : (tm0 k []).least m = true := least_mk (by omega) (by simp)
theorem least_1 {m k : Int} {a : Tm} (hm : 1 ≤ m) (h1 : a.least m = true) : (tm0 k [a]).least m = true := least_mk (by omega) (by simp [h1])
theorem least_2 {m k : Int} {a b : Tm} (hm : 1 ≤ m) (h1 : a.least m = true) (h2 : b.least m = true) : (tm0 k [a, b]).least m = true := least_mk (by omega) (by simp [h1, h2])
theorem least_T1 {m k : Int} {t : Ty} {a : Tm} (hm : 1 ≤ m) (h1 : a.least m = true) : (tmT k t [a]).least m = true := least_mk (by omega) (by simp [h1])
theorem least_T3 {m k : Int} {t : Ty} {a b c : Tm} (hm : 1 ≤ m) (h1 : a.least m = true) (h2 : b.least m = true) (h3 : c.least m = true) : (tmT k t [a, b, c]).least m = true := least_mk (by omega) (by simp [h1, h2, h3])
theorem least_v {m i : Int} (h : i ≤ m) : (tmVar i).least m = true := least_mk h (by simp)
theorem least_num {m : Int} (hm : 1 ≤ m) : ∀ n, (numT n).least m = true
  | 0 => least_0 hm
  | n + 1 => least_1 hm (least_num hm n)
theorem least_plus {m : Int} (hm : 1 ≤ m) : plusT.least m = true :=
  least_T1 hm (least_T1 hm (least_T3 hm (least_v hm) (least_T1 hm (least_T1 hm (least_1 hm (least_v (by omega))))) (least_v (by omega))))
theorem least_pred {m : Int} (hm : 1 ≤ m) : predT.least m = true :=
  least_T1 hm (least_T3 hm (least_0 hm) (least_T1 hm (least_T1 hm (least_v hm))) (least_v (by omega)))
theorem least_sub {m : Int} (hm : 1 ≤ m) : subT.least m = true :=
  least_T1 hm (least_T1 hm (least_T3 hm (least_v hm) (least_T1 hm (least_T1 hm (least_2 hm (least_pred hm) (least_v (by omega))))) (least_v (by omega))))

theorem MkTm.least {M m : Nat} (hm' : 1 ≤ m) {n : Nat} {g : List Ty} {t : Ty} {x : Tm} (h : MkTm n g t x) (hM : 1 ≤ M) (hg : ∀ y ∈ g, tySz y ≤ M) (ht : tySz t ≤ M)
    (hb : g.length + (3 + M) * n + tySz t ≤ m) : x.least (m : Int) = true := by
  have hm : (1 : Int) ≤ (m : Int) := by omega
  have app : ∀ {g l : List Ty}, (∀ y ∈ g, tySz y ≤ M) → (∀ y ∈ l, tySz y ≤ M) → ∀ y ∈ g ++ l, tySz y ≤ M := by
    intro g l h1 h2 y hy
    rcases List.mem_append.1 hy with hy | hy
    · exact h1 y hy
    · exact h2 y hy
  have nat1 : tySz tNat ≤ M := by rw [tySz_nat]; exact hM
  have list1 : tySz tList ≤ M := by rw [tySz_list]; exact hM
  have mul : ∀ n : Nat, (3 + M) * (n + 1) = (3 + M) * n + (3 + M) := fun n => Nat.mul_succ _ _
  induction h with
  | @var n g t i hi => exact least_v (by omega)
  | @app n g t s b x hs _ _ h1 h2 =>
    have s1 := hs.sz0
    have := mul n
    exact least_2 hm (least_T1 hm (h1 (app hg (by simp; omega)) ht (by simp only [List.length_append, List.length_cons, List.length_nil]; omega))) (h2 hg (by omega) (by omega))
  | @fst n g t s x y hs _ _ h1 h2 =>
    have s1 := hs.sz0
    have := mul n
    exact least_1 hm (least_2 hm (h1 hg ht (by omega)) (h2 hg (by omega) (by omega)))
  | @snd n g t s x y hs _ _ h1 h2 =>
    have s1 := hs.sz0
    have := mul n
    exact least_1 hm (least_2 hm (h1 hg (by omega) (by omega)) (h2 hg ht (by omega)))
  | @recr n g t b f k hk _ _ h1 h2 =>
    have := mul n
    exact least_T3 hm (h2 hg ht (by omega)) (least_T1 hm (least_T1 hm (h1 (app hg (by simp [nat1, ht])) ht (by simp only [List.length_append, List.length_cons, List.length_nil]; omega)))) (least_num hm _)
  | @fold n g t b f x _ _ _ h1 h2 h3 =>
    have := mul n
    have l1 := tySz_list
    exact least_T3 hm (h2 hg ht (by omega)) (least_T1 hm (least_T1 hm (least_T1 hm (h1 (app hg (by simp [nat1, list1, ht])) ht (by simp only [List.length_append, List.length_cons, List.length_nil]; omega))))) (h3 hg list1 (by omega))
  | @fapp n g t s x i hi h _ h1 =>
    have s1 := hg _ (List.mem_of_getElem? h)
    rw [tySz_fun] at s1
    have := mul n
    exact least_2 hm (least_v (by omega)) (h1 hg (by omega) (by omega))
  | @succ n g x _ h1 => have := mul n; exact least_1 hm (h1 hg ht (by omega))
  | @plus n g x y _ _ h1 h2 => have := mul n; exact least_2 hm (least_2 hm (least_plus hm) (h1 hg ht (by omega))) (h2 hg ht (by omega))
  | @sub n g x y _ _ h1 h2 => have := mul n; exact least_2 hm (least_2 hm (least_sub hm) (h1 hg ht (by omega))) (h2 hg ht (by omega))
  | num => exact least_num hm _
  | @cons n g x y _ _ h1 h2 =>
    have := mul n
    have l1 := tySz_nat
    exact least_2 hm (h1 hg nat1 (by omega)) (h2 hg ht (by omega))
  | nil => exact least_0 hm
  | @pair n g a b x y _ _ h1 h2 =>
    rw [tySz_pair] at ht hb
    have : (3 + M) * (n - 1) ≤ (3 + M) * n := Nat.mul_le_mul_left _ (by omega)
    exact least_2 hm (h1 hg (by omega) (by omega)) (h2 hg (by omega) (by omega))
  | @lam n g a b x _ h1 =>
    rw [tySz_fun] at ht hb
    have : (3 + M) * (n - 1) ≤ (3 + M) * n := Nat.mul_le_mul_left _ (by omega)
    have := tySz_pos a
    exact least_T1 hm (h1 (app hg (by simp; omega)) (by omega) (by simp only [List.length_append, List.length_cons, List.length_nil]; omega))
  | unit => exact least_0 hm
theorem MkFm.least {u : Bool} {m : Nat} (hm : 1 ≤ m) {n : Nat} {g : List Ty} {f : Fm} (h : MkFm u n g f) (hg : ∀ y ∈ g, tySz y ≤ 3)
    (hb : g.length + n + 13 ≤ m) : f.least (m : Int) = true := by
  have l1 := tySz_nat
  induction h with
  | @eq n g x y h1 h2 =>
    have a1 := h1.least (m := m) hm (M := 3) (by omega) hg (by omega) (by omega)
    have a2 := h2.least (m := m) hm (M := 3) (by omega) hg (by omega) (by omega)
    rw [Fm.least_eq]
    simp only [fmEq, Fm.terms, Fm.args, Tm.leastL_cons, Tm.leastL_nil, Fm.leastL_nil, a1, a2, Bool.and_self]
  | @two n g k a b _ _ _ h1 h2 =>
    rw [Fm.least_eq]
    simp only [fmTwo, Fm.terms, Fm.args, Fm.leastL_cons, Tm.leastL_nil, Fm.leastL_nil, h1 hg (by omega), h2 hg (by omega), Bool.and_self]
  | @q n g k s a _ hs _ h1 =>
    rw [Fm.least_eq]
    have hs' : tySz s ≤ 3 := (hs.up (by split <;> omega)).sz1
    have := h1 (by
      intro y hy
      rcases List.mem_append.1 hy with hy | hy
      · exact hg y hy
      · simp at hy; subst hy; exact hs') (by simp only [List.length_append, List.length_cons, List.length_nil]; omega)
    simp only [fmQ, Fm.terms, Fm.args, Fm.leastL_cons, Tm.leastL_nil, Fm.leastL_nil, this, Bool.and_self]

mutual
def tmOcc : Tm → Int → Nat
  | .mk k i _ l, x => if k == 1 then (if i == x then 1 else 0) else tmOccL l (x + tmBelow k)
def tmOccL : List Tm → Int → Nat
  | [], _ => 0
  | t :: l, x => tmOcc t x + tmOccL l x
end
theorem tmBelow_range (k : Int) : 0 ≤ tmBelow k ∧ tmBelow k ≤ 1 := by unfold tmBelow; split <;> omega
theorem fmBelow_range (k : Int) : 0 ≤ fmBelow k ∧ fmBelow k ≤ 1 := by unfold fmBelow; split <;> omega
mutual
theorem tmOcc_le : ∀ (t : Tm) (x : Int), tmOcc t x ≤ tmSz t
  | .mk k i t l, x => by
    rw [tmOcc, tmSz]
    have := tmOccL_le l (x + tmBelow k)
    repeat' split
    all_goals omega
theorem tmOccL_le : ∀ (l : List Tm) (x : Int), tmOccL l x ≤ tmSzL l
  | [], x => by simp [tmOccL]
  | t :: l, x => by rw [tmOccL, tmSzL]; have := tmOcc_le t x; have := tmOccL_le l x; omega
end
theorem timesL_sum {a : Int} : ∀ (l : List Tm) (n : Nat), (∀ y ∈ l, y.times a = (tmOcc y a : Int)) → n + tmSzL l ≤ 1000000 → Tm.timesL a (n : Int) l = ((n + tmOccL l a : Nat) : Int)
  | [], n, _, _ => by rw [Tm.timesL_nil]; simp [tmOccL]
  | t :: l, n, h, hs => by
    rw [tmSzL] at hs
    have h1 := tmOcc_le t a
    have e : addW (n : Int) (tmOcc t a : Int) = ((n + tmOcc t a : Nat) : Int) := wrap_eq (by omega) (by omega) (by omega)
    rw [Tm.timesL_cons, h t (by simp), e, timesL_sum l _ (fun y hy => h y (by simp [hy])) (by omega), tmOccL, Nat.add_assoc]

/-- What kinds of nodes there are: a variable, or one that is none. -/
theorem TmG.cases' {p : Tm → Prop} {t : Tm} (h : TmG t) (hv : ∀ i, 0 ≤ i → p (tmVar i))
    (hn : ∀ k ty l, (k == 1) = false → tmHead k 0 ty l.length = true → (∀ x ∈ l, TmG x) → (∀ l', l'.length = l.length → (∀ x ∈ l', TmG x) → TmG (.mk k 0 ty l')) → p (.mk k 0 ty l)) : p t := by
  cases h with
  | @plain k l a ha hl ht h =>
    cases hk : (k == 1) with
    | true =>
      have hk' : k = 1 := by simpa using hk
      subst hk'
      have : a = 0 := by have e : arity 1 = some 0 := rfl; rw [e] at ha; exact (Option.some.inj ha).symm
      subst this
      have hl0 : l = [] := List.length_eq_zero_iff.1 (by omega)
      subst hl0
      exact hv 0 (by omega)
    | false =>
      have : tmHead k 0 (.mk 0 []) l.length = true := by simp [tmHead, ha, hl, ht, noType, Ty.kind, Ty.args]
      exact hn k _ l hk this h (fun l' h1 h2 => .plain ha (by rw [h1]; exact hl) ht h2)
  | @var i hi => exact hv i hi
  | @typd k t l a ha hl ht hg h =>
    have hk : (k == 1) = false := by
      cases hk : (k == 1) with
      | false => rfl
      | true => have hk' : k = 1 := by simpa using hk
                subst hk'; cases ht
    have : tmHead k 0 t l.length = true := by simp [tmHead, ha, hl, ht, hg.err]
    exact hn k _ l hk this h (fun l' h1 h2 => .typd ha (by rw [h1]; exact hl) ht hg h2)

theorem tmSzL_map {g : Tm → Tm} : ∀ (l : List Tm), (∀ x ∈ l, tmSz (g x) = tmSz x) → tmSzL (l.map g) = tmSzL l
  | [], _ => rfl
  | x :: l, h => by rw [List.map_cons, tmSzL, tmSzL, h x (by simp), tmSzL_map l (fun y hy => h y (by simp [hy]))]
theorem tmSz_up {b : Int} : ∀ (t : Tm) (fr : Int), tmSz (t.up b fr) = tmSz t := by
  intro t
  induction t using Tm.ind with | h t ih => ?_
  intro fr
  rw [Tm.up_eq]
  cases t with | mk k i ty l =>
  rw [tmSz, tmSz]
  simp only [Tm.args] at ih ⊢
  rw [tmSzL_map l (fun x hx => ih x hx _)]
theorem tmSz_pos (t : Tm) : 1 ≤ tmSz t := by cases t; rw [tmSz]; omega

theorem TmG.times_occ : ∀ (n : Nat) {t : Tm}, TmG t → tmSz t ≤ n → ∀ x : Int, 0 ≤ x → x + n ≤ 1000000 → t.times x = (tmOcc t x : Int)
  | 0, t, h, hn, x, _, _ => by have := tmSz_pos t; omega
  | n + 1, t, h, hn, x, hx, hb => by
    revert hn
    refine h.cases' (p := fun t => tmSz t ≤ n + 1 → t.times x = (tmOcc t x : Int)) ?_ ?_
    · intro i hi _
      rw [tmVar, Tm.times, tmOcc, Tm.timesL_nil]
      cases hix : (i == x) <;> simp [addW, wrap_small]
    · intro k ty l hk _ hl _ hn
      rw [tmSz] at hn
      have hr := tmBelow_range k
      have e : addW x (tmBelow k) = x + tmBelow k := addW_eq (by omega) (by omega) (by omega) (by omega)
      rw [Tm.times, tmOcc, hk, e]
      simp only [Bool.false_and, Bool.false_eq_true, if_false]
      have := timesL_sum (a := x + tmBelow k) l 0 (fun y hy => TmG.times_occ n (hl y hy) (by have := tmSzL_mem hy; omega) _ (by omega) (by omega)) (by omega)
      simpa using this

theorem tmSzL_inn {g : Tm → Tm} {o : Tm → Nat} {c : Nat} : ∀ (l : List Tm), (∀ x ∈ l, tmSz (g x) = tmSz x + o x * c) → tmSzL (l.map g) = tmSzL l + (l.map o).sum * c
  | [], _ => by simp [tmSzL]
  | x :: l, h => by
    rw [List.map_cons, tmSzL, tmSzL, h x (by simp), tmSzL_inn l (fun y hy => h y (by simp [hy])), List.map_cons, List.sum_cons, Nat.add_mul]
    omega
theorem tmOccL_sum (x : Int) : ∀ l : List Tm, tmOccL l x = (l.map fun t => tmOcc t x).sum
  | [] => rfl
  | t :: l => by rw [tmOccL, List.map_cons, List.sum_cons, tmOccL_sum x l]

theorem TmG.inn_sz {s : Tm} : ∀ (n : Nat) {t : Tm}, TmG t → tmSz t ≤ n → ∀ d : Int, 0 ≤ d → d + n ≤ 1000000 → tmSz (tmInn s 0 t d) = tmSz t + tmOcc t d * (tmSz s - 1)
  | 0, t, h, hn, x, _, _ => by have := tmSz_pos t; omega
  | n + 1, t, h, hn, d, hd, hb => by
    revert hn
    have e0 : addW 0 d = d := by rw [addW_eq (by omega) (by omega) (by omega) (by omega)]; omega
    refine h.cases' (p := fun t => tmSz t ≤ n + 1 → tmSz (tmInn s 0 t d) = tmSz t + tmOcc t d * (tmSz s - 1)) ?_ ?_
    · intro i hi _
      rw [tmVar, tmInn, tmOcc, e0]
      have := tmSz_pos s
      cases hix : (i == d) with
      | true => simp only [beq_self_eq_true, if_true, tmSz_up, tmSz, tmSzL]; omega
      | false =>
        simp only [beq_self_eq_true, if_true, Bool.false_eq_true, if_false]
        split <;> simp [tmVar, tmSz, tmSzL]
    · intro k ty l hk _ hl _ hn
      rw [tmSz] at hn
      have hr := tmBelow_range k
      have e : addW d (tmBelow k) = d + tmBelow k := addW_eq (by omega) (by omega) (by omega) (by omega)
      rw [tmInn, tmOcc, hk, e, tmInnL_map]
      simp only [Bool.false_eq_true, if_false, tmSz]
      rw [tmSzL_inn l (o := fun t => tmOcc t (d + tmBelow k)) (c := tmSz s - 1) (fun y hy => TmG.inn_sz n (hl y hy) (by have := tmSzL_mem hy; omega) _ (by omega) (by omega)), tmOccL_sum]
      omega

theorem TmG.up {b : Int} (hb0 : 0 ≤ b) (hb : b ≤ 1000000) : ∀ (n : Nat) {t : Tm}, TmG t → tmSz t ≤ n → t.least 536870912 = true → ∀ fr : Int, TmG (t.up b fr)
  | 0, t, h, hn, _, _ => by have := tmSz_pos t; omega
  | n + 1, t, h, hn, hl, fr => by
    revert hn hl
    refine h.cases' (p := fun t => tmSz t ≤ n + 1 → t.least 536870912 = true → TmG (t.up b fr)) ?_ ?_
    · intro i hi _ hl
      rw [tmVar, Tm.least_eq] at hl
      have hi2 : i ≤ 536870912 := by rw [Bool.and_eq_true] at hl; exact of_decide_eq_true hl.1
      rw [tmVar, Tm.up, Tm.upL]
      refine .var ?_
      split
      · rw [addW_eq (by omega) (by omega) (by omega) (by omega)]; omega
      · exact hi
    · intro k ty l hk _ hg hmk hn hl
      rw [tmSz] at hn
      rw [Tm.least, Bool.and_eq_true] at hl
      rw [Tm.up, Tm.upL_map, hk]
      simp only [Bool.false_and, Bool.false_eq_true, if_false]
      refine hmk _ (by simp) ?_
      intro x hx
      obtain ⟨y, hy, rfl⟩ := List.mem_map.1 hx
      exact TmG.up hb0 hb n (hg y hy) (by have := tmSzL_mem hy; omega) (Tm.leastL_iff.1 hl.2 y hy) _

theorem TmG.inn {s : Tm} (hs : TmG s) (hsl : s.least 536870912 = true) : ∀ (n : Nat) {t : Tm}, TmG t → tmSz t ≤ n → t.least 536870912 = true → ∀ d : Int, 0 ≤ d → d + n ≤ 1000000 → TmG (tmInn s 0 t d)
  | 0, t, h, hn, _, _, _, _ => by have := tmSz_pos t; omega
  | n + 1, t, h, hn, hl, d, hd, hb => by
    revert hn hl
    have e0 : addW 0 d = d := by rw [addW_eq (by omega) (by omega) (by omega) (by omega)]; omega
    refine h.cases' (p := fun t => tmSz t ≤ n + 1 → t.least 536870912 = true → TmG (tmInn s 0 t d)) ?_ ?_
    · intro i hi _ hl
      rw [tmVar, Tm.least_eq] at hl
      have hi2 : i ≤ 536870912 := by rw [Bool.and_eq_true] at hl; exact of_decide_eq_true hl.1
      rw [tmVar, tmInn, e0]
      simp only [beq_self_eq_true, if_true]
      split
      · exact TmG.up hd (by omega) _ hs (Nat.le_refl _) hsl _
      · split
        · rename_i h1
          have : i > d := by simpa using h1
          refine .var ?_
          rw [subW_eq (by omega) (by omega) (by omega) (by omega)]; omega
        · exact .var hi
    · intro k ty l hk _ hg hmk hn hl
      rw [tmSz] at hn
      have hr := tmBelow_range k
      have e : addW d (tmBelow k) = d + tmBelow k := addW_eq (by omega) (by omega) (by omega) (by omega)
      rw [Tm.least, Bool.and_eq_true] at hl
      rw [tmInn, tmInnL_map, hk, e]
      simp only [Bool.false_eq_true, if_false]
      refine hmk _ (by simp) ?_
      intro x hx
      obtain ⟨y, hy, rfl⟩ := List.mem_map.1 hx
      exact TmG.inn hs hsl n (hg y hy) (by have := tmSzL_mem hy; omega) (Tm.leastL_iff.1 hl.2 y hy) _ (by omega) (by omega)

mutual
def fmOcc : Fm → Int → Nat
  | .mk k _ l a, x => tmOccL l x + fmOccL a (x + fmBelow k)
def fmOccL : List Fm → Int → Nat
  | [], _ => 0
  | t :: l, x => fmOcc t x + fmOccL l x
end
mutual
theorem fmOcc_le : ∀ (t : Fm) (x : Int), fmOcc t x ≤ fmSz t
  | .mk k t l a, x => by
    rw [fmOcc, fmSz]
    have := tmOccL_le l x
    have := fmOccL_le a (x + fmBelow k)
    omega
theorem fmOccL_le : ∀ (l : List Fm) (x : Int), fmOccL l x ≤ fmSzL l
  | [], x => by simp [fmOccL]
  | t :: l, x => by rw [fmOccL, fmSzL]; have := fmOcc_le t x; have := fmOccL_le l x; omega
end

theorem ftimes_eq {x y : Tm} (hx : TmG x) (hy : TmG y) {a : Int} (h0 : 0 ≤ a) (hb : a + (tmSz x + tmSz y) ≤ 1000000) : (fmEq x y).times a = (fmOcc (fmEq x y) a : Int) := by
  have h := timesL_sum (a := a) [x, y] 0 (fun z hz => by
    simp at hz
    rcases hz with rfl | rfl
    · exact hx.times_occ _ (Nat.le_refl _) _ h0 (by omega)
    · exact hy.times_occ _ (Nat.le_refl _) _ h0 (by omega)) (by simp [tmSzL]; omega)
  rw [fmEq, Fm.times, fmOcc, Fm.timesL_nil]
  simpa [fmOccL] using h
theorem below_two {k : Int} (hk : k = 2 ∨ k = 3) : fmBelow k = 0 := by rcases hk with rfl | rfl <;> rfl
theorem addW_zero {a : Int} (h0 : 0 ≤ a) (hb : a ≤ 1000000) : addW a 0 = a := by rw [addW_eq (by omega) (by omega) (by omega) (by omega)]; omega
theorem addW_z {a : Int} (h0 : 0 ≤ a) (hb : a ≤ 1000000) : addW 0 a = a := by rw [addW_eq (by omega) (by omega) (by omega) (by omega)]; omega

theorem FmG.times_occ {u : Bool} {f : Fm} (h : FmG u f) : ∀ a : Int, 0 ≤ a → a + fmSz f ≤ 500000 → f.times a = (fmOcc f a : Int) := by
  induction h with
  | @eq x y hx hy => intro a h0 hb; rw [fmSz_eq] at hb; exact ftimes_eq hx hy h0 (by omega)
  | @two k p q hk _ _ h1 h2 =>
    intro a h0 hb
    rw [fmSz_two] at hb
    have e1 := h1 a h0 (by omega)
    have e2 := h2 a h0 (by omega)
    have l1 := fmOcc_le p a
    have l2 := fmOcc_le q a
    rw [fmTwo, Fm.times, fmOcc, below_two hk, addW_zero h0 (by omega), Tm.timesL_nil, Fm.timesL_cons, Fm.timesL_cons, Fm.timesL_nil, e1, e2, addW_z (by omega) (by omega),
      addW_eq (by omega) (by omega) (by omega) (by omega)]
    simp [fmOccL, tmOccL]
  | @q k s p hk hs _ h1 =>
    intro a h0 hb
    rw [fmSz_q] at hb
    have hr := fmBelow_range k
    have e := addW_eq (a := a) (b := fmBelow k) (by omega) (by omega) (by omega) (by omega)
    have e1 := h1 (a + fmBelow k) (by omega) (by omega)
    have l1 := fmOcc_le p (a + fmBelow k)
    rw [fmQ, Fm.times, fmOcc, e, Tm.timesL_nil, Fm.timesL_cons, Fm.timesL_nil, e1, addW_z (by omega) (by omega)]
    simp [fmOccL, tmOccL]

theorem fmInn_eqn {s : Tm} {a d : Int} {x y : Tm} : fmInn s a (fmEq x y) d = fmEq (tmInn s a x d) (tmInn s a y d) := by
  rw [fmInn_eq]; rfl
theorem fmInn_two {s : Tm} {a d k : Int} {x y : Fm} : fmInn s a (fmTwo k x y) d = fmTwo k (fmInn s a x (addW d (fmBelow k))) (fmInn s a y (addW d (fmBelow k))) := by
  rw [fmInn_eq]; rfl
theorem fmInn_q {s : Tm} {a d k : Int} {t : Ty} {x : Fm} : fmInn s a (fmQ k t x) d = fmQ k t (fmInn s a x (addW d (fmBelow k))) := by
  rw [fmInn_eq]; rfl

theorem FmG.inn_sz {u : Bool} {s : Tm} {f : Fm} (h : FmG u f) : ∀ d : Int, 0 ≤ d → d + fmSz f ≤ 500000 → fmSz (fmInn s 0 f d) = fmSz f + fmOcc f d * (tmSz s - 1) := by
  induction h with
  | @eq x y hx hy =>
    intro d h0 hb
    rw [fmSz_eq] at hb
    rw [fmInn_eqn, fmSz_eq, fmSz_eq, hx.inn_sz _ (Nat.le_refl _) d h0 (by omega), hy.inn_sz _ (Nat.le_refl _) d h0 (by omega)]
    simp only [fmEq, fmOcc, tmOccL, fmOccL, Nat.add_zero, Nat.add_mul]
    omega
  | @two k p q hk _ _ h1 h2 =>
    intro d h0 hb
    rw [fmSz_two] at hb
    rw [fmInn_two, below_two hk, addW_zero h0 (by omega), fmSz_two, fmSz_two, h1 d h0 (by omega), h2 d h0 (by omega)]
    simp only [fmTwo, fmOcc, tmOccL, fmOccL, Nat.add_zero, Nat.zero_add, below_two hk, Int.add_zero, Nat.add_mul]
    omega
  | @q k t p hk hs _ h1 =>
    intro d h0 hb
    rw [fmSz_q] at hb
    have hr := fmBelow_range k
    have e := addW_eq (a := d) (b := fmBelow k) (by omega) (by omega) (by omega) (by omega)
    rw [fmInn_q, e, fmSz_q, fmSz_q, h1 _ (by omega) (by omega)]
    simp only [fmQ, fmOcc, tmOccL, fmOccL, Nat.add_zero, Nat.zero_add]
    omega

theorem FmG.inn {u : Bool} {s : Tm} (hs : TmG s) (hsl : s.least 536870912 = true) {f : Fm} (h : FmG u f) : f.least 536870912 = true → ∀ d : Int, 0 ≤ d → d + fmSz f ≤ 500000 → FmG u (fmInn s 0 f d) := by
  induction h with
  | @eq x y hx hy =>
    intro hl d h0 hb
    rw [fmSz_eq] at hb
    rw [Fm.least_eq] at hl
    simp only [fmEq, Fm.terms, Fm.args, Tm.leastL_cons, Tm.leastL_nil, Fm.leastL_nil, Bool.and_true, Bool.and_eq_true] at hl
    rw [fmInn_eqn]
    exact .eq (TmG.inn hs hsl _ hx (Nat.le_refl _) hl.1 d h0 (by omega)) (TmG.inn hs hsl _ hy (Nat.le_refl _) hl.2 d h0 (by omega))
  | @two k p q hk _ _ h1 h2 =>
    intro hl d h0 hb
    rw [fmSz_two] at hb
    rw [Fm.least_eq] at hl
    simp only [fmTwo, Fm.terms, Fm.args, Fm.leastL_cons, Tm.leastL_nil, Fm.leastL_nil, Bool.and_true, Bool.true_and, Bool.and_eq_true] at hl
    rw [fmInn_two, below_two hk, addW_zero h0 (by omega)]
    exact .two hk (h1 hl.1 d h0 (by omega)) (h2 hl.2 d h0 (by omega))
  | @q k t p hk ht _ h1 =>
    intro hl d h0 hb
    rw [fmSz_q] at hb
    rw [Fm.least_eq] at hl
    simp only [fmQ, Fm.terms, Fm.args, Fm.leastL_cons, Tm.leastL_nil, Fm.leastL_nil, Bool.and_true, Bool.true_and] at hl
    have hr := fmBelow_range k
    have e := addW_eq (a := d) (b := fmBelow k) (by omega) (by omega) (by omega) (by omega)
    rw [fmInn_q, e]
    exact .q hk ht (h1 hl _ (by omega) (by omega))

theorem chL_map {k : Int} {t : Ty} {g : Fm → Fm} : ∀ (l : List Fm) (ps : List (Ty × Ty)), (∀ x ∈ l, (g x).ch = x.ch) → Fm.chL k t ps (l.map g) = Fm.chL k t ps l
  | [], _, _ => rfl
  | x :: l, ps, h => by
    rw [List.map_cons, Fm.chL_cons, Fm.chL_cons, h x (by simp), chL_map l _ (fun y hy => h y (by simp [hy]))]
theorem ch_inn {s : Tm} {a : Int} : ∀ (f : Fm) (d : Int), (fmInn s a f d).ch = f.ch := by
  intro f
  induction f using Fm.ind with | h f ih => ?_
  intro d
  rw [fmInn_eq, Fm.ch_eq, Fm.ch_eq f]
  exact chL_map f.args [] (fun x hx => ih x hx _)

theorem TmG.err_val {t : Tm} (h : TmG t) (hs : tmSz t ≤ 1000000) : tmErr t = if tmSz t ≤ 4096 then 0 else 4 := by
  unfold tmErr
  rw [h.nodes_val hs, chk]
  by_cases h64 : tmSz t ≤ 4096
  · rw [if_neg (by omega), if_pos h64]
  · rw [if_pos (by omega), if_neg h64]

/-- The law of what stays. -/
theorem law_keeps {f : Fm} {s : Tm} (hf : FmG false f) (hs : TmG s) (zf : fmSz f ≤ 100000) (zs : tmSz s ≤ 10000) (lf : f.least 536870912 = true) (ls : s.least 536870912 = true) :
    (fmPut f 0 s).2 = 4 ∨ ((fmPut f 0 s).2 = 0 ∧ (fmPut f 0 s).1.look = f.look ∧ f.look.2 = f.ch.2) := by
  unfold fmPut
  have ef := hf.err_val (by omega)
  have es := hs.err_val (by omega)
  by_cases c1 : fmSz f ≤ 4096
  case neg => rw [if_neg c1] at ef; rw [ef]; exact .inl rfl
  rw [if_pos c1] at ef
  by_cases c2 : tmSz s ≤ 4096
  case neg => rw [if_neg c2] at es; rw [ef, es]; exact .inl rfl
  rw [if_pos c2] at es
  have hz1 := tmSz_pos s
  have nf := Fm.szW_nodes f _ (hf.nodes_val (by omega))
  have ns := Tm.szW_nodes s _ (hs.nodes_val (by omega))
  have ht := hf.times_occ 0 (by omega) (by omega)
  have ol := fmOcc_le f 0
  have hm : fmOcc f 0 * (tmSz s - 1) ≤ 4096 * 4096 := Nat.mul_le_mul (by omega) (by omega)
  have e1 : subW s.szW 1 = ((tmSz s - 1 : Nat) : Int) := by rw [ns, subW_eq (by omega) (by omega) (by omega) (by omega)]; omega
  have e2 : mulW (f.times 0) (subW s.szW 1) = ((fmOcc f 0 * (tmSz s - 1) : Nat) : Int) := by
    rw [e1, ht, mulW]
    exact wrap_eq (by rw [Int.natCast_mul]) (by omega) (by omega)
  have e3 : addW f.szW (mulW (f.times 0) (subW s.szW 1)) = ((fmSz f + fmOcc f 0 * (tmSz s - 1) : Nat) : Int) := by
    rw [e2, nf, addW_eq (by omega) (by omega) (by omega) (by omega)]; omega
  have hsz := hf.inn_sz (s := s) 0 (by omega) (by omega)
  have hG := hf.inn hs ls lf 0 (by omega) (by omega)
  by_cases c3 : fmSz f + fmOcc f 0 * (tmSz s - 1) ≤ 4096
  · right
    have eg : fmErr (fmInn s 0 f 0) = 0 := by rw [hG.err_val (by omega)]; exact if_pos (by omega)
    have c3' : decide (addW f.szW (mulW (f.times 0) (subW s.szW 1)) > 4096) = false := by rw [e3]; simp; omega
    have c0 : (decide ((0 : Int) < 0) || decide ((0 : Int) > 4096)) = false := rfl
    simp only [ef, es, lf, ls, c3', c0, bne_self_eq_false, Bool.false_eq_true, if_false, Bool.not_true, Bool.or_self]
    refine ⟨trivial, ?_, ?_⟩
    · unfold Fm.look
      rw [eg, ef, hG.uni, hf.uni, ch_inn]
    · unfold Fm.look
      rw [ef, hf.uni]; rfl
  · left
    have c3' : decide (addW f.szW (mulW (f.times 0) (subW s.szW 1)) > 4096) = true := by rw [e3]; simp; omega
    have c0 : (decide ((0 : Int) < 0) || decide ((0 : Int) > 4096)) = false := rfl
    simp only [ef, es, lf, ls, c3', c0, bne_self_eq_false, Bool.false_eq_true, if_false, Bool.not_true, Bool.or_self, if_true]

theorem MkFm.sz {u : Bool} {n : Nat} {g : List Ty} {f : Fm} (h : MkFm u n g f) (hg : ∀ y ∈ g, tySz y ≤ 3) : fmSz f + 1 ≤ 136 * 2 ^ n := by
  have b1 : bndT 3 1 = 67 := rfl
  induction h with
  | @eq n g x y h1 h2 =>
    have l1 := tySz_nat
    have a1 := (MkTm.sz (M := 3) (by omega) h1 hg (by omega)).1
    have a2 := (MkTm.sz (M := 3) (by omega) h2 hg (by omega)).1
    have := Nat.one_le_two_pow (n := n)
    rw [fmSz_eq]; omega
  | @two n g k a b _ _ _ h1 h2 => have := h1 hg; have := h2 hg; rw [fmSz_two, Nat.pow_succ]; omega
  | @q n g k s a _ hs _ h1 =>
    have hs' : tySz s ≤ 3 := (hs.up (by split <;> omega)).sz1
    have := h1 (by
      intro y hy
      rcases List.mem_append.1 hy with hy | hy
      · exact hg y hy
      · simp at hy; subst hy; exact hs')
    rw [fmSz_q, Nat.pow_succ]; omega
theorem zeroF_W : FmW zeroF := .mk _ _ _ _ tZero_W (by simp) (by simp) (by simp) (by simp)
end GoAbs

namespace GoAbs
open Go

mutual
def Tm.same : Tm → Tm → Bool
  | .mk k i t l, .mk k' i' t' l' => k == k' && i == i' && Ty.same t t' && Tm.sameL l l'
def Tm.sameL : List Tm → List Tm → Bool
  | [], [] => true
  | a :: l, b :: l' => Tm.same a b && Tm.sameL l l'
  | _, _ => false
end
theorem Tm.same_eq (a b : Tm) : Tm.same a b = (a.kind == b.kind && a.index == b.index && Ty.same a.type b.type && Tm.sameL a.args b.args) := by
  cases a; cases b; simp [Tm.same, Tm.kind, Tm.index, Tm.type, Tm.args]
mutual
def Fm.same : Fm → Fm → Bool
  | .mk k t l a, .mk k' t' l' a' => k == k' && Ty.same t t' && Tm.sameL l l' && Fm.sameL a a'
def Fm.sameL : List Fm → List Fm → Bool
  | [], [] => true
  | a :: l, b :: l' => Fm.same a b && Fm.sameL l l'
  | _, _ => false
end
theorem Fm.same_eq (a b : Fm) : Fm.same a b = (a.kind == b.kind && Ty.same a.type b.type && Tm.sameL a.terms b.terms && Fm.sameL a.args b.args) := by
  cases a; cases b; simp [Fm.same, Fm.kind, Fm.type, Fm.terms, Fm.args]
mutual
theorem Tm.same_refl : ∀ a : Tm, Tm.same a a = true
  | .mk k i t l => by simp [Tm.same, Ty.same_refl, Tm.sameL_refl l]
theorem Tm.sameL_refl : ∀ l : List Tm, Tm.sameL l l = true
  | [] => by simp [Tm.sameL]
  | x :: l => by simp [Tm.sameL, Tm.same_refl x, Tm.sameL_refl l]
end
mutual
theorem Fm.same_refl : ∀ a : Fm, Fm.same a a = true
  | .mk k t l a => by simp [Fm.same, Ty.same_refl, Tm.sameL_refl, Fm.sameL_refl a]
theorem Fm.sameL_refl : ∀ l : List Fm, Fm.sameL l l = true
  | [] => by simp [Fm.sameL]
  | x :: l => by simp [Fm.sameL, Fm.same_refl x, Fm.sameL_refl l]
end
mutual
theorem Tm.same_true : ∀ {a b : Tm}, Tm.same a b = true → a = b
  | .mk k i t l, .mk k' i' t' l', h => by
    simp only [Tm.same, Bool.and_eq_true, beq_iff_eq] at h
    rw [h.1.1.1, h.1.1.2, Ty.same_true h.1.2, Tm.sameL_true h.2]
theorem Tm.sameL_true : ∀ {a b : List Tm}, Tm.sameL a b = true → a = b
  | [], [], _ => rfl
  | x :: l, y :: l', h => by
    simp only [Tm.sameL, Bool.and_eq_true] at h
    rw [Tm.same_true h.1, Tm.sameL_true h.2]
  | [], _ :: _, h => by simp [Tm.sameL] at h
  | _ :: _, [], h => by simp [Tm.sameL] at h
end
mutual
theorem Fm.same_true : ∀ {a b : Fm}, Fm.same a b = true → a = b
  | .mk k t l a, .mk k' t' l' a', h => by
    simp only [Fm.same, Bool.and_eq_true, beq_iff_eq] at h
    rw [h.1.1.1, Ty.same_true h.1.1.2, Tm.sameL_true h.1.2, Fm.sameL_true h.2]
theorem Fm.sameL_true : ∀ {a b : List Fm}, Fm.sameL a b = true → a = b
  | [], [], _ => rfl
  | x :: l, y :: l', h => by
    simp only [Fm.sameL, Bool.and_eq_true] at h
    rw [Fm.same_true h.1, Fm.sameL_true h.2]
  | [], _ :: _, h => by simp [Fm.sameL] at h
  | _ :: _, [], h => by simp [Fm.sameL] at h
end

mutual
/-- A fold over the variables of a term, with the number of functions that each is below. -/
def Tm.eachF {α : Type} (F : Int → Int → α → α) : Tm → Int → α → α
  | .mk k i _ l, b, s => Tm.eachL F l (if k == 2 then addW b 1 else b) (if k == 1 then F i b s else s)
def Tm.eachL {α : Type} (F : Int → Int → α → α) : List Tm → Int → α → α
  | [], _, s => s
  | t :: l, b, s => Tm.eachL F l b (Tm.eachF F t b s)
end
theorem Tm.eachF_eq {α : Type} (F : Int → Int → α → α) (t : Tm) (b : Int) (s : α) :
    t.eachF F b s = Tm.eachL F t.args (if t.kind == 2 then addW b 1 else b) (if t.kind == 1 then F t.index b s else s) := by cases t; rw [Tm.eachF]; rfl
theorem Tm.eachL_nil {α : Type} {F : Int → Int → α → α} {b : Int} {s : α} : Tm.eachL F [] b s = s := by rw [Tm.eachL]
theorem Tm.eachL_cons {α : Type} {F : Int → Int → α → α} {b : Int} {s : α} {t : Tm} {l : List Tm} : Tm.eachL F (t :: l) b s = Tm.eachL F l b (t.eachF F b s) := by rw [Tm.eachL]
def countF (a i b n : Int) : Int := if subW i b == a then addW n 1 else n
def Tm.count (t : Tm) (a : Int) : Int := t.eachF (countF a) 0 0
def nearF (i _b : Int) (s : Bool) : Bool := s && decide (i ≤ 536870912)
def Tm.near (t : Tm) : Bool := t.eachF nearF 0 true

def zeroT : Tm := .mk 0 0 (.mk 0 []) []
theorem zeroT_W : TmW zeroT := .mk _ _ _ _ tZero_W (by simp) (by simp)
def fa (f : Fm) (i : Nat) : Fm := f.args.getD i zeroF
def ft (f : Fm) (i : Nat) : Tm := f.terms.getD i zeroT
def ta (t : Tm) (i : Nat) : Tm := t.args.getD i zeroT
theorem fa_at {f x : Fm} {i : Nat} (h : f.args[i]? = some x) : fa f i = x := by unfold fa; rw [List.getD_eq_getElem?_getD, h]; rfl
theorem ft_at {f : Fm} {x : Tm} {i : Nat} (h : f.terms[i]? = some x) : ft f i = x := by unfold ft; rw [List.getD_eq_getElem?_getD, h]; rfl
theorem ta_at {t x : Tm} {i : Nat} (h : t.args[i]? = some x) : ta t i = x := by unfold ta; rw [List.getD_eq_getElem?_getD, h]; rfl

def lessF (s t : Tm) : Fm := fmEq (tm0 3 [tm0 3 [subT, tm0 5 [s]], t]) (tm0 4 [])
theorem lessF_W {s t : Tm} (hs : TmW s) (ht : TmW t) : FmW (lessF s t) := fmEq_W (tm0_W2 (tm0_W2 subT_W (tm0_W1 hs)) ht) tm0_W0

/-- Is the formula a bounded quantifier, as far as its head? -/
def bndHead (f : Fm) : Bool :=
  !(f.kind != (if f.kind == 4 then 4 else 5)) && !(f.type.kind != 1) && !((fa f 0).kind != (if f.kind == 4 then 3 else 2)) && !((fa (fa f 0) 0).kind != 1)
def bndSide (f : Fm) : Tm := ft (fa (fa f 0) 0) 0
def bndTerm (f : Fm) : Tm := ta (bndSide f) 1
def bndBody (f : Fm) : Fm := fa (fa f 0) 1
def bndRest (f : Fm) : Bool := !((bndSide f).kind != 3) && !decide ((bndTerm f).count 0 > 0) && Fm.same (fa (fa f 0) 0) (lessF (tmVar 0) (bndTerm f))
def isBnd (f : Fm) : Bool := bndHead f && bndRest f
/-- What 'bound' returns. -/
def boundV (f : Fm) : V := if isBnd f then .tup [.bool (f.kind == 4), .agg (bndTerm f).cells, .agg (bndBody f).cells, .bool true]
  else .tup [.bool false, .agg zeroT.cells, .agg zeroF.cells, .bool false]

structure Fl where
  c : Bool
  f : Bool
  d : Bool
def Fl.z : Fl := ⟨false, false, false⟩
def Fl.n (x : Fl) : Int := (if x.c then 1 else 0) + (if x.f then 2 else 0) + (if x.d then 4 else 0)
theorem Fl.and (x y : Fl) : bandI .u8 x.n y.n = (Fl.mk (x.c && y.c) (x.f && y.f) (x.d && y.d)).n := by
  obtain ⟨a, b, c⟩ := x; obtain ⟨d, e, f⟩ := y
  revert a b c d e f; decide
theorem Fl.or (x y : Fl) : borI .u8 x.n y.n = (Fl.mk (x.c || y.c) (x.f || y.f) (x.d || y.d)).n := by
  obtain ⟨a, b, c⟩ := x; obtain ⟨d, e, f⟩ := y
  revert a b c d e f; decide
theorem Fl.and6 (x : Fl) : bandI .u8 x.n 6 = (Fl.mk false x.f x.d).n := by have := Fl.and x ⟨false, true, true⟩; simpa [Fl.n] using this
theorem Fl.and1 (x : Fl) : bandI .u8 x.n 1 = (Fl.mk x.c false false).n := by have := Fl.and x ⟨true, false, false⟩; simpa [Fl.n] using this
theorem Fl.and2 (x : Fl) : bandI .u8 x.n 2 = (Fl.mk false x.f false).n := by have := Fl.and x ⟨false, true, false⟩; simpa [Fl.n] using this
theorem Fl.and4 (x : Fl) : bandI .u8 x.n 4 = (Fl.mk false false x.d).n := by have := Fl.and x ⟨false, false, true⟩; simpa [Fl.n] using this
theorem Fl.or1 (x : Fl) : borI .u8 x.n 1 = (Fl.mk true x.f x.d).n := by have := Fl.or x ⟨true, false, false⟩; simpa [Fl.n] using this

/-- The classes of a formula out of those of its parts and of the parts of these. -/
def flag (k : Int) (b : Bool) (is : List (Fl × List Fl)) : Fl :=
  if k == 1 then ⟨false, true, true⟩
  else if k == 2 || k == 3 then
    ⟨(is.getD 1 (.z, [])).1.c || (k == 2 && (is.getD 0 (.z, [])).1.c), (is.getD 0 (.z, [])).1.f && (is.getD 1 (.z, [])).1.f, (is.getD 0 (.z, [])).1.d && (is.getD 1 (.z, [])).1.d⟩
  else ⟨(is.getD 0 (.z, [])).1.c || k == 5, false, b && ((is.getD 0 (.z, [])).2.getD 1 .z).d⟩
mutual
def Fm.info : Fm → Fl × List Fl
  | .mk k t l a => (flag k (isBnd (.mk k t l a)) (Fm.infoL a), (Fm.infoL a).map (·.1))
def Fm.infoL : List Fm → List (Fl × List Fl)
  | [] => []
  | f :: l => f.info :: Fm.infoL l
end
def Fm.fl (f : Fm) : Fl := f.info.1
theorem Fm.fl_eqn {x y : Tm} : (fmEq x y).fl = ⟨false, true, true⟩ := by simp [Fm.fl, fmEq, Fm.info, flag]
theorem Fm.fl_1 {f : Fm} (h : f.kind = 1) : f.fl = ⟨false, true, true⟩ := by cases f; simp only [Fm.kind] at h; subst h; simp [Fm.fl, Fm.info, flag]
theorem Fm.fl_2 {f a b : Fm} (h : f.kind = 2 ∨ f.kind = 3) (ha : f.args = [a, b]) :
    f.fl = ⟨b.fl.c || (f.kind == 2 && a.fl.c), a.fl.f && b.fl.f, a.fl.d && b.fl.d⟩ := by
  obtain ⟨k, t, l, ar⟩ := f
  simp only [Fm.kind, Fm.args] at h ha ⊢
  subst ha
  rcases h with rfl | rfl <;> simp [Fm.fl, Fm.info, Fm.infoL, flag]
theorem Fm.fl_q {f a : Fm} (h : 4 ≤ f.kind) (ha : f.args = [a]) :
    f.fl = ⟨a.fl.c || f.kind == 5, false, isBnd f && (((Fm.infoL a.args).map (fun p => p.1)).getD 1 Fl.z).d⟩ := by
  obtain ⟨k, t, l, ar⟩ := f
  simp only [Fm.kind, Fm.args] at h ha ⊢
  subst ha
  have h1 : (k == 1) = false := by simp; omega
  have h2 : (k == 2) = false := by simp; omega
  have h3 : (k == 3) = false := by simp; omega
  cases a
  simp [Fm.fl, Fm.info, Fm.infoL, flag, h1, h2, h3, Fm.args]
theorem Fm.fl_qn {f a : Fm} (h : 4 ≤ f.kind) (ha : f.args = [a]) (hb : isBnd f = false) : f.fl = ⟨a.fl.c || f.kind == 5, false, false⟩ := by rw [Fm.fl_q h ha, hb]; simp
theorem Fm.fl_qb {f a x y : Fm} (h : 4 ≤ f.kind) (ha : f.args = [a]) (hb : isBnd f = true) (hy : a.args = [x, y]) : f.fl = ⟨a.fl.c || f.kind == 5, false, y.fl.d⟩ := by
  rw [Fm.fl_q h ha, hb, hy]; simp [Fm.infoL, Fm.fl]
theorem Fm.fl_two {k : Int} {a b : Fm} (h : k = 2 ∨ k = 3) : (fmTwo k a b).fl = ⟨b.fl.c || (k == 2 && a.fl.c), a.fl.f && b.fl.f, a.fl.d && b.fl.d⟩ := Fm.fl_2 (f := fmTwo k a b) h rfl
theorem Fm.fl_qc {k : Int} {t : Ty} {a : Fm} (h : 4 ≤ k) : (fmQ k t a).fl.c = (a.fl.c || k == 5) := by rw [Fm.fl_q (f := fmQ k t a) h rfl]; rfl

/-- Content and the like, with the error of the formula. -/
def Fm.has (f : Fm) (k : Int) : Bool × Int := if fmErr f != 0 then (false, fmErr f) else ((if k == 1 then f.fl.c else if k == 2 then f.fl.f else f.fl.d), 0)
@[go_sem] def boolErrV (p : Bool × Int) : V := .tup [.bool p.1, .int .i64 p.2]
end GoAbs

namespace GoAbs
open Go

/- scope.Lift. -/
mutual
def Tm.sl (b : Int) : Tm → Int → Tm
  | .mk k i t l, fr => if b == 0 then .mk k i t l else if k == 1 then .mk k (if decide (i ≥ fr) then addW i b else i) t l
    else .mk k i t (Tm.slL b l (if k == 2 then addW fr 1 else fr))
def Tm.slL (b : Int) : List Tm → Int → List Tm
  | [], _ => []
  | t :: l, fr => t.sl b fr :: Tm.slL b l fr
end
theorem Tm.slL_map {b : Int} : ∀ (l : List Tm) (fr : Int), Tm.slL b l fr = l.map fun t => t.sl b fr
  | [], fr => by simp [Tm.slL]
  | t :: l, fr => by simp [Tm.slL, Tm.slL_map l fr]
theorem Tm.sl_eq (b : Int) (t : Tm) (fr : Int) : t.sl b fr = if b == 0 then t else if t.kind == 1 then .mk t.kind (if decide (t.index ≥ fr) then addW t.index b else t.index) t.type t.args
    else .mk t.kind t.index t.type (t.args.map fun x => x.sl b (if t.kind == 2 then addW fr 1 else fr)) := by
  cases t; rw [Tm.sl, Tm.slL_map]; rfl

/- scope.put. -/
mutual
def tmSp (s : Tm) (at' : Int) : Tm → Int → Tm
  | .mk k i t l, d => if k == 1 then (if i == addW at' d then s.sl (addW at' d) 0 else if decide (i > addW at' d) then .mk k (subW i 1) t l else .mk k i t l)
    else .mk k i t (tmSpL s at' l (if k == 2 then addW d 1 else d))
def tmSpL (s : Tm) (at' : Int) : List Tm → Int → List Tm
  | [], _ => []
  | t :: l, d => tmSp s at' t d :: tmSpL s at' l d
end
theorem tmSpL_map {s : Tm} {a : Int} : ∀ (l : List Tm) (d : Int), tmSpL s a l d = l.map fun t => tmSp s a t d
  | [], d => by simp [tmSpL]
  | t :: l, d => by simp [tmSpL, tmSpL_map l d]
theorem tmSp_eq (s : Tm) (a : Int) (t : Tm) (d : Int) : tmSp s a t d = if t.kind == 1 then
    (if t.index == addW a d then s.sl (addW a d) 0 else if decide (t.index > addW a d) then .mk t.kind (subW t.index 1) t.type t.args else t)
    else .mk t.kind t.index t.type (t.args.map fun x => tmSp s a x (if t.kind == 2 then addW d 1 else d)) := by
  cases t; rw [tmSp, tmSpL_map]; rfl

/- scope.uses. -/
mutual
def Tm.us : Tm → Int → Int
  | .mk k i _ l, a => if k == 1 && i == a then 1 else Tm.usL (if k == 2 then addW a 1 else a) 0 l
def Tm.usL (a : Int) : Int → List Tm → Int
  | n, [] => n
  | n, t :: l => Tm.usL a (addW n (t.us a)) l
end
theorem Tm.us_eq (t : Tm) (a : Int) : t.us a = if t.kind == 1 && t.index == a then 1 else Tm.usL (if t.kind == 2 then addW a 1 else a) 0 t.args := by cases t; rw [Tm.us]; rfl
theorem Tm.usL_nil {a n : Int} : Tm.usL a n [] = n := by rw [Tm.usL]
theorem Tm.usL_cons {a n : Int} {t : Tm} {l : List Tm} : Tm.usL a n (t :: l) = Tm.usL a (addW n (t.us a)) l := by rw [Tm.usL]

/-- scope.Each: the formula, and the state behind. -/
def evB (k : Int) (b : Int) : Int := if decide (k ≥ 4) && decide (k ≤ 7) then addW b 1 else b
mutual
def Fm.ev (F : Tm → Int → Tm) : Fm → Int → Fm
  | .mk k t l a, b => .mk k t (l.map fun x => F x (evB k b)) (Fm.evL F a (evB k b))
def Fm.evL (F : Tm → Int → Tm) : List Fm → Int → List Fm
  | [], _ => []
  | f :: l, b => f.ev F b :: Fm.evL F l b
end
theorem Fm.evL_map {F : Tm → Int → Tm} : ∀ (l : List Fm) (b : Int), Fm.evL F l b = l.map fun f => f.ev F b
  | [], b => by simp [Fm.evL]
  | f :: l, b => by simp [Fm.evL, Fm.evL_map l b]
theorem Fm.ev_eq (F : Tm → Int → Tm) (f : Fm) (b : Int) : f.ev F b = .mk f.kind f.type (f.terms.map fun x => F x (evB f.kind b)) (f.args.map fun x => x.ev F (evB f.kind b)) := by
  cases f; rw [Fm.ev, Fm.evL_map]; rfl
def tmsS {α : Type} (G : Tm → Int → α → α) (b : Int) : α → List Tm → α
  | s, [] => s
  | s, t :: l => tmsS G b (G t b s) l
mutual
def Fm.es {α : Type} (G : Tm → Int → α → α) : Fm → Int → α → α
  | .mk k _ l a, b, s => Fm.esL G a (evB k b) (tmsS G (evB k b) s l)
def Fm.esL {α : Type} (G : Tm → Int → α → α) : List Fm → Int → α → α
  | [], _, s => s
  | f :: l, b, s => Fm.esL G l b (f.es G b s)
end
theorem Fm.es_eq {α : Type} (G : Tm → Int → α → α) (f : Fm) (b : Int) (s : α) : f.es G b s = Fm.esL G f.args (evB f.kind b) (tmsS G (evB f.kind b) s f.terms) := by cases f; rw [Fm.es]; rfl
theorem Fm.esL_nil {α : Type} {G : Tm → Int → α → α} {b : Int} {s : α} : Fm.esL G [] b s = s := by rw [Fm.esL]
theorem Fm.esL_cons {α : Type} {G : Tm → Int → α → α} {f : Fm} {l : List Fm} {b : Int} {s : α} : Fm.esL G (f :: l) b s = Fm.esL G l b (f.es G b s) := by rw [Fm.esL]
theorem tmsS_nil {α : Type} {G : Tm → Int → α → α} {b : Int} {s : α} : tmsS G b s [] = s := rfl
theorem tmsS_cons {α : Type} {G : Tm → Int → α → α} {t : Tm} {l : List Tm} {b : Int} {s : α} : tmsS G b s (t :: l) = tmsS G b (G t b s) l := rfl

def Fm.sp (f : Fm) (s : Tm) : Fm := f.ev (fun t b => tmSp s 0 t b) 0
def grownG (more : Int) (t : Tm) (b : Int) (n : Int) : Int := addW n (mulW more (t.us b))
def Fm.grown (f : Fm) (s : Tm) : Int := f.es (grownG (subW s.szW 1)) 0 f.szW
def farG (t : Tm) (_ : Int) (far : Bool) : Bool := far || !t.least 268435456
def Fm.far (f : Fm) : Bool := f.es farG 0 false

mutual
def Fm.qs : Fm → Int
  | .mk k _ _ a => Fm.qsL (if k == 4 || k == 5 then 1 else 0) a
def Fm.qsL : Int → List Fm → Int
  | n, [] => n
  | n, f :: l => Fm.qsL (addW n f.qs) l
end
theorem Fm.qs_eq (f : Fm) : f.qs = Fm.qsL (if f.kind == 4 || f.kind == 5 then 1 else 0) f.args := by cases f; rw [Fm.qs]; rfl
theorem Fm.qsL_nil {n : Int} : Fm.qsL n [] = n := by rw [Fm.qsL]
theorem Fm.qsL_cons {n : Int} {f : Fm} {l : List Fm} : Fm.qsL n (f :: l) = Fm.qsL (addW n f.qs) l := by rw [Fm.qsL]

/- matrix.Free. -/
mutual
def Fm.mfree : Fm → Bool
  | .mk k _ _ a => (k == 1 || k == 2 || k == 3) && Fm.mfreeL a
def Fm.mfreeL : List Fm → Bool
  | [] => true
  | f :: l => f.mfree && Fm.mfreeL l
end
theorem Fm.mfree_eq (f : Fm) : f.mfree = ((f.kind == 1 || f.kind == 2 || f.kind == 3) && Fm.mfreeL f.args) := by cases f; rw [Fm.mfree]; rfl
theorem Fm.mfreeL_nil : Fm.mfreeL [] = true := by rw [Fm.mfreeL]
theorem Fm.mfreeL_cons {f : Fm} {l : List Fm} : Fm.mfreeL (f :: l) = (f.mfree && Fm.mfreeL l) := by rw [Fm.mfreeL]

/-- matrix.of; the number bounds the depth of the formula. -/
def mTwo (k : Int) (x y : Fm × Int) : Fm × Int :=
  if x.2 != 0 then (zeroF, x.2) else if y.2 != 0 then (zeroF, y.2) else if decide ((fmTwo k x.1 y.1).szW > 4096) then (zeroF, 4) else (fmTwo k x.1 y.1, 0)
def mWith (r : Fm → Tm → Tm → Fm × Int) (body : Fm) (x w c : Tm) : Fm × Int :=
  if decide (x.szW > 4096) || decide (subW (body.grown x) body.qs > 4096) then (zeroF, 4) else r (body.sp x) w c
def mAnd (r : Fm → Tm → Tm → Fm × Int) (a b : Fm) (w c : Tm) : Fm × Int :=
  mTwo 2 (r a (chPart 11 a.look.1.1 b.look.1.1 w) (chPart 11 a.look.1.2 b.look.1.2 c)) (r b (chPart 12 b.look.1.1 a.look.1.1 w) (chPart 12 b.look.1.2 a.look.1.2 c))
def mImp (r : Fm → Tm → Tm → Fm × Int) (a b : Fm) (w c : Tm) : Fm × Int :=
  let v := a.look.1.1; let p := a.look.1.2; let u := b.look.1.1; let q := b.look.1.2
  let back := chFun q p; let fn := chFun v u; let an := chFun v back
  let x := chPart 11 v q c; let y := chPart 12 q v c; let g := chPart 11 fn an w; let h := chPart 12 an fn w
  mTwo 3 (r a x (chCall q p (chCall v back h x) y)) (r b (chCall v u g x) y)
def mAll (r : Fm → Tm → Tm → Fm × Int) (t : Ty) (a : Fm) (w c : Tm) : Fm × Int :=
  mWith r a (chPart 11 t a.look.1.2 c) (chCall t a.look.1.1 w (chPart 11 t a.look.1.2 c)) (chPart 12 a.look.1.2 t c)
def mEx (r : Fm → Tm → Tm → Fm × Int) (t : Ty) (a : Fm) (w c : Tm) : Fm × Int :=
  mWith r a (chPart 11 t a.look.1.1 w) (chPart 12 a.look.1.1 t w) c
def mOf : Nat → Fm → Tm → Tm → Fm × Int
  | 0, f, w, c => (zeroF, 4)
  | n + 1, f, w, c =>
    if decide (w.szW > 4096) || decide (c.szW > 4096) then (zeroF, 4)
    else if f.kind == 2 then mAnd (mOf n) (f.args.getD 0 zeroF) (f.args.getD 1 zeroF) w c
    else if f.kind == 3 then mImp (mOf n) (f.args.getD 0 zeroF) (f.args.getD 1 zeroF) w c
    else if f.kind == 4 then mAll (mOf n) f.type (f.args.getD 0 zeroF) w c
    else if f.kind == 5 then mEx (mOf n) f.type (f.args.getD 0 zeroF) w c
    else (f, 0)
mutual
def fdp : Fm → Nat
  | .mk _ _ _ a => fdpL a + 1
def fdpL : List Fm → Nat
  | [] => 0
  | f :: l => max (fdp f) (fdpL l)
end
theorem fdpL_mem : ∀ {l : List Fm} {f : Fm}, f ∈ l → fdp f ≤ fdpL l
  | g :: l, f, h => by
    rw [fdpL]
    rcases List.mem_cons.1 h with rfl | h
    · omega
    · have := fdpL_mem h; omega
theorem fdp_arg {f x : Fm} (h : x ∈ f.args) : fdp x + 1 ≤ fdp f := by
  cases f with | mk k t l a => rw [fdp]; have := fdpL_mem (show x ∈ a from h); omega
def matF (f : Fm) (w c : Tm) : Fm × Int :=
  if f.look.2 != 0 then (zeroF, f.look.2) else if tmErr w != 0 then (zeroF, tmErr w) else if tmErr c != 0 then (zeroF, tmErr c)
  else if f.far || (!w.least 268435456 || !c.least 268435456) then (zeroF, 1) else mOf (fdp f) f w c
end GoAbs

set_option maxRecDepth 8000
namespace GoAbs
open Go

theorem wrap_r {a : Int} (h0 : -1000000000000 ≤ a) (h1 : a ≤ 1000000000000) : addW a 0 = a := by rw [addW_eq h0 h1 (by omega) (by omega)]; omega
theorem below_if {k d : Int} (h0 : 0 ≤ d) (h1 : d ≤ 1000000000000) : (if k == 2 then addW d 1 else d) = addW d (tmBelow k) := by
  unfold tmBelow
  cases hk : (k == 2)
  · simp only [Bool.false_eq_true, if_false]; rw [wrap_r (by omega) h1]
  · rfl

theorem up_zero : ∀ (n : Nat) {t : Tm}, TmG t → tmSz t ≤ n → t.least 1000000000 = true → ∀ fr : Int, t.up 0 fr = t
  | 0, t, h, hn, _, _ => by have := tmSz_pos t; omega
  | n + 1, t, h, hn, hl, fr => by
    revert hn hl
    refine h.cases' (p := fun t => tmSz t ≤ n + 1 → t.least 1000000000 = true → t.up 0 fr = t) ?_ ?_
    · intro i hi _ hl
      rw [tmVar, Tm.least_eq, Bool.and_eq_true] at hl
      have hi2 : i ≤ 1000000000 := of_decide_eq_true hl.1
      rw [tmVar, Tm.up, Tm.upL, wrap_r (by omega) (by omega)]
      split <;> rfl
    · intro k ty l hk _ hg _ hn hl
      rw [tmSz] at hn
      rw [Tm.least, Bool.and_eq_true] at hl
      rw [Tm.up, Tm.upL_map, hk]
      simp only [Bool.false_and, Bool.false_eq_true, if_false]
      congr 1
      refine (List.map_congr_left (g := id) fun x hx => ?_).trans (List.map_id _)
      exact up_zero n (hg x hx) (by have := tmSzL_mem hx; omega) (Tm.leastL_iff.1 hl.2 x hx) _

theorem sl_up {b : Int} (hb0 : 0 ≤ b) (hb : b ≤ 1000000) : ∀ (n : Nat) {t : Tm}, TmG t → tmSz t ≤ n → t.least 1000000000 = true → ∀ fr : Int, 0 ≤ fr → fr + n ≤ 1000000 → t.sl b fr = t.up b fr
  | 0, t, h, hn, _, _, _, _ => by have := tmSz_pos t; omega
  | n + 1, t, h, hn, hl, fr, hf, hf2 => by
    cases hb1 : (b == 0) with
    | true =>
      have : b = 0 := by simpa using hb1
      subst this
      rw [up_zero _ h hn hl, Tm.sl_eq]; rfl
    | false =>
    revert hn hl
    refine h.cases' (p := fun t => tmSz t ≤ n + 1 → t.least 1000000000 = true → t.sl b fr = t.up b fr) ?_ ?_
    · intro i hi _ hl
      rw [tmVar, Tm.up, Tm.upL, Tm.sl, hb1]
      rfl
    · intro k ty l hk _ hg _ hn hl
      rw [tmSz] at hn
      rw [Tm.least, Bool.and_eq_true] at hl
      have hr := tmBelow_range k
      have e : addW fr (tmBelow k) = fr + tmBelow k := addW_eq (by omega) (by omega) (by omega) (by omega)
      rw [Tm.up, Tm.upL_map, Tm.sl, Tm.slL_map, hb1, hk, below_if hf (by omega), e]
      simp only [Bool.false_and, Bool.false_eq_true, if_false]
      congr 1
      refine List.map_congr_left fun x hx => ?_
      exact sl_up hb0 hb n (hg x hx) (by have := tmSzL_mem hx; omega) (Tm.leastL_iff.1 hl.2 x hx) _ (by omega) (by omega)

theorem sp_inn {s : Tm} (hs : TmG s) (zs : tmSz s ≤ 10000) (ls : s.least 1000000000 = true) : ∀ (n : Nat) {t : Tm}, TmG t → tmSz t ≤ n → ∀ d : Int, 0 ≤ d → d + n ≤ 900000 → tmSp s 0 t d = tmInn s 0 t d
  | 0, t, h, hn, _, _, _ => by have := tmSz_pos t; omega
  | n + 1, t, h, hn, d, hd, hb => by
    revert hn
    have e0 : addW 0 d = d := by rw [addW_eq (by omega) (by omega) (by omega) (by omega)]; omega
    refine h.cases' (p := fun t => tmSz t ≤ n + 1 → tmSp s 0 t d = tmInn s 0 t d) ?_ ?_
    · intro i hi _
      rw [tmVar, tmSp, tmInn, e0, sl_up hd (by omega) _ hs (Nat.le_refl _) ls 0 (by omega) (by omega)]
      rfl
    · intro k ty l hk _ hg _ hn
      rw [tmSz] at hn
      have hr := tmBelow_range k
      have e : addW d (tmBelow k) = d + tmBelow k := addW_eq (by omega) (by omega) (by omega) (by omega)
      rw [tmInn, tmInnL_map, tmSp, tmSpL_map, hk, below_if hd (by omega), e]
      simp only [Bool.false_eq_true, if_false]
      congr 1
      refine List.map_congr_left fun x hx => ?_
      exact sp_inn hs zs ls n (hg x hx) (by have := tmSzL_mem hx; omega) _ (by omega) (by omega)

theorem usL_sum {a : Int} : ∀ (l : List Tm) (n : Nat), (∀ y ∈ l, y.us a = (tmOcc y a : Int)) → n + tmSzL l ≤ 1000000 → Tm.usL a (n : Int) l = ((n + tmOccL l a : Nat) : Int)
  | [], n, _, _ => by rw [Tm.usL, tmOccL]; rfl
  | t :: l, n, h, hn => by
    rw [tmSzL] at hn
    have := tmOcc_le t a
    rw [Tm.usL, h t (by simp), addW_eq (by omega) (by omega) (by omega) (by omega), tmOccL, show (n : Int) + (tmOcc t a : Int) = ((n + tmOcc t a : Nat) : Int) by simp,
      usL_sum l _ (fun y hy => h y (by simp [hy])) (by omega)]
    rw [Nat.add_assoc]
theorem us_occ : ∀ (n : Nat) {t : Tm}, TmG t → tmSz t ≤ n → ∀ x : Int, 0 ≤ x → x + n ≤ 1000000 → t.us x = (tmOcc t x : Int)
  | 0, t, h, hn, x, _, _ => by have := tmSz_pos t; omega
  | n + 1, t, h, hn, x, hx, hb => by
    revert hn
    refine h.cases' (p := fun t => tmSz t ≤ n + 1 → t.us x = (tmOcc t x : Int)) ?_ ?_
    · intro i hi _
      rw [tmVar, Tm.us, tmOcc, Tm.usL_nil]
      cases hix : (i == x) <;> simp [tmOccL]
    · intro k ty l hk _ hl _ hn
      rw [tmSz] at hn
      have hr := tmBelow_range k
      have e : addW x (tmBelow k) = x + tmBelow k := addW_eq (by omega) (by omega) (by omega) (by omega)
      rw [Tm.us, tmOcc, hk, below_if hx (by omega), e]
      simp only [Bool.false_and, Bool.false_eq_true, if_false]
      have := usL_sum (a := x + tmBelow k) l 0 (fun y hy => us_occ n (hl y hy) (by have := tmSzL_mem hy; omega) _ (by omega) (by omega)) (by omega)
      simpa using this

theorem evB_eq {k d : Int} (h0 : 0 ≤ d) (h1 : d ≤ 1000000) : evB k d = d + fmBelow k := by
  have e : quant k = (decide (k ≥ 4) && decide (k ≤ 7)) := by
    unfold quant
    by_cases h4 : k = 4
    · subst h4; rfl
    by_cases h5 : k = 5
    · subst h5; rfl
    by_cases h6 : k = 6
    · subst h6; rfl
    by_cases h7 : k = 7
    · subst h7; rfl
    have a4 : (k == 4) = false := by simpa using h4
    have a5 : (k == 5) = false := by simpa using h5
    have a6 : (k == 6) = false := by simpa using h6
    have a7 : (k == 7) = false := by simpa using h7
    rw [a4, a5, a6, a7]
    by_cases h : k ≥ 4
    · have : ¬ k ≤ 7 := by omega
      simp [h, this]
    · simp [h]
  unfold evB fmBelow
  rw [← e]
  split
  · exact addW_eq (by omega) (by omega) (by omega) (by omega)
  · omega

theorem fsp_inn {u : Bool} {s : Tm} (hs : TmG s) (zs : tmSz s ≤ 10000) (ls : s.least 1000000000 = true) {f : Fm} (h : FmG u f) : ∀ d : Int, 0 ≤ d → d + fmSz f ≤ 500000 →
    f.ev (fun t b => tmSp s 0 t b) d = fmInn s 0 f d := by
  induction h with
  | @eq x y hx hy =>
    intro d h0 hb
    rw [fmSz_eq] at hb
    rw [fmInn_eqn, fmEq, Fm.ev_eq]
    have e : evB 1 d = d := by rw [evB_eq h0 (by omega)]; show d + 0 = d; omega
    simp only [Fm.kind, Fm.terms, Fm.args, Fm.type, List.map_cons, List.map_nil, e]
    rw [sp_inn hs zs ls _ hx (Nat.le_refl _) d h0 (by omega), sp_inn hs zs ls _ hy (Nat.le_refl _) d h0 (by omega)]
    rfl
  | @two k p q hk _ _ h1 h2 =>
    intro d h0 hb
    rw [fmSz_two] at hb
    rw [fmInn_two, fmTwo, Fm.ev_eq]
    simp only [Fm.kind, Fm.terms, Fm.args, Fm.type, List.map_cons, List.map_nil]
    rw [evB_eq h0 (by omega), below_two hk, addW_zero h0 (by omega), Int.add_zero, h1 d h0 (by omega), h2 d h0 (by omega)]
    rfl
  | @q k t p hk hs _ h1 =>
    intro d h0 hb
    rw [fmSz_q] at hb
    have hr := fmBelow_range k
    have e := addW_eq (a := d) (b := fmBelow k) (by omega) (by omega) (by omega) (by omega)
    rw [fmInn_q, e, fmQ, Fm.ev_eq]
    simp only [Fm.kind, Fm.terms, Fm.args, Fm.type, List.map_cons, List.map_nil]
    rw [evB_eq h0 (by omega), h1 _ (by omega) (by omega)]
    rfl

theorem mul_b {a b m c : Nat} (h : a ≤ b) (hm : m ≤ c) : a * m ≤ b * c := Nat.le_trans (Nat.mul_le_mul_right m h) (Nat.mul_le_mul_left b hm)
theorem grown_occ {u : Bool} {m c : Nat} (hm : m ≤ c) {f : Fm} (h : FmG u f) : ∀ (d : Int) (n : Nat), 0 ≤ d → d + fmSz f ≤ 100000 → n + fmSz f * c ≤ 1000000000 →
    f.es (grownG (m : Int)) d (n : Int) = ((n + fmOcc f d * m : Nat) : Int) := by
  have step : ∀ {x : Tm} {d : Int} {n : Nat}, TmG x → 0 ≤ d → d + tmSz x ≤ 1000000 → n + tmSz x * c ≤ 1000000000 → tmSz x ≤ 100000 → grownG (m : Int) x d (n : Int) = ((n + tmOcc x d * m : Nat) : Int) := by
    intro x d n hx h0 hb hn hx2
    have ho := tmOcc_le x d
    have hp := mul_b ho hm
    unfold grownG mulW
    rw [us_occ _ hx (Nat.le_refl _) d h0 hb]
    have e : IntKind.i64.wrap ((m : Int) * (tmOcc x d : Int)) = ((tmOcc x d * m : Nat) : Int) := wrap_eq (by rw [Int.natCast_mul, Int.mul_comm]) (by omega) (by omega)
    rw [e, addW_eq (by omega) (by omega) (by omega) (by omega)]
    omega
  induction h with
  | @eq x y hx hy =>
    intro d n h0 hb hn
    rw [fmSz_eq] at hb hn; rw [Nat.add_mul, Nat.add_mul] at hn
    have e : evB 1 d = d := by rw [evB_eq h0 (by omega)]; show d + 0 = d; omega
    have h1 := step (n := n) hx h0 (by omega) (by omega) (by omega)
    have hp := mul_b (tmOcc_le x d) hm
    have h2 := step (n := n + tmOcc x d * m) hy h0 (by omega) (by omega) (by omega)
    rw [fmEq, Fm.es_eq]
    simp only [Fm.kind, Fm.terms, Fm.args, e, tmsS_cons, tmsS_nil, Fm.esL_nil]
    rw [h1, h2]
    simp only [fmOcc, tmOccL, fmOccL, Nat.add_zero, Nat.add_mul]
    omega
  | @two k p q hk _ _ h1 h2 =>
    intro d n h0 hb hn
    rw [fmSz_two] at hb hn; rw [Nat.add_mul, Nat.add_mul] at hn
    have hp := mul_b (fmOcc_le p d) hm
    rw [fmTwo, Fm.es_eq]
    simp only [Fm.kind, Fm.terms, Fm.args, tmsS_cons, tmsS_nil, Fm.esL_cons, Fm.esL_nil]
    rw [evB_eq h0 (by omega), below_two hk, Int.add_zero, h1 d n h0 (by omega) (by omega), h2 d _ h0 (by omega) (by omega)]
    simp only [fmOcc, tmOccL, fmOccL, Nat.add_zero, Nat.zero_add, below_two hk, Int.add_zero, Nat.add_mul]
    omega
  | @q k t p hk hs _ h1 =>
    intro d n h0 hb hn
    rw [fmSz_q] at hb hn; rw [Nat.add_mul] at hn
    have hr := fmBelow_range k
    rw [fmQ, Fm.es_eq]
    simp only [Fm.kind, Fm.terms, Fm.args, tmsS_cons, tmsS_nil, Fm.esL_cons, Fm.esL_nil]
    rw [evB_eq h0 (by omega), h1 _ n (by omega) (by omega) (by omega)]
    simp only [fmOcc, tmOccL, fmOccL, Nat.add_zero, Nat.zero_add]

theorem tmsS_far {b : Int} : ∀ (l : List Tm) (s : Bool), tmsS farG b s l = (s || !Tm.leastL 268435456 l)
  | [], s => by simp [tmsS, Tm.leastL]
  | t :: l, s => by rw [tmsS, tmsS_far l, Tm.leastL, farG]; cases s <;> cases t.least 268435456 <;> simp
mutual
theorem es_far : ∀ (f : Fm) (b : Int) (s : Bool), f.es farG b s = (s || !f.least 268435456)
  | .mk k t l a, b, s => by rw [Fm.es, esL_far a, tmsS_far, Fm.least]; cases s <;> cases Tm.leastL 268435456 l <;> simp
theorem esL_far : ∀ (l : List Fm) (b : Int) (s : Bool), Fm.esL farG l b s = (s || !Fm.leastL 268435456 l)
  | [], b, s => by simp [Fm.esL, Fm.leastL]
  | f :: l, b, s => by rw [Fm.esL, esL_far l, es_far f, Fm.leastL]; cases s <;> cases f.least 268435456 <;> simp
end
theorem far_least (f : Fm) : f.far = !f.least 268435456 := by rw [Fm.far, es_far]; rfl

theorem qs_range {u : Bool} {f : Fm} (h : FmG u f) : fmSz f ≤ 1000000 → 0 ≤ f.qs ∧ f.qs ≤ fmSz f := by
  induction h with
  | @eq x y hx hy => intro hb; rw [fmEq, Fm.qs_eq]; simp [Fm.kind, Fm.args, Fm.qsL_nil]
  | @two k p q hk _ _ h1 h2 =>
    intro hb
    rw [fmSz_two] at hb ⊢
    obtain ⟨a1, a2⟩ := h1 (by omega)
    obtain ⟨b1, b2⟩ := h2 (by omega)
    have e : (k == 4 || k == 5) = false := by rcases hk with rfl | rfl <;> rfl
    rw [fmTwo, Fm.qs, e, Fm.qsL_cons, Fm.qsL_cons, Fm.qsL_nil]
    simp only [Bool.false_eq_true, if_false]
    rw [addW_z (by omega) (by omega), addW_eq (by omega) (by omega) (by omega) (by omega)]
    omega
  | @q k t p hk hs _ h1 =>
    intro hb
    rw [fmSz_q] at hb ⊢
    obtain ⟨a1, a2⟩ := h1 (by omega)
    rw [fmQ, Fm.qs, Fm.qsL_cons, Fm.qsL_nil]
    by_cases hq : (k == 4 || k == 5) = true
    · rw [if_pos hq, addW_eq (by omega) (by omega) (by omega) (by omega)]; omega
    · rw [if_neg hq, addW_z (by omega) (by omega)]; omega
end GoAbs

namespace GoAbs
open Go

theorem TyF.hsz {t : Ty} (h : TyF t) : 2 * tyH t ≤ tySz t + 1 := by
  induction h with
  | nat => rw [tyH_nat, tySz_nat]; omega
  | list => rw [tyH_list, tySz_list]; omega
  | unit => rw [tyH_unit, tySz_unit]; omega
  | @pair a b _ _ h1 h2 => rw [tyH_pair, tySz_pair]; have := tySz_pos a; have := tySz_pos b; omega
  | @func a b _ _ h1 h2 => rw [tyH_fun, tySz_fun]; have := tySz_pos a; have := tySz_pos b; omega
theorem TyG.h40 {t : Ty} (h : TyG t) : tyH t ≤ 32 := by have := h.1.hsz; have := h.2; omega

theorem mTwo_code {k : Int} {x y : Fm × Int} (hx : x.2 = 0 ∨ x.2 = 4) (hy : y.2 = 0 ∨ y.2 = 4) : (mTwo k x y).2 = 0 ∨ (mTwo k x y).2 = 4 := by
  unfold mTwo
  repeat' split
  · exact hx
  · exact hy
  · exact .inr rfl
  · exact .inl rfl
theorem mWith_code {r : Fm → Tm → Tm → Fm × Int} (hr : ∀ f w c, (r f w c).2 = 0 ∨ (r f w c).2 = 4) (b : Fm) (x w c : Tm) : (mWith r b x w c).2 = 0 ∨ (mWith r b x w c).2 = 4 := by
  unfold mWith
  split
  · exact .inr rfl
  · exact hr _ _ _
theorem mOf_code : ∀ (n : Nat) (f : Fm) (w c : Tm), (mOf n f w c).2 = 0 ∨ (mOf n f w c).2 = 4
  | 0, _, _, _ => .inr rfl
  | n + 1, f, w, c => by
    rw [mOf]
    repeat' split
    · exact .inr rfl
    · exact mTwo_code (mOf_code n _ _ _) (mOf_code n _ _ _)
    · exact mTwo_code (mOf_code n _ _ _) (mOf_code n _ _ _)
    · exact mWith_code (mOf_code n) _ _ _ _
    · exact mWith_code (mOf_code n) _ _ _ _
    · exact .inl rfl

theorem fdp_pos (f : Fm) : 1 ≤ fdp f := by cases f; rw [fdp]; omega
theorem fdp_two {k : Int} {a b : Fm} : fdp (fmTwo k a b) = max (fdp a) (fdp b) + 1 := by simp [fmTwo, fdp, fdpL]
theorem fdp_eqn {x y : Tm} : fdp (fmEq x y) = 1 := by simp [fmEq, fdp, fdpL]

theorem mOf_two3 {n : Nat} {a b : Fm} {w c : Tm} (h : mOf (n + 1) (fmTwo 3 a b) w c ≠ (zeroF, 4)) : mOf (n + 1) (fmTwo 3 a b) w c = mImp (mOf n) a b w c := by
  rw [mOf] at h ⊢
  split
  · rename_i hh; rw [if_pos hh] at h; exact absurd rfl h
  · rfl

theorem falseF_look : falseF.look = ((tUnit, tUnit), 0) := rfl
theorem tmSz0 {k : Int} : (tm0 k []).szW = 1 := by rw [tm0, Tm.szW, Tm.szWL]

/-- What the matrix of a negation is. -/
theorem mTwo_ok {k : Int} {x y : Fm × Int} (h : (mTwo k x y).2 = 0) : x.2 = 0 ∧ y.2 = 0 ∧ (mTwo k x y).1 = fmTwo k x.1 y.1 := by
  unfold mTwo at h ⊢
  split at h
  · rename_i hh; rw [h] at hh; simp at hh
  · rename_i h1
    rw [if_neg h1]
    split at h
    · rename_i hh; rw [h] at hh; simp at hh
    · rename_i h2
      rw [if_neg h2]
      split at h
      · simp at h
      · rename_i h3
        rw [if_neg h3]
        exact ⟨by simpa using h1, by simpa using h2, rfl⟩

theorem fl_least {f : Fm} {M : Int} (h : f.least M = true) : f.far = (!f.least 268435456) := far_least f

theorem not_matrix {f : Fm} {w fn : Tm} (hf : FmG false f) (ok : f.look.2 = 0) (hn : (mOf (fdp f + 1) (fmTwo 3 f falseF) fn w).2 = 0) :
    ∃ a, mOf (fdp f + 1) (fmTwo 3 f falseF) fn w = (fmTwo 3 a falseF, 0) ∧
      (f.look.1.2.kind == 5 ∨ (if f.look.1.1.kind == 5 then mOf (fdp f) f (tm0 13 []) fn else mOf (fdp f) f w (tm0 3 [fn, w])) = (a, 0)) := by
  have e := mOf_two3 (n := fdp f) (a := f) (b := falseF) (w := fn) (c := w) (by intro e; rw [e] at hn; cases hn)
  rw [e] at hn ⊢
  rcases hf.look with ⟨_, e1, _, g1, g2⟩ | e4
  · rw [e1] at ok ⊢
    unfold mImp at hn ⊢
    simp only [e1, falseF_look] at hn ⊢
    have u5 : (tUnit.kind == 5) = true := rfl
    have x1 : chFun f.ch.1.1 tUnit = tUnit := by simp only [chFun, u5, if_true]
    have hb : chFun tUnit f.ch.1.2 = f.ch.1.2 := by
      cases hk : (f.ch.1.2.kind == 5) with
      | true => rw [g2.1.kind5 hk]; rfl
      | false => simp only [chFun, hk, u5, if_true, Bool.false_eq_true, if_false]
    rw [x1, hb] at hn ⊢
    obtain ⟨h1, h2, h3⟩ := mTwo_ok hn
    refine ⟨_, Prod.ext (h3.trans (congrArg (fmTwo 3 _) (a₂ := falseF) ?_)) hn, ?_⟩
    · have : ∀ r : Fm × Int, r.2 = 0 → (r = (falseF, 0) ∨ r = (zeroF, 4)) → r.1 = falseF := by
        rintro r hr (rfl | rfl)
        · rfl
        · cases hr
      refine this _ h2 ?_
      obtain ⟨m, hm⟩ : ∃ m, fdp f = m + 1 := ⟨fdp f - 1, by have := fdp_pos f; omega⟩
      rw [hm, mOf]
      split
      · exact .inr rfl
      · exact .inl rfl
    · cases hk : (f.ch.1.2.kind == 5) with
      | true => exact .inl rfl
      | false =>
        right
        cases hv : (f.ch.1.1.kind == 5) with
        | true =>
          simp only [if_true]
          have q1 : ((chFun f.ch.1.1 f.ch.1.2).kind == 5) = false := by simp only [chFun, hk, hv, if_true, Bool.false_eq_true, if_false]
          simp only [chPart, chCall, hk, hv, u5, q1, if_true, Bool.false_eq_true, if_false] at h1 ⊢
          exact Prod.ext rfl h1
        | false =>
          simp only [Bool.false_eq_true, if_false]
          have q1 : ((chFun f.ch.1.1 f.ch.1.2).kind == 5) = false := by simp only [chFun, hk, hv, if_true, Bool.false_eq_true, if_false]; rfl
          simp only [chPart, chCall, hk, hv, u5, q1, if_true, Bool.false_eq_true, if_false] at h1 ⊢
          exact Prod.ext rfl h1
  · rw [e4] at ok; cases ok

theorem least_tm0 {k : Int} {l : List Tm} {M : Int} (hM : 0 ≤ M) (h : ∀ x ∈ l, x.least M = true) : (tm0 k l).least M = true := least_mk (by omega) h
theorem chCall_G {a b : Ty} {f t : Tm} (h1 : TmG f) (h2 : TmG t) : TmG (chCall a b f t) := by
  unfold chCall
  repeat' split
  · exact .t0 ar13 rfl
  · exact h1
  · exact .t2 ar3 rfl h1 h2
theorem chCall_least {a b : Ty} {f t : Tm} {M : Int} (hM : 0 ≤ M) (h1 : f.least M = true) (h2 : t.least M = true) : (chCall a b f t).least M = true := by
  unfold chCall
  repeat' split
  · exact least_tm0 hM (by simp)
  · exact h1
  · exact least_tm0 hM (by simp [h1, h2])
theorem chCall_sz {a b : Ty} {f t : Tm} : tmSz (chCall a b f t) ≤ tmSz f + tmSz t + 1 := by
  unfold chCall
  repeat' split
  · rw [tmSz_0]; omega
  · omega
  · rw [tmSz_2]; omega
theorem TmG.err04 {t : Tm} (h : TmG t) (hs : tmSz t ≤ 1000000) : tmErr t = 0 ∨ tmErr t = 4 := by
  rw [h.err_val hs]; split
  · exact .inl rfl
  · exact .inr rfl

theorem matF_code {f : Fm} {w c : Tm} (ok : f.look.2 = 0) (lf : f.least 268435456 = true) (lw : w.least 268435456 = true) (lc : c.least 268435456 = true)
    (ew : tmErr w = 0 ∨ tmErr w = 4) (ec : tmErr c = 0 ∨ tmErr c = 4) : (matF f w c).2 = 4 ∨ ((matF f w c).2 = 0 ∧ matF f w c = mOf (fdp f) f w c) := by
  unfold matF
  rw [ok, far_least, lf, lw, lc]
  rcases ew with e | e <;> rw [e]
  · rcases ec with e | e <;> rw [e]
    · simp only [bne_self_eq_false, Bool.false_eq_true, if_false, Bool.not_true, Bool.or_false]
      rcases mOf_code (fdp f) f w c with h | h
      · exact .inr ⟨h, trivial⟩
      · exact .inl h
    · exact .inl rfl
  · exact .inl rfl

theorem fleast_two {k : Int} {a b : Fm} {M : Int} (h1 : a.least M = true) (h2 : b.least M = true) : (fmTwo k a b).least M = true := by
  rw [fmTwo, Fm.least]; simp [Tm.leastL_nil, Fm.leastL_cons, Fm.leastL_nil, h1, h2]
theorem falseF_least {M : Int} (hM : 0 ≤ M) : falseF.least M = true := by
  have h0 : (tm0 4 []).least M = true := least_tm0 hM (by simp)
  have h1 : (tm0 5 [tm0 4 []]).least M = true := least_tm0 hM (by simp [h0])
  rw [falseF, fmEq, Fm.least]; simp [Tm.leastL_nil, Tm.leastL_cons, Fm.leastL_nil, h0, h1]

/-- The law of the matrix of a negation. -/
theorem law_matNot {f : Fm} {w fn : Tm} (hf : FmG false f) (gw : TmG w) (gfn : TmG fn) (lf : f.least 268435456 = true) (lw : w.least 268435456 = true) (lfn : fn.least 268435456 = true)
    (zw : tmSz w ≤ 400000) (zfn : tmSz fn ≤ 400000) (ok : f.look.2 = 0) (okn : (fmTwo 3 f falseF).look.2 = 0) (A B : Fm × Int) (hA : A = matF (fmTwo 3 f falseF) fn w)
    (hB : B = if f.look.1.1.kind == 5 then matF f (tm0 13 []) fn else matF f w (chCall f.look.1.1 f.look.1.2 fn w)) :
    A.2 = 4 ∨ (A.2 = 0 ∧ B.2 = 4) ∨ (A.2 = 0 ∧ B.2 = 0 ∧ ∃ a, A.1 = fmTwo 3 a falseF ∧ (f.look.1.2.kind == 5 ∨ a = B.1)) := by
  have ew := gw.err04 (by omega)
  have efn := gfn.err04 (by omega)
  have gu : TmG (tm0 13 []) := .t0 ar13 rfl
  have lu : (tm0 13 []).least 268435456 = true := least_tm0 (by omega) (by simp)
  have hd : fdp (fmTwo 3 f falseF) = fdp f + 1 := by
    rw [fdp_two, falseF, fdp_eqn]; have := fdp_pos f; omega
  rcases matF_code okn (fleast_two lf (falseF_least (by omega))) lfn lw efn ew with h | ⟨h0, h1⟩
  · left; rw [hA]; exact h
  · right
    rw [hd] at h1
    have h0' := h0
    rw [h1] at h0'
    obtain ⟨a, e1, e2⟩ := not_matrix hf ok h0'
    have hA1 : A.1 = fmTwo 3 a falseF := by rw [hA, h1, e1]
    have hA2 : A.2 = 0 := by rw [hA]; exact h0
    have hBc : B.2 = 4 ∨ (B.2 = 0 ∧ B = if f.look.1.1.kind == 5 then mOf (fdp f) f (tm0 13 []) fn else mOf (fdp f) f w (chCall f.look.1.1 f.look.1.2 fn w)) := by
      rw [hB]
      split
      · exact matF_code ok lf lu lfn (gu.err04 (by rw [tmSz_0]; omega)) efn
      · exact matF_code ok lf lw (chCall_least (by omega) lfn lw) ew ((chCall_G gfn gw).err04 (by have := chCall_sz (a := f.look.1.1) (b := f.look.1.2) (f := fn) (t := w); omega))
    rcases hBc with h | ⟨hb0, hb1⟩
    · exact .inl ⟨hA2, h⟩
    · right
      refine ⟨hA2, hb0, a, hA1, ?_⟩
      rcases e2 with e2 | e2
      · exact .inl e2
      · cases ht : (f.look.1.2.kind == 5) with
        | true => exact .inl rfl
        | false =>
        right
        rw [hb1]
        cases hs : (f.look.1.1.kind == 5) with
        | true => rw [hs] at e2; simp only [if_true] at e2 ⊢; rw [e2]
        | false =>
          rw [hs] at e2
          simp only [Bool.false_eq_true, if_false] at e2 ⊢
          rw [chCall, ht, hs]
          simp only [Bool.false_eq_true, if_false]
          rw [e2]
end GoAbs

namespace GoAbs
open Go

mutual
def Ty.cnt : Ty → Nat → Nat
  | .mk _ l, m => Ty.cntL m 1 l
def Ty.cntL (m : Nat) : Nat → List Ty → Nat
  | n, [] => n
  | n, t :: l => if n ≤ m then Ty.cntL m (n + t.cnt (m - n)) l else n
end
theorem Ty.cnt_eq (t : Ty) (m : Nat) : t.cnt m = Ty.cntL m 1 t.args := by cases t; rw [Ty.cnt]; rfl
theorem Ty.cntL_nil {m n : Nat} : Ty.cntL m n [] = n := by rw [Ty.cntL]
theorem Ty.cntL_cons {m n : Nat} {t : Ty} {l : List Ty} (h : n ≤ m) : Ty.cntL m n (t :: l) = Ty.cntL m (n + t.cnt (m - n)) l := by rw [Ty.cntL, if_pos h]
theorem Ty.cntL_stop {m n : Nat} {l : List Ty} (h : ¬ n ≤ m) : Ty.cntL m n l = n := by cases l <;> rw [Ty.cntL]; rw [if_neg h]
def tyCnt (t : Ty) (m : Nat) : Nat := if m = 0 then 1 else t.cnt (m - 1)
mutual
def Tm.cnt : Tm → Nat → Nat
  | .mk _ _ ty l, m => Tm.cntL m (1 + tyCnt ty m) l
def Tm.cntL (m : Nat) : Nat → List Tm → Nat
  | n, [] => n
  | n, t :: l => if n ≤ m then Tm.cntL m (n + t.cnt (m - n)) l else n
end
theorem Tm.cnt_eq (t : Tm) (m : Nat) : t.cnt m = Tm.cntL m (1 + tyCnt t.type m) t.args := by cases t; rw [Tm.cnt]; rfl
theorem Tm.cntL_nil {m n : Nat} : Tm.cntL m n [] = n := by rw [Tm.cntL]
theorem Tm.cntL_cons {m n : Nat} {t : Tm} {l : List Tm} (h : n ≤ m) : Tm.cntL m n (t :: l) = Tm.cntL m (n + t.cnt (m - n)) l := by rw [Tm.cntL, if_pos h]
theorem Tm.cntL_stop {m n : Nat} {l : List Tm} (h : ¬ n ≤ m) : Tm.cntL m n l = n := by cases l <;> rw [Tm.cntL]; rw [if_neg h]

theorem Ty.cntL_ge : ∀ (l : List Ty) (m n : Nat), n ≤ Ty.cntL m n l
  | [], m, n => by rw [Ty.cntL]; omega
  | t :: l, m, n => by
    rw [Ty.cntL]; split
    · have := Ty.cntL_ge l m (n + t.cnt (m - n)); omega
    · omega
theorem Ty.cnt_pos (t : Ty) (m : Nat) : 1 ≤ t.cnt m := by rw [Ty.cnt_eq]; exact Ty.cntL_ge _ _ _
mutual
theorem Ty.cnt_le : ∀ (t : Ty) (m : Nat), t.cnt m ≤ m + 2
  | .mk _ l, m => by rw [Ty.cnt]; exact Ty.cntL_le l m 1 (by omega)
theorem Ty.cntL_le : ∀ (l : List Ty) (m n : Nat), n ≤ m + 2 → Ty.cntL m n l ≤ m + 2
  | [], m, n, h => by rw [Ty.cntL]; exact h
  | t :: l, m, n, h => by
    rw [Ty.cntL]; split
    · have := Ty.cnt_le t (m - n)
      exact Ty.cntL_le l m _ (by omega)
    · exact h
end
theorem tyCnt_le (t : Ty) (m : Nat) : tyCnt t m ≤ m + 1 := by
  unfold tyCnt; split
  · omega
  · have := t.cnt_le (m - 1); omega
theorem tyCnt_pos (t : Ty) (m : Nat) : 1 ≤ tyCnt t m := by
  unfold tyCnt; split
  · omega
  · exact t.cnt_pos _
theorem Tm.cntL_ge : ∀ (l : List Tm) (m n : Nat), n ≤ Tm.cntL m n l
  | [], m, n => by rw [Tm.cntL]; omega
  | t :: l, m, n => by
    rw [Tm.cntL]; split
    · have := Tm.cntL_ge l m (n + t.cnt (m - n)); omega
    · omega
theorem Tm.cnt_pos (t : Tm) (m : Nat) : 1 ≤ t.cnt m := by rw [Tm.cnt_eq]; have := Tm.cntL_ge t.args m (1 + tyCnt t.type m); omega
mutual
theorem Tm.cnt_le : ∀ (t : Tm) (m : Nat), t.cnt m ≤ m + 2
  | .mk _ _ ty l, m => by rw [Tm.cnt]; exact Tm.cntL_le l m _ (by have := tyCnt_le ty m; omega)
theorem Tm.cntL_le : ∀ (l : List Tm) (m n : Nat), n ≤ m + 2 → Tm.cntL m n l ≤ m + 2
  | [], m, n, h => by rw [Tm.cntL]; exact h
  | t :: l, m, n, h => by
    rw [Tm.cntL]; split
    · have := Tm.cnt_le t (m - n)
      exact Tm.cntL_le l m _ (by omega)
    · exact h
end

theorem Ty.cntL_fits : ∀ (l : List Ty) (m n : Nat), Ty.cntL m n l ≤ m → (∀ x ∈ l, ∃ m', m' ≤ m ∧ x.cnt m' ≤ m') ∧ n + l.length ≤ m
  | [], m, n, h => by rw [Ty.cntL] at h; exact ⟨by simp, by simpa using h⟩
  | t :: l, m, n, h => by
    rw [Ty.cntL] at h
    split at h
    · obtain ⟨h1, h2⟩ := Ty.cntL_fits l m _ h
      have := t.cnt_pos (m - n)
      refine ⟨fun x hx => ?_, by simp only [List.length_cons]; omega⟩
      rcases List.mem_cons.1 hx with rfl | hx
      · exact ⟨m - n, by omega, by omega⟩
      · exact h1 x hx
    · omega
theorem Ty.cnt_W : ∀ (t : Ty) (m : Nat), m ≤ 100000 → t.cnt m ≤ m → TyW t := by
  intro t
  induction t using Ty.ind with | h t ih => ?_
  intro m hm h
  rw [Ty.cnt_eq] at h
  obtain ⟨h1, h2⟩ := Ty.cntL_fits _ _ _ h
  cases t with | mk k l =>
  refine .mk k l (show (Ty.mk k l).args.length ≤ 100000 by omega) fun x hx => ?_
  obtain ⟨m', a, b⟩ := h1 x hx
  exact ih x hx m' (by omega) b
theorem Tm.cntL_fits : ∀ (l : List Tm) (m n : Nat), Tm.cntL m n l ≤ m → (∀ x ∈ l, ∃ m', m' ≤ m ∧ x.cnt m' ≤ m') ∧ n + l.length ≤ m
  | [], m, n, h => by rw [Tm.cntL] at h; exact ⟨by simp, by simpa using h⟩
  | t :: l, m, n, h => by
    rw [Tm.cntL] at h
    split at h
    · obtain ⟨h1, h2⟩ := Tm.cntL_fits l m _ h
      have := t.cnt_pos (m - n)
      refine ⟨fun x hx => ?_, by simp only [List.length_cons]; omega⟩
      rcases List.mem_cons.1 hx with rfl | hx
      · exact ⟨m - n, by omega, by omega⟩
      · exact h1 x hx
    · omega
theorem Tm.cnt_W : ∀ (t : Tm) (m : Nat), m ≤ 100000 → t.cnt m ≤ m → TmW t := by
  intro t
  induction t using Tm.ind with | h t ih => ?_
  intro m hm h
  rw [Tm.cnt_eq] at h
  obtain ⟨h1, h2⟩ := Tm.cntL_fits _ _ _ h
  have hty : TyW t.type := by
    unfold tyCnt at h2
    split at h2
    · omega
    · exact Ty.cnt_W t.type (m - 1) (by omega) (by omega)
  cases t with | mk k i ty l =>
  refine .mk k i ty l hty (show (Tm.mk k i ty l).args.length ≤ 100000 by omega) fun x hx => ?_
  obtain ⟨m', a, b⟩ := h1 x hx
  exact ih x hx m' (by omega) b

/-- play.Count().Term(..). -/
def sumTm : Nat → List Tm → Nat
  | n, [] => n
  | n, t :: l => if n ≤ 20000 then sumTm (n + t.cnt 20000) l else n
theorem sumTm_cons {n : Nat} {t : Tm} {l : List Tm} (h : n ≤ 20000) : sumTm n (t :: l) = sumTm (n + t.cnt 20000) l := by rw [sumTm, if_pos h]
theorem sumTm_stop {n : Nat} {l : List Tm} (h : ¬ n ≤ 20000) : sumTm n l = n := by cases l <;> rw [sumTm]; rw [if_neg h]
theorem sumTm_ge : ∀ (l : List Tm) (n : Nat), n ≤ sumTm n l
  | [], n => by rw [sumTm]; omega
  | t :: l, n => by
    rw [sumTm]; split
    · have := sumTm_ge l (n + t.cnt 20000); omega
    · omega
theorem sumTm_W : ∀ (l : List Tm) (n : Nat), sumTm n l ≤ 20000 → ∀ x ∈ l, TmW x
  | [], n, _ => by simp
  | t :: l, n, h => by
    rw [sumTm] at h
    split at h
    · intro x hx
      rcases List.mem_cons.1 hx with rfl | hx
      · have := sumTm_ge l (n + x.cnt 20000)
        exact x.cnt_W 20000 (by omega) (by omega)
      · exact sumTm_W l _ h x hx
    · omega

theorem tmErr_ok {t : Tm} (h : tmErr t = 0) : t.szW ≤ 4096 := by
  unfold tmErr at h
  cases hn : t.nodes with
  | none => rw [hn] at h; cases h
  | some n =>
    rw [hn, chk] at h
    rw [t.szW_nodes n hn]
    split at h
    · cases h
    · omega

theorem eqn_look {x y : Tm} (hx : TmG x) (hy : TmG y) (hs : tmSz x + tmSz y ≤ 4000) : (fmEq x y).look = ((tUnit, tUnit), 0) := by
  have hf : FmG false (fmEq x y) := .eq hx hy
  have he := hf.err_val (by rw [fmSz_eq]; omega)
  rw [fmSz_eq, if_pos (by omega)] at he
  unfold Fm.look
  rw [he, hf.uni, ch_eqn]; rfl

/-- The law of a formula that is its own matrix. -/
theorem law_matSelf {k : Int} (hk : k = 2 ∨ k = 3) {x y x' y' w c : Tm} (gx : TmG x) (gy : TmG y) (gx' : TmG x') (gy' : TmG y') (zx : tmSz x ≤ 500) (zy : tmSz y ≤ 500) (zx' : tmSz x' ≤ 500) (zy' : tmSz y' ≤ 500)
    (lx : x.least 268435456 = true) (ly : y.least 268435456 = true) (lx' : x'.least 268435456 = true) (ly' : y'.least 268435456 = true)
    (ew : tmErr w = 0) (ec : tmErr c = 0) (lw : w.least 268435456 = true) (lc : c.least 268435456 = true) :
    matF (fmTwo k (fmEq x y) (fmEq x' y')) w c = (fmTwo k (fmEq x y) (fmEq x' y'), 0) := by
  have G1 : FmG false (fmEq x y) := .eq gx gy
  have G2 : FmG false (fmEq x' y') := .eq gx' gy'
  have G : FmG false (fmTwo k (fmEq x y) (fmEq x' y')) := .two hk G1 G2
  have z : fmSz (fmTwo k (fmEq x y) (fmEq x' y')) ≤ 2100 := by rw [fmSz_two, fmSz_eq, fmSz_eq]; omega
  have he := G.err_val (by omega)
  rw [if_pos (by omega)] at he
  have l1 := eqn_look gx gy (by omega)
  have l2 := eqn_look gx' gy' (by omega)
  have hch : (fmTwo k (fmEq x y) (fmEq x' y')).ch = ((tUnit, tUnit), 0) := by
    rw [ch_two, ch_eqn, ch_eqn]
    rcases hk with rfl | rfl <;> rfl
  have hlook : (fmTwo k (fmEq x y) (fmEq x' y')).look = ((tUnit, tUnit), 0) := by
    unfold Fm.look
    rw [he, G.uni, hch]; rfl
  have le : ∀ a b : Tm, a.least 268435456 = true → b.least 268435456 = true → (fmEq a b).least 268435456 = true := fun a b h1 h2 => by
    rw [fmEq, Fm.least]; simp [Tm.leastL_nil, Tm.leastL_cons, Fm.leastL_nil, h1, h2]
  have hl : (fmTwo k (fmEq x y) (fmEq x' y')).least 268435456 = true := fleast_two (le x y lx ly) (le x' y' lx' ly')
  have hd : fdp (fmTwo k (fmEq x y) (fmEq x' y')) = 2 := by rw [fdp_two, fdp_eqn, fdp_eqn]; rfl
  have sw := tmErr_ok ew
  have sc := tmErr_ok ec
  have m1 : ∀ a b : Tm, mOf 1 (fmEq a b) (tm0 13 []) (tm0 13 []) = (fmEq a b, 0) := fun a b => by
    rw [mOf, tmSz0]; rfl
  have hz : decide ((fmTwo k (fmEq x y) (fmEq x' y')).szW > 4096) = false := by
    rw [Fm.szW_nodes _ _ (G.nodes_val (by omega))]
    simp; omega
  have mt : mTwo k (fmEq x y, 0) (fmEq x' y', 0) = (fmTwo k (fmEq x y) (fmEq x' y'), 0) := by
    unfold mTwo
    rw [hz]; rfl
  unfold matF
  rw [hlook, ew, ec, far_least, hl, lw, lc, hd, mOf]
  have d1 : decide (w.szW > 4096) = false := by simp; omega
  have d2 : decide (c.szW > 4096) = false := by simp; omega
  rw [d1, d2]
  rcases hk with rfl | rfl
  · simp only [bne_self_eq_false, Bool.false_eq_true, if_false, Bool.not_true, Bool.or_self]
    show mAnd (mOf 1) (fmEq x y) (fmEq x' y') w c = _
    unfold mAnd
    rw [l1, l2]
    show mTwo 2 (mOf 1 (fmEq x y) (tm0 13 []) (tm0 13 [])) (mOf 1 (fmEq x' y') (tm0 13 []) (tm0 13 [])) = _
    rw [m1, m1]; exact mt
  · simp only [bne_self_eq_false, Bool.false_eq_true, if_false, Bool.not_true, Bool.or_self]
    show mImp (mOf 1) (fmEq x y) (fmEq x' y') w c = _
    unfold mImp
    rw [l1, l2]
    show mTwo 3 (mOf 1 (fmEq x y) (tm0 13 []) (tm0 13 [])) (mOf 1 (fmEq x' y') (tm0 13 []) (tm0 13 [])) = _
    rw [m1, m1]; exact mt
end GoAbs
