/-
  The abstract layer: plain laws.
-/
import Derived.Test.YtoaiejpnenfpnaaGreatDoorAbsC
set_option linter.unusedSimpArgs false
set_option linter.unusedVariables false
set_option linter.unusedSectionVars false
namespace GoAbs
open Go

theorem Ty.nodes_mk (k : Int) (l : List Ty) : (Ty.mk k l).nodes = match tyWant k with | none => none | some w => if (l.length : Int) == w then Ty.nodesL 1 l else none := by rw [Ty.nodes]; rfl
theorem Tm.nodes_mk (k i : Int) (t : Ty) (l : List Tm) : (Tm.mk k i t l).nodes = if tmHead k i t l.length then Tm.nodesL 1 l else none := by rw [Tm.nodes]
theorem Fm.nodes_mk (k : Int) (t : Ty) (l : List Tm) (a : List Fm) :
    (Fm.mk k t l a).nodes = if formed k t l.length a.length then (match Tm.nodesL 1 l with | none => none | some n => Fm.nodesL n a) else none := by rw [Fm.nodes]; rfl
theorem Tm.nodes_ok {k i : Int} {t : Ty} {l : List Tm} (h : tmHead k i t l.length = true) (hn : Tm.nodesL 1 l ≠ none) : (Tm.mk k i t l).nodes ≠ none := by
  rw [Tm.nodes_mk, h]; exact hn
theorem Fm.nodes_ok {k : Int} {t : Ty} {l : List Tm} {a : List Fm} {n : Int} (h : formed k t l.length a.length = true) (hl : Tm.nodesL 1 l = some n) (hn : Fm.nodesL n a ≠ none) :
    (Fm.mk k t l a).nodes ≠ none := by
  rw [Fm.nodes_mk, h, hl]; exact hn

mutual
def tySz : Ty → Nat
  | .mk _ l => tySzL l + 1
def tySzL : List Ty → Nat
  | [] => 0
  | t :: l => tySz t + tySzL l
end
theorem tySz_nat : tySz tNat = 1 := by simp [tNat, tySz, tySzL]
theorem tySz_list : tySz tList = 1 := by simp [tList, tySz, tySzL]
theorem tySz_unit : tySz tUnit = 1 := by simp [tUnit, tySz, tySzL]
theorem tySz_pair {a b : Ty} : tySz (tPair a b) = tySz a + tySz b + 1 := by simp [tPair, tySz, tySzL]
theorem tySz_fun {a b : Ty} : tySz (tFun a b) = tySz a + tySz b + 1 := by simp [tFun, tySz, tySzL]
theorem tySz_pos (t : Ty) : 1 ≤ tySz t := by cases t; simp [tySz]

theorem nodes_two {k : Int} {a b : Ty} {x y : Nat} (hk : k = 3 ∨ k = 4) (ha : a.nodes = some (x : Int)) (hb : b.nodes = some (y : Int)) (h : x + y + 1 ≤ 1000000) :
    (Ty.mk k [a, b]).nodes = some ((x + y + 1 : Nat) : Int) := by
  have hw : tyWant k = some 2 := by rcases hk with rfl | rfl <;> rfl
  rw [Ty.nodes_mk, hw]
  have hl : (([a, b] : List Ty).length : Int) = 2 := rfl
  simp only [hl, beq_self_eq_true, if_true]
  have e1 : IntKind.i64.wrap (1 + (x : Int)) = ((x + 1 : Nat) : Int) := wrap_eq (by omega) (by omega) (by omega)
  have e2 : IntKind.i64.wrap (((x + 1 : Nat) : Int) + (y : Int)) = ((x + y + 1 : Nat) : Int) := wrap_eq (by omega) (by omega) (by omega)
  rw [Ty.nodesL_some ha, Ty.nodesL_some hb, Ty.nodesL_nil, e1, e2]

theorem TyF.nodes {t : Ty} (h : TyF t) : tySz t ≤ 1000000 → t.nodes = some (tySz t : Int) := by
  induction h with
  | nat => intro _; rfl
  | list => intro _; rfl
  | unit => intro _; rfl
  | pair _ _ h1 h2 => intro hs; rw [tySz_pair] at hs ⊢; exact nodes_two (.inl rfl) (h1 (by omega)) (h2 (by omega)) (by omega)
  | func _ _ h1 h2 => intro hs; rw [tySz_fun] at hs ⊢; exact nodes_two (.inr rfl) (h1 (by omega)) (h2 (by omega)) (by omega)

/-- Well made and not too large. -/
def TyG (t : Ty) : Prop := TyF t ∧ tySz t ≤ 64
theorem TyF.err {t : Ty} (h : TyF t) (hs : tySz t ≤ 1000000) : tyErr t = if tySz t ≤ 64 then 0 else 4 := by
  unfold tyErr
  rw [h.nodes hs, chk]
  by_cases h64 : tySz t ≤ 64
  · rw [if_neg (by omega), if_pos h64]
  · rw [if_pos (by omega), if_neg h64]
theorem TyG.err {t : Ty} (h : TyG t) : tyErr t = 0 := by rw [h.1.err (by have := h.2; omega), if_pos h.2]
theorem TyG.nat : TyG tNat := ⟨.nat, by rw [tySz_nat]; omega⟩
theorem TyG.list : TyG tList := ⟨.list, by rw [tySz_list]; omega⟩
theorem TyG.unit : TyG tUnit := ⟨.unit, by rw [tySz_unit]; omega⟩
theorem TyG.pair1 {a b : Ty} (h : TyG (tPair a b)) : TyG a ∧ TyG b := by
  obtain ⟨h1, h2⟩ := h
  rw [tySz_pair] at h2
  cases h1 with | pair ha hb => exact ⟨⟨ha, by omega⟩, ⟨hb, by omega⟩⟩
theorem TyG.fun1 {a b : Ty} (h : TyG (tFun a b)) : TyG a ∧ TyG b := by
  obtain ⟨h1, h2⟩ := h
  rw [tySz_fun] at h2
  cases h1 with | func ha hb => exact ⟨⟨ha, by omega⟩, ⟨hb, by omega⟩⟩
theorem MkTy.sz0 {t : Ty} (h : MkTy 0 t) : tySz t = 1 := by
  cases h with
  | nat => exact tySz_nat
  | list => exact tySz_list
  | unit => exact tySz_unit
theorem MkTy.sz1 {t : Ty} (h : MkTy 1 t) : tySz t ≤ 3 := by
  cases h with
  | nat => rw [tySz_nat]; omega
  | list => rw [tySz_list]; omega
  | unit => rw [tySz_unit]; omega
  | pair h1 h2 => rw [tySz_pair, h1.sz0, h2.sz0]; omega
  | func h1 h2 => rw [tySz_fun, h1.sz0, h2.sz0]; omega
theorem MkTy.G {n : Nat} (hn : n ≤ 1) {t : Ty} (h : MkTy n t) : TyG t := ⟨h.F, by have := (h.up hn).sz1; omega⟩

theorem Tm.nodesL_ne : ∀ {l : List Tm} {n : Int}, (∀ x ∈ l, x.nodes ≠ none) → Tm.nodesL n l ≠ none
  | [], n, _ => by rw [Tm.nodesL_nil]; simp
  | x :: l, n, h => by
    cases hx : x.nodes with
    | none => exact absurd hx (h x (by simp))
    | some k => rw [Tm.nodesL_some hx]; exact Tm.nodesL_ne (fun y hy => h y (by simp [hy]))
theorem Fm.nodesL_ne : ∀ {l : List Fm} {n : Int}, (∀ x ∈ l, x.nodes ≠ none) → Fm.nodesL n l ≠ none
  | [], n, _ => by rw [Fm.nodesL_nil]; simp
  | x :: l, n, h => by
    cases hx : x.nodes with
    | none => exact absurd hx (h x (by simp))
    | some k => rw [Fm.nodesL_some hx]; exact Fm.nodesL_ne (fun y hy => h y (by simp [hy]))

/-- Well made terms. -/
inductive TmG : Tm → Prop
  | plain {k : Int} {l : List Tm} {a : Int} (ha : arity k = some a) (hl : (l.length : Int) = a) (ht : typed k = false) (h : ∀ x ∈ l, TmG x) : TmG (tm0 k l)
  | var {i : Int} (hi : 0 ≤ i) : TmG (tmVar i)
  | typd {k : Int} {t : Ty} {l : List Tm} {a : Int} (ha : arity k = some a) (hl : (l.length : Int) = a) (ht : typed k = true) (hg : TyG t) (h : ∀ x ∈ l, TmG x) : TmG (tmT k t l)
theorem TmG.nodes {t : Tm} (h : TmG t) : t.nodes ≠ none := by
  induction h with
  | @plain k l a ha hl ht _ ih =>
    have : tmHead k 0 (.mk 0 []) l.length = true := by simp [tmHead, ha, hl, ht, noType, Ty.kind, Ty.args]
    exact Tm.nodes_ok this (Tm.nodesL_ne ih)
  | @var i hi =>
    have : tmHead 1 i (.mk 0 []) ([] : List Tm).length = true := by simp [tmHead, arity, arities, hi, typed, noType, Ty.kind, Ty.args]
    exact Tm.nodes_ok this (Tm.nodesL_ne (by simp))
  | @typd k t l a ha hl ht hg _ ih =>
    have : tmHead k 0 t l.length = true := by simp [tmHead, ha, hl, ht, hg.err]
    exact Tm.nodes_ok this (Tm.nodesL_ne ih)

theorem ar4 : arity 4 = some 0 := rfl
theorem ar5 : arity 5 = some 1 := rfl
theorem ar3 : arity 3 = some 2 := rfl
theorem ar2 : arity 2 = some 1 := rfl
theorem ar6 : arity 6 = some 3 := rfl
theorem ar7 : arity 7 = some 0 := rfl
theorem ar8 : arity 8 = some 2 := rfl
theorem ar9 : arity 9 = some 3 := rfl
theorem ar10 : arity 10 = some 2 := rfl
theorem ar11 : arity 11 = some 1 := rfl
theorem ar12 : arity 12 = some 1 := rfl
theorem ar13 : arity 13 = some 0 := rfl
theorem TmG.t0 {k : Int} (ha : arity k = some 0) (ht : typed k = false) : TmG (tm0 k []) := .plain ha rfl ht (by simp)
theorem TmG.t1 {k : Int} {a : Tm} (ha : arity k = some 1) (ht : typed k = false) (h1 : TmG a) : TmG (tm0 k [a]) := .plain ha rfl ht (by simp [h1])
theorem TmG.t2 {k : Int} {a b : Tm} (ha : arity k = some 2) (ht : typed k = false) (h1 : TmG a) (h2 : TmG b) : TmG (tm0 k [a, b]) := .plain ha rfl ht (by simp [h1, h2])
theorem TmG.lam {t : Ty} {a : Tm} (hg : TyG t) (h1 : TmG a) : TmG (tmT 2 t [a]) := .typd ar2 rfl rfl hg (by simp [h1])
theorem TmG.recr {t : Ty} {a b c : Tm} (hg : TyG t) (h1 : TmG a) (h2 : TmG b) (h3 : TmG c) : TmG (tmT 6 t [a, b, c]) := .typd ar6 rfl rfl hg (by simp [h1, h2, h3])
theorem TmG.fold {t : Ty} {a b c : Tm} (hg : TyG t) (h1 : TmG a) (h2 : TmG b) (h3 : TmG c) : TmG (tmT 9 t [a, b, c]) := .typd ar9 rfl rfl hg (by simp [h1, h2, h3])
theorem numT_G : ∀ n, TmG (numT n)
  | 0 => .t0 ar4 rfl
  | n + 1 => .t1 ar5 rfl (numT_G n)
theorem lamN_G {t : Tm} (h : TmG t) : TmG (lamN t) := .lam .nat h
theorem recN_G {a b c : Tm} (h1 : TmG a) (h2 : TmG b) (h3 : TmG c) : TmG (recN a b c) := .recr .nat h1 h2 h3
theorem v0_G : TmG (tmVar 0) := .var (by omega)
theorem v1_G : TmG (tmVar 1) := .var (by omega)
theorem predT_G : TmG predT := lamN_G (recN_G (.t0 ar4 rfl) (lamN_G (lamN_G v1_G)) v0_G)
theorem plusT_G : TmG plusT := lamN_G (lamN_G (recN_G v1_G (lamN_G (lamN_G (.t1 ar5 rfl v0_G))) v0_G))
theorem subT_G : TmG subT := lamN_G (lamN_G (recN_G v1_G (lamN_G (lamN_G (.t2 ar3 rfl predT_G v0_G))) v0_G))

theorem MkTm.G {n : Nat} {g : List Ty} {t : Ty} {x : Tm} (h : MkTm n g t x) (hg : ∀ y ∈ g, TyG y) (ht : TyG t) : TmG x := by
  have app : ∀ {g l : List Ty}, (∀ y ∈ g, TyG y) → (∀ y ∈ l, TyG y) → ∀ y ∈ g ++ l, TyG y := by
    intro g l h1 h2 y hy
    rcases List.mem_append.1 hy with hy | hy
    · exact h1 y hy
    · exact h2 y hy
  induction h with
  | var => exact .var (by omega)
  | app hs _ _ h1 h2 =>
    have hsG := hs.G (by omega)
    exact .t2 ar3 rfl (.lam hsG (h1 (app hg (by simp [hsG])) ht)) (h2 hg hsG)
  | fst hs _ _ h1 h2 => exact .t1 ar11 rfl (.t2 ar10 rfl (h1 hg ht) (h2 hg (hs.G (by omega))))
  | snd hs _ _ h1 h2 => exact .t1 ar12 rfl (.t2 ar10 rfl (h1 hg (hs.G (by omega))) (h2 hg ht))
  | recr hk _ _ h1 h2 => exact .recr ht (h2 hg ht) (.lam .nat (.lam ht (h1 (app hg (by simp [ht, TyG.nat])) ht))) (numT_G _)
  | fold _ _ _ h1 h2 h3 => exact .fold ht (h2 hg ht) (.lam .nat (.lam .list (.lam ht (h1 (app hg (by simp [ht, TyG.nat, TyG.list])) ht)))) (h3 hg .list)
  | fapp hi h _ h1 => exact .t2 ar3 rfl (.var (by omega)) (h1 hg (hg _ (List.mem_of_getElem? h)).fun1.1)
  | succ _ h1 => exact .t1 ar5 rfl (h1 hg ht)
  | plus _ _ h1 h2 => exact .t2 ar3 rfl (.t2 ar3 rfl plusT_G (h1 hg ht)) (h2 hg ht)
  | sub _ _ h1 h2 => exact .t2 ar3 rfl (.t2 ar3 rfl subT_G (h1 hg ht)) (h2 hg ht)
  | num => exact numT_G _
  | cons _ _ h1 h2 => exact .t2 ar8 rfl (h1 hg .nat) (h2 hg ht)
  | nil => exact .t0 ar7 rfl
  | pair _ _ h1 h2 => exact .t2 ar10 rfl (h1 hg ht.pair1.1) (h2 hg ht.pair1.2)
  | lam _ h1 => exact .lam ht.fun1.1 (h1 (app hg (by simp [ht.fun1.1])) ht.fun1.2)
  | unit => exact .t0 ar13 rfl

/-- Well made formulas; u: with uniform quantifiers. -/
inductive FmG (u : Bool) : Fm → Prop
  | eq {x y : Tm} : TmG x → TmG y → FmG u (fmEq x y)
  | two {k : Int} {a b : Fm} (hk : k = 2 ∨ k = 3) : FmG u a → FmG u b → FmG u (fmTwo k a b)
  | q {k : Int} {s : Ty} {a : Fm} (hk : k = 4 ∨ k = 5 ∨ (u = true ∧ (k = 6 ∨ k = 7))) (hs : TyG s) : FmG u a → FmG u (fmQ k s a)
theorem MkFm.G {u : Bool} {n : Nat} {g : List Ty} {f : Fm} (h : MkFm u n g f) (hg : ∀ y ∈ g, TyG y) : FmG u f := by
  induction h with
  | eq h1 h2 => exact .eq (h1.G hg .nat) (h2.G hg .nat)
  | two hk _ _ h1 h2 => exact .two hk (h1 hg) (h2 hg)
  | q hk hs _ h1 =>
    have hG := hs.G (by split <;> omega)
    refine .q hk hG (h1 ?_)
    intro y hy
    rcases List.mem_append.1 hy with hy | hy
    · exact hg y hy
    · simp at hy; subst hy; exact hG

theorem FmG.nodes {u : Bool} {f : Fm} (h : FmG u f) : f.nodes ≠ none := by
  induction h with
  | @eq x y h1 h2 =>
    have hn := Tm.nodesL_ne (n := 1) (l := [x, y]) (by simp [h1.nodes, h2.nodes])
    cases hx : Tm.nodesL 1 [x, y] with
    | none => exact absurd hx hn
    | some k => exact Fm.nodes_ok rfl hx (by rw [Fm.nodesL_nil]; simp)
  | @two k a b hk _ _ h1 h2 =>
    have : formed k (.mk 0 []) ([] : List Tm).length [a, b].length = true := by rcases hk with rfl | rfl <;> rfl
    exact Fm.nodes_ok this (Tm.nodesL_nil 1) (Fm.nodesL_ne (by simp [h1, h2]))
  | @q k s a hk hs _ h1 =>
    have : formed k s ([] : List Tm).length [a].length = true := by
      rcases hk with rfl | rfl | ⟨_, rfl | rfl⟩ <;> simp [formed, fmWant, hs.err]
    exact Fm.nodes_ok this (Tm.nodesL_nil 1) (Fm.nodesL_ne (by simp [h1]))

theorem FmG.uni {f : Fm} (h : FmG false f) : f.uni = false := by
  induction h with
  | eq => rw [Fm.uni_eq]; simp [fmEq, Fm.kind, Fm.args, Fm.uniL_nil]
  | two hk _ _ h1 h2 => rw [Fm.uni_eq]; rcases hk with rfl | rfl <;> simp [fmTwo, Fm.kind, Fm.args, Fm.uniL_nil, Fm.uniL_cons, h1, h2]
  | q hk _ _ h1 => rw [Fm.uni_eq]; rcases hk with rfl | rfl | ⟨h, _⟩ <;> first | (simp [fmQ, Fm.kind, Fm.args, Fm.uniL_nil, Fm.uniL_cons, h1]; done) | cases h

theorem FmG.err {u : Bool} {f : Fm} (h : FmG u f) : fmErr f = 0 ∨ fmErr f = 4 := by
  unfold fmErr
  cases hn : f.nodes with
  | none => exact absurd hn h.nodes
  | some n => simp only [chk]; split <;> simp

theorem chPair_F {a b : Ty} (ha : TyF a) (hb : TyF b) : TyF (chPair a b) := by
  unfold chPair; repeat' split
  all_goals first | assumption | exact .pair ha hb
theorem chFun_F {a b : Ty} (ha : TyF a) (hb : TyF b) : TyF (chFun a b) := by
  unfold chFun; repeat' split
  all_goals first | assumption | exact .unit | exact .func ha hb
theorem chPair_sz {a b : Ty} : tySz (chPair a b) ≤ tySz a + tySz b + 1 := by
  unfold chPair; repeat' split
  · omega
  · omega
  · rw [tySz_pair]; omega
theorem chFun_sz {a b : Ty} : tySz (chFun a b) ≤ tySz a + tySz b + 1 := by
  unfold chFun; repeat' split
  · rw [tySz_unit]; omega
  · omega
  · rw [tySz_fun]; omega

theorem sized_cases {a b : Ty} (ha : TyF a) (hb : TyF b) (sa : tySz a ≤ 1000000) (sb : tySz b ≤ 1000000) :
    (sized a b = ((a, b), 0) ∧ TyG a ∧ TyG b) ∨ (sized a b = ((tZero, tZero), 4) ∧ ¬ (TyG a ∧ TyG b)) := by
  have ea := ha.err sa
  have eb := hb.err sb
  unfold sized
  rw [ea, eb]
  by_cases h1 : tySz a ≤ 64 <;> by_cases h2 : tySz b ≤ 64 <;> simp [h1, h2, TyG, ha, hb]

/-- The types of a formula's witnesses and challenges are well made, or it is said that they are too large. -/
def ChOk (r : (Ty × Ty) × Int) : Prop := (r.2 = 0 ∧ TyG r.1.1 ∧ TyG r.1.2) ∨ r.2 = 4
theorem sized_ok {a b : Ty} (ha : TyF a) (hb : TyF b) (sa : tySz a ≤ 1000000) (sb : tySz b ≤ 1000000) : ChOk (sized a b) := by
  rcases sized_cases ha hb sa sb with ⟨h, h1, h2⟩ | ⟨h, _⟩
  · rw [h]; exact .inl ⟨rfl, h1, h2⟩
  · rw [h]; exact .inr rfl

theorem ch_two {k : Int} {a b : Fm} : (fmTwo k a b).ch = if a.ch.2 == 0 then (if b.ch.2 == 0 then sized (chCase k (.mk 0 []) [a.ch.1, b.ch.1]).1 (chCase k (.mk 0 []) [a.ch.1, b.ch.1]).2
    else ((tZero, tZero), b.ch.2)) else ((tZero, tZero), a.ch.2) := by
  rw [Fm.ch_eq]
  simp only [fmTwo, Fm.kind, Fm.type, Fm.args, Fm.chL_cons, Fm.chL_nil, List.nil_append, List.cons_append]
theorem ch_q {k : Int} {s : Ty} {a : Fm} : (fmQ k s a).ch = if a.ch.2 == 0 then sized (chCase k s [a.ch.1]).1 (chCase k s [a.ch.1]).2 else ((tZero, tZero), a.ch.2) := by
  rw [Fm.ch_eq]
  simp only [fmQ, Fm.kind, Fm.type, Fm.args, Fm.chL_cons, Fm.chL_nil, List.nil_append, List.cons_append]
theorem ch_eqn {x y : Tm} : (fmEq x y).ch = ((tUnit, tUnit), 0) := by
  rw [Fm.ch_eq]
  simp only [fmEq, Fm.kind, Fm.type, Fm.args, Fm.chL_nil]
  rfl

theorem FmG.ch {f : Fm} (h : FmG false f) : ChOk f.ch := by
  induction h with
  | eq => rw [ch_eqn]; exact .inl ⟨rfl, .unit, .unit⟩
  | @two k a b hk _ _ h1 h2 =>
    rw [ch_two]
    rcases h1 with ⟨e1, a1, a2⟩ | e1
    · rcases h2 with ⟨e2, b1, b2⟩ | e2
      · rw [e1, e2]
        simp only [beq_self_eq_true, if_true]
        have p1 := a1.2
        have p2 := a2.2
        have p3 := b1.2
        have p4 := b2.2
        rcases hk with rfl | rfl
        · simp only [chCase, List.getD_cons_zero, List.getD_cons_succ, Int.reduceBEq, if_true]
          have q1 := chPair_sz (a := a.ch.1.1) (b := b.ch.1.1)
          have q2 := chPair_sz (a := a.ch.1.2) (b := b.ch.1.2)
          exact sized_ok (chPair_F a1.1 b1.1) (chPair_F a2.1 b2.1) (by omega) (by omega)
        · simp only [chCase, List.getD_cons_zero, List.getD_cons_succ, Int.reduceBEq, if_true, Bool.false_eq_true, if_false]
          have q1 := chFun_sz (a := a.ch.1.1) (b := b.ch.1.1)
          have q2 := chFun_sz (a := b.ch.1.2) (b := a.ch.1.2)
          have q3 := chFun_sz (a := a.ch.1.1) (b := chFun b.ch.1.2 a.ch.1.2)
          have q4 := chPair_sz (a := chFun a.ch.1.1 b.ch.1.1) (b := chFun a.ch.1.1 (chFun b.ch.1.2 a.ch.1.2))
          have q5 := chPair_sz (a := a.ch.1.1) (b := b.ch.1.2)
          exact sized_ok (chPair_F (chFun_F a1.1 b1.1) (chFun_F a1.1 (chFun_F b2.1 a2.1))) (chPair_F a1.1 b2.1) (by omega) (by omega)
      · rw [e1, e2]; exact .inr rfl
    · rw [e1]; exact .inr rfl
  | @q k s a hk hs _ h1 =>
    rw [ch_q]
    rcases h1 with ⟨e1, a1, a2⟩ | e1
    · rw [e1]
      simp only [beq_self_eq_true, if_true]
      have p1 := a1.2
      have p2 := a2.2
      have p3 := hs.2
      rcases hk with rfl | rfl | ⟨h, _⟩
      · simp only [chCase, List.getD_cons_zero, List.getD_cons_succ, Int.reduceBEq, if_true, Bool.false_eq_true, if_false]
        have q1 := chFun_sz (a := s) (b := a.ch.1.1)
        have q2 := chPair_sz (a := s) (b := a.ch.1.2)
        exact sized_ok (chFun_F hs.1 a1.1) (chPair_F hs.1 a2.1) (by omega) (by omega)
      · simp only [chCase, List.getD_cons_zero, List.getD_cons_succ, Int.reduceBEq, if_true, Bool.false_eq_true, if_false]
        have q1 := chPair_sz (a := s) (b := a.ch.1.1)
        exact sized_ok (chPair_F hs.1 a1.1) a2.1 (by omega) (by omega)
      · cases h
    · rw [e1]; exact .inr rfl

theorem FmG.look {f : Fm} (h : FmG false f) : (fmErr f = 0 ∧ f.look = f.ch ∧ f.ch.2 = 0 ∧ TyG f.ch.1.1 ∧ TyG f.ch.1.2) ∨ f.look.2 = 4 := by
  unfold Fm.look
  rcases h.err with he | he
  · simp only [he, beq_self_eq_true, if_true, h.uni, Bool.false_eq_true, if_false]
    rcases h.ch with ⟨h1, h2, h3⟩ | h1
    · exact .inl ⟨trivial, trivial, h1, h2, h3⟩
    · exact .inr h1
  · right; rw [he]; rfl

theorem FmG.look0 {f : Fm} (h : FmG false f) : f.look.2 = 0 ∨ f.look.2 = 4 := by
  rcases h.look with ⟨_, h1, h2, _⟩ | h
  · left; rw [h1, h2]
  · exact .inr h
theorem Fm.look_W (f : Fm) (h : FmW f) : TyW f.look.1.1 ∧ TyW f.look.1.2 := by
  unfold Fm.look
  repeat' split
  all_goals first | exact ⟨tZero_W, tZero_W⟩ | exact Fm.ch_W f h
def falseF : Fm := fmEq (tm0 4 []) (tm0 5 [tm0 4 []])
theorem falseF_G {u : Bool} : FmG u falseF := .eq (.t0 ar4 rfl) (.t1 ar5 rfl (.t0 ar4 rfl))
theorem falseF_W : FmW falseF := fmEq_W tm0_W0 (tm0_W1 tm0_W0)

theorem TyF.kind5 {t : Ty} (h : TyF t) (hk : (t.kind == 5) = true) : t = tUnit := by
  cases h with
  | unit => rfl
  | _ => simp [tNat, tList, tPair, tFun, Ty.kind] at hk

/-- The law of negation. -/
theorem law_not {f : Fm} (h : FmG false f) :
    (f.look.2 = 0 ∧ (fmTwo 3 f falseF).look.2 = 0 ∧ (fmTwo 3 f falseF).look.1.1 = chFun f.look.1.1 f.look.1.2 ∧ (fmTwo 3 f falseF).look.1.2 = f.look.1.1) ∨
    f.look.2 = 4 ∨ (fmTwo 3 f falseF).look.2 = 4 := by
  have h2 : FmG false (fmTwo 3 f falseF) := .two (.inr rfl) h falseF_G
  rcases h.look with ⟨_, e1, e2, g1, g2⟩ | e
  · rcases h2.look with ⟨_, e3, e4, _, _⟩ | e
    · left
      rw [e1, e3]
      refine ⟨e2, e4, ?_⟩
      have hch : (fmTwo 3 f falseF).ch = sized (chPair (chFun f.ch.1.1 tUnit) (chFun f.ch.1.1 (chFun tUnit f.ch.1.2))) (chPair f.ch.1.1 tUnit) := by
        rw [ch_two, e2]
        simp only [falseF, ch_eqn, beq_self_eq_true, if_true, chCase, List.getD_cons_zero, List.getD_cons_succ, Int.reduceBEq, Bool.false_eq_true, if_false]
      have hs : (sized (chPair (chFun f.ch.1.1 tUnit) (chFun f.ch.1.1 (chFun tUnit f.ch.1.2))) (chPair f.ch.1.1 tUnit)).2 = 0 := by rw [← hch]; exact e4
      have hs2 : sized (chPair (chFun f.ch.1.1 tUnit) (chFun f.ch.1.1 (chFun tUnit f.ch.1.2))) (chPair f.ch.1.1 tUnit) =
          ((chPair (chFun f.ch.1.1 tUnit) (chFun f.ch.1.1 (chFun tUnit f.ch.1.2)), chPair f.ch.1.1 tUnit), 0) := by
        unfold sized at hs ⊢
        split at hs
        · rename_i h'; exact absurd hs h'
        · rename_i h'
          rw [if_neg h']
          split at hs
          · rename_i h''; exact absurd hs h''
          · rename_i h''; rw [if_neg h'']
      rw [hch, hs2]
      have u5 : (tUnit.kind == 5) = true := rfl
      have x1 : chFun f.ch.1.1 tUnit = tUnit := by simp only [chFun, u5, if_true]
      have x2 : ∀ t, chPair tUnit t = t := fun t => by simp only [chPair, u5, if_true]
      constructor
      · rw [x1, x2]
        cases hk : (f.ch.1.2.kind == 5) with
        | true =>
          have := g2.1.kind5 hk
          rw [this]; simp only [chFun, u5, if_true]
        | false =>
          have : chFun tUnit f.ch.1.2 = f.ch.1.2 := by simp only [chFun, hk, u5, if_true, Bool.false_eq_true, if_false]
          rw [this]
      · cases hk : (f.ch.1.1.kind == 5) with
        | true =>
          have := g1.1.kind5 hk
          rw [this, x2]
        | false => simp only [chPair, hk, u5, if_true, Bool.false_eq_true, if_false]
    · exact .inr (.inr e)
  · exact .inr (.inl e)
end GoAbs
