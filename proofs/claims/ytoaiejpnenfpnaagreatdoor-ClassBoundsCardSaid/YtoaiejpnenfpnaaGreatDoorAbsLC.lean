/-
  The abstract layer: plain laws.
-/
import Derived.Test.YtoaiejpnenfpnaaGreatDoorAbsLB
set_option linter.unusedSimpArgs false
set_option linter.unusedVariables false
set_option linter.unusedSectionVars false
namespace GoAbs
open Go

def addW (a b : Int) : Int := IntKind.i64.wrap (a + b)
def subW (a b : Int) : Int := IntKind.i64.wrap (a - b)

mutual
def Ty.szW : Ty → Int
  | .mk _ l => Ty.szWL 1 l
def Ty.szWL : Int → List Ty → Int
  | n, [] => n
  | n, t :: l => Ty.szWL (IntKind.i64.wrap (n + t.szW)) l
end
theorem Ty.szW_eq (t : Ty) : t.szW = Ty.szWL 1 t.args := by cases t; rw [Ty.szW]; rfl
theorem Ty.szWL_nil {n : Int} : Ty.szWL n [] = n := by rw [Ty.szWL]
theorem Ty.szWL_cons {n : Int} {t : Ty} {l : List Ty} : Ty.szWL n (t :: l) = Ty.szWL (IntKind.i64.wrap (n + t.szW)) l := by rw [Ty.szWL]
mutual
def Tm.szW : Tm → Int
  | .mk _ _ _ l => Tm.szWL 1 l
def Tm.szWL : Int → List Tm → Int
  | n, [] => n
  | n, t :: l => Tm.szWL (IntKind.i64.wrap (n + t.szW)) l
end
theorem Tm.szW_eq (t : Tm) : t.szW = Tm.szWL 1 t.args := by cases t; rw [Tm.szW]; rfl
theorem Tm.szWL_nil {n : Int} : Tm.szWL n [] = n := by rw [Tm.szWL]
theorem Tm.szWL_cons {n : Int} {t : Tm} {l : List Tm} : Tm.szWL n (t :: l) = Tm.szWL (IntKind.i64.wrap (n + t.szW)) l := by rw [Tm.szWL]
mutual
def Fm.szW : Fm → Int
  | .mk _ _ l a => Fm.szWL (Tm.szWL 1 l) a
def Fm.szWL : Int → List Fm → Int
  | n, [] => n
  | n, t :: l => Fm.szWL (IntKind.i64.wrap (n + t.szW)) l
end
theorem Fm.szW_eq (t : Fm) : t.szW = Fm.szWL (Tm.szWL 1 t.terms) t.args := by cases t; rw [Fm.szW]; rfl
theorem Fm.szWL_nil {n : Int} : Fm.szWL n [] = n := by rw [Fm.szWL]
theorem Fm.szWL_cons {n : Int} {t : Fm} {l : List Fm} : Fm.szWL n (t :: l) = Fm.szWL (IntKind.i64.wrap (n + t.szW)) l := by rw [Fm.szWL]

def Ty.good (t : Ty) : Bool := t.nodes.isSome
def Tm.good (t : Tm) : Bool := t.nodes.isSome
def Fm.good (t : Fm) : Bool := t.nodes.isSome
theorem Ty.nodesL_good : ∀ (l : List Ty) (n : Int), (Ty.nodesL n l).isSome = l.all Ty.good
  | [], n => by rw [Ty.nodesL_nil]; rfl
  | t :: l, n => by
    cases h : t.nodes with
    | none => rw [Ty.nodesL_none h]; simp [Ty.good, h]
    | some k => rw [Ty.nodesL_some h, Ty.nodesL_good l]; simp [Ty.good, h]
theorem Tm.nodesL_good : ∀ (l : List Tm) (n : Int), (Tm.nodesL n l).isSome = l.all Tm.good
  | [], n => by rw [Tm.nodesL_nil]; rfl
  | t :: l, n => by
    cases h : t.nodes with
    | none => rw [Tm.nodesL_none h]; simp [Tm.good, h]
    | some k => rw [Tm.nodesL_some h, Tm.nodesL_good l]; simp [Tm.good, h]
theorem Fm.nodesL_good : ∀ (l : List Fm) (n : Int), (Fm.nodesL n l).isSome = l.all Fm.good
  | [], n => by rw [Fm.nodesL_nil]; rfl
  | t :: l, n => by
    cases h : t.nodes with
    | none => rw [Fm.nodesL_none h]; simp [Fm.good, h]
    | some k => rw [Fm.nodesL_some h, Fm.nodesL_good l]; simp [Fm.good, h]
theorem Ty.good_eq (t : Ty) : t.good = match tyWant t.kind with | none => false | some w => ((t.args.length : Int) == w) && t.args.all Ty.good := by
  show t.nodes.isSome = _
  rw [Ty.nodes_eq]
  cases tyWant t.kind with
  | none => rfl
  | some w =>
    cases h : ((t.args.length : Int) == w) with
    | true => simp only [h, if_true, Ty.nodesL_good, Bool.true_and]
    | false => simp only [h, Bool.false_eq_true, if_false, Bool.false_and]; rfl
theorem Tm.good_eq (t : Tm) : t.good = (tmHead t.kind t.index t.type t.args.length && t.args.all Tm.good) := by
  show t.nodes.isSome = _
  rw [Tm.nodes_eq]
  cases h : tmHead t.kind t.index t.type t.args.length with
  | true => simp only [if_true, Tm.nodesL_good, Bool.true_and]
  | false => simp
theorem Fm.good_eq (t : Fm) : t.good = (formed t.kind t.type t.terms.length t.args.length && t.terms.all Tm.good && t.args.all Fm.good) := by
  show t.nodes.isSome = _
  rw [Fm.nodes_eq]
  cases h : formed t.kind t.type t.terms.length t.args.length with
  | true =>
    simp only [if_true, Bool.true_and]
    have h1 := Tm.nodesL_good t.terms 1
    cases hn : Tm.nodesL 1 t.terms with
    | none => rw [hn] at h1; rw [← h1]; simp
    | some n => rw [hn] at h1; rw [← h1]; simp only [Fm.nodesL_good, Option.isSome_some, Bool.true_and]
  | false => simp

mutual
def Tm.least (m : Int) : Tm → Bool
  | .mk _ i _ l => decide (i ≤ m) && Tm.leastL m l
def Tm.leastL (m : Int) : List Tm → Bool
  | [] => true
  | t :: l => t.least m && Tm.leastL m l
end
theorem Tm.least_eq (m : Int) (t : Tm) : t.least m = (decide (t.index ≤ m) && Tm.leastL m t.args) := by cases t; rw [Tm.least]; rfl
theorem Tm.leastL_nil {m : Int} : Tm.leastL m [] = true := by rw [Tm.leastL]
theorem Tm.leastL_cons {m : Int} {t : Tm} {l : List Tm} : Tm.leastL m (t :: l) = (t.least m && Tm.leastL m l) := by rw [Tm.leastL]
mutual
def Fm.least (m : Int) : Fm → Bool
  | .mk _ _ l a => Tm.leastL m l && Fm.leastL m a
def Fm.leastL (m : Int) : List Fm → Bool
  | [] => true
  | t :: l => t.least m && Fm.leastL m l
end
theorem Fm.least_eq (m : Int) (t : Fm) : t.least m = (Tm.leastL m t.terms && Fm.leastL m t.args) := by cases t; rw [Fm.least]; rfl
theorem Fm.leastL_nil {m : Int} : Fm.leastL m [] = true := by rw [Fm.leastL]
theorem Fm.leastL_cons {m : Int} {t : Fm} {l : List Fm} : Fm.leastL m (t :: l) = (t.least m && Fm.leastL m l) := by rw [Fm.leastL]

def tmBelow (k : Int) : Int := if k == 2 then 1 else 0
def quant (k : Int) : Bool := k == 4 || k == 5 || k == 6 || k == 7
def fmBelow (k : Int) : Int := if quant k then 1 else 0

mutual
def Tm.times : Tm → Int → Int
  | .mk k i _ l, at' => Tm.timesL (addW at' (tmBelow k)) (if k == 1 && i == at' then addW 0 1 else 0) l
def Tm.timesL (at' : Int) : Int → List Tm → Int
  | n, [] => n
  | n, t :: l => Tm.timesL at' (addW n (t.times at')) l
end
theorem Tm.times_eq (t : Tm) (at' : Int) : t.times at' = Tm.timesL (addW at' (tmBelow t.kind)) (if t.kind == 1 && t.index == at' then addW 0 1 else 0) t.args := by cases t; rw [Tm.times]; rfl
theorem Tm.timesL_nil {a n : Int} : Tm.timesL a n [] = n := by rw [Tm.timesL]
theorem Tm.timesL_cons {a n : Int} {t : Tm} {l : List Tm} : Tm.timesL a n (t :: l) = Tm.timesL a (addW n (t.times a)) l := by rw [Tm.timesL]
mutual
def Fm.times : Fm → Int → Int
  | .mk k _ l a, at' => Fm.timesL (addW at' (fmBelow k)) (Tm.timesL at' 0 l) a
def Fm.timesL (at' : Int) : Int → List Fm → Int
  | n, [] => n
  | n, t :: l => Fm.timesL at' (addW n (t.times at')) l
end
theorem Fm.times_eq (t : Fm) (at' : Int) : t.times at' = Fm.timesL (addW at' (fmBelow t.kind)) (Tm.timesL at' 0 t.terms) t.args := by cases t; rw [Fm.times]; rfl
theorem Fm.timesL_nil {a n : Int} : Fm.timesL a n [] = n := by rw [Fm.timesL]
theorem Fm.timesL_cons {a n : Int} {t : Fm} {l : List Fm} : Fm.timesL a n (t :: l) = Fm.timesL a (addW n (t.times a)) l := by rw [Fm.timesL]

mutual
def Tm.up (by' : Int) : Tm → Int → Tm
  | .mk k i t l, fr => .mk k (if k == 1 && decide (i ≥ fr) then addW i by' else i) t (Tm.upL by' l (addW fr (tmBelow k)))
def Tm.upL (by' : Int) : List Tm → Int → List Tm
  | [], _ => []
  | t :: l, fr => t.up by' fr :: Tm.upL by' l fr
end
theorem Tm.upL_map {b : Int} : ∀ (l : List Tm) (fr : Int), Tm.upL b l fr = l.map fun t => t.up b fr
  | [], fr => by simp [Tm.upL]
  | t :: l, fr => by simp [Tm.upL, Tm.upL_map l fr]
theorem Tm.up_eq (b : Int) (t : Tm) (fr : Int) : t.up b fr = .mk t.kind (if t.kind == 1 && decide (t.index ≥ fr) then addW t.index b else t.index) t.type (t.args.map fun x => x.up b (addW fr (tmBelow t.kind))) := by
  cases t; rw [Tm.up, Tm.upL_map]; rfl
mutual
def tmInn (s : Tm) (at' : Int) : Tm → Int → Tm
  | .mk k i t l, d => if k == 1 then (if i == addW at' d then Tm.up (addW at' d) s 0 else if decide (i > addW at' d) then tmVar (subW i 1) else .mk k i t l)
    else .mk k i t (tmInnL s at' l (addW d (tmBelow k)))
def tmInnL (s : Tm) (at' : Int) : List Tm → Int → List Tm
  | [], _ => []
  | t :: l, d => tmInn s at' t d :: tmInnL s at' l d
end
theorem tmInnL_map {s : Tm} {a : Int} : ∀ (l : List Tm) (d : Int), tmInnL s a l d = l.map fun t => tmInn s a t d
  | [], d => by simp [tmInnL]
  | t :: l, d => by simp [tmInnL, tmInnL_map l d]
theorem tmInn_eq (s : Tm) (a : Int) (t : Tm) (d : Int) : tmInn s a t d = if t.kind == 1 then
    (if t.index == addW a d then Tm.up (addW a d) s 0 else if decide (t.index > addW a d) then tmVar (subW t.index 1) else t)
    else .mk t.kind t.index t.type (t.args.map fun x => tmInn s a x (addW d (tmBelow t.kind))) := by
  cases t; rw [tmInn, tmInnL_map]; rfl
mutual
def fmInn (s : Tm) (at' : Int) : Fm → Int → Fm
  | .mk k t l a, d => .mk k t (l.map fun x => tmInn s at' x d) (fmInnL s at' a (addW d (fmBelow k)))
def fmInnL (s : Tm) (at' : Int) : List Fm → Int → List Fm
  | [], _ => []
  | t :: l, d => fmInn s at' t d :: fmInnL s at' l d
end
theorem fmInnL_map {s : Tm} {a : Int} : ∀ (l : List Fm) (d : Int), fmInnL s a l d = l.map fun t => fmInn s a t d
  | [], d => by simp [fmInnL]
  | t :: l, d => by simp [fmInnL, fmInnL_map l d]
theorem fmInn_eq (s : Tm) (a : Int) (t : Fm) (d : Int) : fmInn s a t d = .mk t.kind t.type (t.terms.map fun x => tmInn s a x d) (t.args.map fun x => fmInn s a x (addW d (fmBelow t.kind))) := by
  cases t; rw [fmInn, fmInnL_map]; rfl

mutual
theorem Ty.szW_nodes : ∀ (t : Ty) (n : Int), t.nodes = some n → t.szW = n
  | .mk k l, n, h => by
    rw [Ty.nodes_mk] at h
    rw [Ty.szW]
    split at h
    · cases h
    · split at h
      · exact Ty.szWL_nodes l 1 n h
      · cases h
theorem Ty.szWL_nodes : ∀ (l : List Ty) (m n : Int), Ty.nodesL m l = some n → Ty.szWL m l = n
  | [], m, n, h => by rw [Ty.nodesL_nil] at h; rw [Ty.szWL_nil]; exact Option.some.inj h
  | t :: l, m, n, h => by
    cases hx : t.nodes with
    | none => rw [Ty.nodesL_none hx] at h; cases h
    | some k =>
      rw [Ty.nodesL_some hx] at h
      rw [Ty.szWL_cons, Ty.szW_nodes t k hx]
      exact Ty.szWL_nodes l _ n h
end
mutual
theorem Tm.szW_nodes : ∀ (t : Tm) (n : Int), t.nodes = some n → t.szW = n
  | .mk k i t l, n, h => by
    rw [Tm.nodes_mk] at h
    rw [Tm.szW]
    split at h
    · exact Tm.szWL_nodes l 1 n h
    · cases h
theorem Tm.szWL_nodes : ∀ (l : List Tm) (m n : Int), Tm.nodesL m l = some n → Tm.szWL m l = n
  | [], m, n, h => by rw [Tm.nodesL_nil] at h; rw [Tm.szWL_nil]; exact Option.some.inj h
  | t :: l, m, n, h => by
    cases hx : t.nodes with
    | none => rw [Tm.nodesL_none hx] at h; cases h
    | some k =>
      rw [Tm.nodesL_some hx] at h
      rw [Tm.szWL_cons, Tm.szW_nodes t k hx]
      exact Tm.szWL_nodes l _ n h
end
mutual
theorem Fm.szW_nodes : ∀ (t : Fm) (n : Int), t.nodes = some n → t.szW = n
  | .mk k t l a, n, h => by
    rw [Fm.nodes_mk] at h
    rw [Fm.szW]
    split at h
    · cases hl : Tm.nodesL 1 l with
      | none => rw [hl] at h; cases h
      | some m => rw [hl] at h; rw [Tm.szWL_nodes l 1 m hl]; exact Fm.szWL_nodes a m n h
    · cases h
theorem Fm.szWL_nodes : ∀ (l : List Fm) (m n : Int), Fm.nodesL m l = some n → Fm.szWL m l = n
  | [], m, n, h => by rw [Fm.nodesL_nil] at h; rw [Fm.szWL_nil]; exact Option.some.inj h
  | t :: l, m, n, h => by
    cases hx : t.nodes with
    | none => rw [Fm.nodesL_none hx] at h; cases h
    | some k =>
      rw [Fm.nodesL_some hx] at h
      rw [Fm.szWL_cons, Fm.szW_nodes t k hx]
      exact Fm.szWL_nodes l _ n h
end

def refArgs (k : Int) : Int :=
  if k == 1 || k == 4 || k == 7 || k == 13 then 0 else if k == 2 || k == 5 || k == 11 || k == 12 then 1 else if k == 3 || k == 8 || k == 10 then 2 else if k == 6 || k == 9 then 3 else -1
def tmErr (t : Tm) : Int := (chk 4096 t.nodes).2

theorem kinds13 {k : Int} (h1 : ¬ k < 1) (h2 : ¬ 14 ≤ k) : k = 1 ∨ k = 2 ∨ k = 3 ∨ k = 4 ∨ k = 5 ∨ k = 6 ∨ k = 7 ∨ k = 8 ∨ k = 9 ∨ k = 10 ∨ k = 11 ∨ k = 12 ∨ k = 13 := by omega
theorem tmHead_ref (k i : Int) (t : Ty) (n : Nat) : tmHead k i t (n : Int) =
    (!((n : Int) != refArgs k) && !decide (i < 0) && !(k != 1 && i != 0) && (if typed k then tyErr t == 0 else noType t)) := by
  unfold tmHead arity
  by_cases hk : k < 1 ∨ 14 ≤ k
  · rw [if_pos hk]
    have : refArgs k = -1 := by
      have hne : ∀ m : Int, 1 ≤ m → m ≤ 13 → (k == m) = false := fun m a b => by simp; omega
      simp [refArgs, hne]
    rw [this]
    have : ((n : Int) != -1) = true := by simp <;> omega
    rw [this]; rfl
  · rw [if_neg hk]
    obtain ⟨h1, h2⟩ := not_or.1 hk
    have hi : (!decide (i < 0)) = decide (0 ≤ i) := by
      by_cases h : i < 0
      · have : ¬ 0 ≤ i := by omega
        simp [h, this]
      · have : 0 ≤ i := by omega
        simp [h, this]
    rcases kinds13 h1 h2 with h | h | h | h | h | h | h | h | h | h | h | h | h <;> subst h
    all_goals
      simp only [arities, refArgs, typed, hi]
      cases h0 : (i == 0) <;> simp [bne, h0]

def zeroF : Fm := .mk 0 (.mk 0 []) [] []
def mulW (a b : Int) : Int := IntKind.i64.wrap (a * b)
def fmPut (f : Fm) (a : Int) (s : Tm) : Fm × Int :=
  if fmErr f != 0 then (zeroF, fmErr f)
  else if decide (a < 0) || decide (a > 4096) then (zeroF, 1)
  else if tmErr s != 0 then (zeroF, tmErr s)
  else if !f.least 536870912 || !s.least 536870912 then (zeroF, 1)
  else if decide (addW f.szW (mulW (f.times a) (subW s.szW 1)) > 4096) then (zeroF, 4)
  else (fmInn s a f 0, 0)
@[go_sem] def fmErrV (p : Fm × Int) : V := .tup [.agg p.1.cells, .int .i64 p.2]
end GoAbs
