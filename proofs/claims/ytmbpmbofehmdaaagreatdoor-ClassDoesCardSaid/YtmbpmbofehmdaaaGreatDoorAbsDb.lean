/-
 The abstract layer: plain laws, further ones.
-/
import Derived.Test.YtmbpmbofehmdaaaGreatDoorAbsD
import Derived.Test.YtmbpmbofehmdaaaGreatDoorAbsB
set_option linter.unusedSimpArgs false
set_option linter.unusedVariables false
set_option linter.unusedSectionVars false
namespace GoAbs
open Go
theorem least_q {M k : Int} {t : Ty} {x : Fm} (h1 : x.least M = true) : (fmQ k t x).least M = true := by
 rw [Fm.least_eq]; simp only [fmQ, Fm.terms, Fm.args, Fm.leastL_cons, Tm.leastL_nil, Fm.leastL_nil, h1, Bool.and_self]
theorem fleast_eq {M : Int} {x y : Tm} : (fmEq x y).least M = true ↔ x.least M = true ∧ y.least M = true := by
 rw [fmEq, Fm.least]; simp [Tm.leastL_nil, Tm.leastL_cons, Fm.leastL_nil]
/- Content types. -/
/- realize. -/
/- Existential quantifiers are counted. -/
/- The context of a sequent, and the places of its hypotheses. -/
inductive Res where
 | mk (num : Nat) (list : List Nat) (pair : List Res) (body : Tm) (env : List Res)
def Res.num : Res → Nat | .mk n _ _ _ _ => n
def Res.list : Res → List Nat | .mk _ l _ _ _ => l
def natI (l : List Nat) : List (List V) := ints (l.map fun (n : Nat) => (n : Int))
def Res.pair : Res → List Res | .mk _ _ p _ _ => p
def Res.body : Res → Tm | .mk _ _ _ b _ => b
def Res.env : Res → List Res | .mk _ _ _ _ e => e
theorem Res.ind {p : Res → Prop} (h : ∀ t, (∀ x ∈ t.pair, p x) → (∀ x ∈ t.env, p x) → p t) : ∀ t, p t := by
 intro t
 refine Res.rec (motive_1 := p) (motive_2 := fun l => ∀ x ∈ l, p x) (fun n l pr b e i1 i2 => h _ i1 i2) (by simp) (fun a l ha hl x hx => ?_) t
 rcases List.mem_cons.1 hx with rfl | hx
 ·exact ha
 ·exact hl x hx
mutual
def Res.cells : Res → List V
 | .mk n l p b e => [.int .i64 n, .sl .any (natI l), .sl .any (Res.rows p), .int .i64 b.kind, .int .i64 b.index, .int .i64 b.type.kind, .sl .any (b.type.args.map Ty.cells), .sl .any (b.args.map Tm.cells), .sl .any (Res.rows e)]
def Res.rows : List Res → List (List V)
 | [] => []
 | r :: l => r.cells :: Res.rows l
end
theorem Res.rows_eq : ∀ l, Res.rows l = l.map Res.cells
 | [] => by simp [Res.rows]
 | t :: l => by simp [Res.rows, Res.rows_eq l]
theorem Res.cells_eq (t : Res) : t.cells = [.int .i64 t.num, .sl .any (natI t.list), .sl .any (t.pair.map Res.cells), .int .i64 t.body.kind, .int .i64 t.body.index, .int .i64 t.body.type.kind,
  .sl .any (t.body.type.args.map Ty.cells), .sl .any (t.body.args.map Tm.cells), .sl .any (t.env.map Res.cells)] := by
 cases t; simp [Res.cells, Res.rows_eq, Res.num, Res.list, Res.pair, Res.body, Res.env]
section
variable (t : Res)
theorem Res.cells_len : t.cells.length = 9 := by rw [Res.cells_eq]; rfl
theorem Res.cells_0 : t.cells[0]? = some (.int .i64 t.num) := by rw [Res.cells_eq]; rfl
theorem Res.cells_1 : t.cells[1]? = some (.sl .any (natI t.list)) := by rw [Res.cells_eq]; rfl
theorem Res.cells_2 : t.cells[2]? = some (.sl .any (t.pair.map Res.cells)) := by rw [Res.cells_eq]; rfl
theorem Res.cells_8 : t.cells[8]? = some (.sl .any (t.env.map Res.cells)) := by rw [Res.cells_eq]; rfl
theorem Res.cells_take : List.take 9 t.cells = t.cells := List.take_of_length_le (by rw [Res.cells_len]; exact Nat.le_refl _)
theorem Res.cells_body : List.take 5 (List.drop 3 t.cells) = t.body.cells := by rw [Res.cells_eq, Tm.cells_eq]; rfl
theorem Res.cells_one : t.cells.all oneV = true := by rw [Res.cells_eq]; rfl
end
theorem splice_Res {cs : List V} {t : Res} (h : cs.length = 9) : splice cs 0 t.cells = t.cells := splice_full (by rw [h, Res.cells_len])
theorem weakL_Res : ∀ t : Res, weakL t.cells = t.cells := by
 intro t
 induction t using Res.ind with
 | h t i1 i2 =>
  rw [Res.cells_eq]
  have e1 : weakLL (t.pair.map Res.cells) = t.pair.map Res.cells := by
   rw [weakLL_eq, List.map_map]; exact List.map_congr_left fun x hx => i1 x hx
  have e2 : weakLL (t.env.map Res.cells) = t.env.map Res.cells := by
   rw [weakLL_eq, List.map_map]; exact List.map_congr_left fun x hx => i2 x hx
  simp only [weakL, weak, natI, weakLL_ints, weakLL_Ty, weakLL_Tm, e1, e2]
theorem weakLL_Res (l : List Res) : weakLL (l.map Res.cells) = l.map Res.cells := by
 rw [weakLL_eq, List.map_map]; exact List.map_congr_left fun x _ => weakL_Res x
section
variable {S : Id → Prop}
theorem InL_Res : ∀ t : Res, InL S t.cells := by
 intro t
 induction t using Res.ind with
 | h t i1 i2 =>
  rw [Res.cells_eq]
  have e1 : InLL S (t.pair.map Res.cells) := by
   rw [InLL_mem]; intro l hl; obtain ⟨x, hx, rfl⟩ := List.mem_map.1 hl; exact i1 x hx
  have e2 : InLL S (t.env.map Res.cells) := by
   rw [InLL_mem]; intro l hl; obtain ⟨x, hx, rfl⟩ := List.mem_map.1 hl; exact i2 x hx
  simp only [InL, InV, capIn, true_and, and_true, natI, InLL_ints, InLL_Ty, InLL_Tm, e1, e2]
theorem InLL_Res (l : List Res) : InLL S (l.map Res.cells) := by
 rw [InLL_mem]; intro x hx; obtain ⟨y, _, rfl⟩ := List.mem_map.1 hx; exact InL_Res y
end
theorem all_len_Res (l : List Res) : (l.map Res.cells).all (fun e => e.length == 9) = true := by simp [Res.cells_len]
theorem all_one_Res (l : List Res) : (l.map Res.cells).flatten.all oneV = true := by
 rw [List.all_eq_true]; intro v hv
 obtain ⟨c, hc, hv⟩ := List.mem_flatten.1 hv
 obtain ⟨x, _, rfl⟩ := List.mem_map.1 hc
 exact List.all_eq_true.1 (Res.cells_one x) v hv
def mc (u most : Nat) (o : Bool) : List V := [.int .i64 u, .int .i64 most, .bool o]
@[go_sem] theorem mc_in {S : Id → Prop} (u most : Nat) (o : Bool) : InL S (mc u most o) = True := by simp [mc, InL, InV]
theorem mc_len {u most : Nat} {o : Bool} : (mc u most o).length = 3 := rfl
theorem mc_0 {u most : Nat} {o : Bool} : (mc u most o)[0]? = some (.int .i64 u) := rfl
theorem mc_1 {u most : Nat} {o : Bool} : (mc u most o)[1]? = some (.int .i64 most) := rfl
theorem mc_2 {u most : Nat} {o : Bool} : (mc u most o)[2]? = some (.bool o) := rfl
theorem mc_s0 {u u' most : Nat} {o : Bool} : splice (mc u most o) 0 [.int .i64 u'] = mc u' most o := rfl
theorem mc_s2 {u most : Nat} {o o' : Bool} : splice (mc u most o) 2 [.bool o'] = mc u most o' := rfl
attribute [go_sem] InL_Res InLL_Res mc_len mc_0 mc_1 mc_2 mc_s0 mc_s2
attribute [go_sem] Res.cells_len Res.cells_0 Res.cells_1 Res.cells_2 Res.cells_8 Res.cells_take Res.cells_body Res.cells_one splice_Res weakL_Res weakLL_Res all_len_Res all_one_Res
def numR (n : Nat) : Res := .mk n [] [] zeroT []
def zeroR : Res := numR 0
def listR (l : List Nat) : Res := .mk 0 l [] zeroT []
def pairR (l : List Res) : Res := .mk 0 [] l zeroT []
def cloR (b : Tm) (e : List Res) : Res := .mk 0 [] [] b e
abbrev Out := Option (Res × Nat × Bool)
abbrev Evl := Nat → Tm → List Res → Out
def evCall (E : Evl) (u : Nat) (f a : Res) : Out := E u f.body (f.env ++ [a])
def evArgs (E : Evl) (e : List Res) : Nat → List Tm → Option (List Res × Nat × Bool)
 | u, [] => some ([], u, false)
 | u, t :: l =>
  match E u t e with
  | none => none
  | some (_, u', true) => some ([], u', true)
  | some (r, u', false) =>
   match evArgs E e u' l with
   | none => none
   | some (l', u'', o) => some (r :: l', u'', o)
def evRec (E : Evl) (s : Res) : Nat → Nat → Nat → Res → Out
 | 0, _, u, r => some (r, u, false)
 | n + 1, k, u, r =>
  match evCall E u s (numR k) with
  | none => none
  | some (_, u', true) => some (r, u', true)
  | some (f, u', false) =>
   match evCall E u' f r with
   | none => none
   | some (r', u'', true) => some (r', u'', true)
   | some (r', u'', false) => evRec E s n (k + 1) u'' r'
def evFold (E : Evl) (s : Res) (l : List Nat) : Nat → Nat → Res → Out
 | 0, u, r => some (r, u, false)
 | i + 1, u, r =>
  match evCall E u s (numR (l.getD i 0)) with
  | none => none
  | some (_, u', true) => some (r, u', true)
  | some (f, u', false) =>
   match evCall E u' f (listR (l.drop (i + 1))) with
   | none => none
   | some (_, u'', true) => some (r, u'', true)
   | some (f', u'', false) =>
    match evCall E u'' f' r with
    | none => none
    | some (r', u3, true) => some (r', u3, true)
    | some (r', u3, false) => evFold E s l i u3 r'
def evOf (E : Evl) (k : Int) (u : Nat) (l : List Res) : Out :=
 if k == 3 then (match l with | [f, a] => evCall E u f a | _ => none)
 else if k == 5 then (match l with | [a] => some (numR (a.num + 1), u, false) | _ => none)
 else if k == 6 then (match l with | [z, s, n] => evRec E s n.num 0 u z | _ => none)
 else if k == 8 then (match l with | [a, b] => some (listR (a.num :: b.list), u, false) | _ => none)
 else if k == 9 then (match l with | [z, s, n] => evFold E s n.list n.list.length u z | _ => none)
 else if k == 10 then some (pairR l, u, false)
 else if k == 11 then (match l with | [a] => (match a.pair with | [x, _] => some (x, u, false) | _ => none) | _ => none)
 else if k == 12 then (match l with | [a] => (match a.pair with | [_, y] => some (y, u, false) | _ => none) | _ => none)
 else some (zeroR, u, false)
def evStep (most : Nat) (E : Evl) : Evl := fun u t e =>
 if u = most then some (zeroR, u, true)
 else if t.kind == 1 then
  (if 0 ≤ (e.length : Int) - 1 - t.index then (e[((e.length : Int) - 1 - t.index).toNat]?).map fun r => (r, u + 1, false) else none)
 else if t.kind == 2 then (match t.args with | [b] => some (cloR b e, u + 1, false) | _ => none)
 else match evArgs E e (u + 1) t.args with
  | none => none
  | some (_, u', true) => some (zeroR, u', true)
  | some (l, u', false) => evOf E t.kind u' l
def ev (most : Nat) : Nat → Evl
 | 0 => fun _ _ _ => none
 | f + 1 => evStep most (ev most f)
inductive ResW (B : Nat) : Res → Prop
 | mk (n : Nat) (l : List Nat) (p : List Res) (b : Tm) (e : List Res) (hn : n ≤ B) (hl : ∀ x ∈ l, x ≤ B) (hll : l.length ≤ B)
   (hp : ∀ x ∈ p, ResW B x) (hb : TmW b) (hel : e.length ≤ B) (he : ∀ x ∈ e, ResW B x) : ResW B (.mk n l p b e)
section
variable {B : Nat} {r : Res}
end
theorem ResW.num {B : Nat} {n : Nat} (h : n ≤ B) : ResW B (numR n) := .mk _ _ _ _ _ h (by simp) (by simp) (by simp) zeroT_W (by simp) (by simp)
theorem ResW.list {B : Nat} {l : List Nat} (h : ∀ x ∈ l, x ≤ B) (hl : l.length ≤ B) : ResW B (listR l) := .mk _ _ _ _ _ (by omega) h hl (by simp) zeroT_W (by simp) (by simp)
theorem ResW.pair {B : Nat} {l : List Res} (h : ∀ x ∈ l, ResW B x) : ResW B (pairR l) := .mk _ _ _ _ _ (by omega) (by simp) (by simp) h zeroT_W (by simp) (by simp)
def EvW (K most : Nat) (E : Evl) : Prop := ∀ c u t e r u' o, E u t e = some (r, u', o) → c ≤ u → u ≤ most → TmW t → e.length ≤ u + K - c → (∀ x ∈ e, ResW (u + K - c) x) →
 u ≤ u' ∧ u' ≤ most ∧ (o = false → u < u' ∧ ResW (u' + K - c - 1) r)
section
variable {K most : Nat} {E : Evl} (hE : EvW K most E)
include hE
end
inductive RTy (Q : Ty → Prop) : Res → Ty → Prop
 | num {n : Nat} : RTy Q (numR n) tNat
 | list {l : List Nat} : RTy Q (listR l) tList
 | pair {x y : Res} {a b : Ty} : RTy Q x a → RTy Q y b → RTy Q (pairR [x, y]) (tPair a b)
 | unit : RTy Q zeroR tUnit
 | clo {G : List Ty} {es : List Res} {b : Tm} {s t : Ty} (hl : es.length = G.length) (he : ∀ (i : Nat) (r : Res) (a : Ty), es[i]? = some r → G[i]? = some a → RTy Q r a) (hb : HasTy Q (G ++ [s]) b t) : RTy Q (cloR b es) (tFun s t)
def EnvTy (Q : Ty → Prop) (es : List Res) (G : List Ty) : Prop := es.length = G.length ∧ ∀ (i : Nat) (r : Res) (a : Ty), es[i]? = some r → G[i]? = some a → RTy Q r a
def EvP (Q : Ty → Prop) (most : Nat) (N : Nat) (E : Evl) : Prop := ∀ u t e G s, N ≤ u → u ≤ most → HasTy Q G t s → EnvTy Q e G →
 ∃ r u' o, E u t e = some (r, u', o) ∧ u ≤ u' ∧ u' ≤ most ∧ (o = false → RTy Q r s)
section
variable {Q : Ty → Prop} {most N : Nat} {E : Evl} (hE : EvP Q most N E)
include hE
end
theorem HasTy.least {g : List Ty} {t : Tm} {s : Ty} (h : HasTy TyG g t s) : ∀ M : Int, 1 ≤ M → (g.length : Int) + tmSz t ≤ M → t.least M = true := by
 induction h with
 | var hi h => intro M hM hb; rw [tmSz_v] at hb; exact least_v (by omega)
 | lam hG _ ih => intro M hM hb; rw [tmSz_T1] at hb; exact least_T1 hM (ih M hM (by simp; omega))
 | n0 hN => intro M hM hb; exact least_mk (by omega) (by simp)
 | n1 hN _ ih => intro M hM hb; rw [tmSz_T1] at hb; exact least_T1 hM (ih M hM (by omega))
 | n2 hN _ _ ih1 ih2 => intro M hM hb; rw [tmSz_T2] at hb; exact least_mk (by omega) (by simp [ih1 M hM (by omega), ih2 M hM (by omega)])
 | n3 hN _ _ _ ih1 ih2 ih3 => intro M hM hb; rw [tmSz_T3] at hb; exact least_T3 hM (ih1 M hM (by omega)) (ih2 M hM (by omega)) (ih3 M hM (by omega))
end GoAbs
