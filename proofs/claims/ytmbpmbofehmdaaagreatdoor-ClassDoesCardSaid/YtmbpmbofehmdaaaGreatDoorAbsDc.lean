/-
 The abstract layer: plain laws, further ones.
-/
import Derived.Test.YtmbpmbofehmdaaaGreatDoorAbsDb
import Derived.Test.YtmbpmbofehmdaaaGreatDoorAbsB
import Derived.Test.YtmbpmbofehmdaaaGreatDoorAbsD
set_option linter.unusedSimpArgs false
set_option linter.unusedVariables false
set_option linter.unusedSectionVars false
namespace GoAbs
open Go
inductive Dc : List Ty → Fm → Prop
 | eq {g : List Ty} {x y : Tm} : TmG x → TmG y → HasTy TyG g x tNat → HasTy TyG g y tNat → Dc g (fmEq x y)
 | two {g : List Ty} {k : Int} {a b : Fm} (hk : k = 2 ∨ k = 3) : Dc g a → Dc g b → Dc g (fmTwo k a b)
 | bnd {g : List Ty} {all : Bool} {q : Tm} {a : Fm} : TmG q → HasTy TyG (g ++ [tNat]) q tNat → tmOcc q 0 = 0 → Dc (g ++ [tNat]) a → Dc g (bndF all q a)
def evN (m : Nat) (t : Tm) : Nat × Nat × Bool := match ev m (m + 1) 0 t [] with | some (r, u, o) => (r.num, u, o) | none => (0, 0, true)
abbrev Ans := Bool × Nat × Int
def putR (f : Fm) (s : Tm) : Fm × Int := if fmSz f + fmOcc f 0 * (tmSz s - 1) ≤ 4096 then (fmInn s 0 f 0, 0) else (zeroF, 4)
def dN (lim w : Nat) (t : Tm) : Nat × Nat × Int := if (evN (lim - w) t).2.2 then (0, w, 5) else ((evN (lim - w) t).1, w + (evN (lim - w) t).2.1, 0)
def dW (D : Nat → Fm → Ans) (f : Fm) (k w : Nat) : Ans :=
 if 4096 ≤ k then (false, w, 4) else if (putR f (numT k)).2 != 0 then (false, w, (putR f (numT k)).2) else D w (putR f (numT k)).1
def dB (D : Nat → Fm → Ans) (lim : Nat) (all : Bool) (f : Fm) : Nat → Nat → Nat → Ans
 | 0, _, w => (all, w, 0)
 | n + 1, k, w => if lim ≤ w then (false, w, 5) else
  if (dW D f k (w + 1)).2.2 != 0 || (dW D f k (w + 1)).1 != all then dW D f k (w + 1) else dB D lim all f n (k + 1) (dW D f k (w + 1)).2.1
def dE (lim w : Nat) (x y : Tm) : Ans :=
 if (dN lim w x).2.2 != 0 then (false, (dN lim w x).2.1, (dN lim w x).2.2)
 else if (dN lim (dN lim w x).2.1 y).2.2 != 0 then (false, (dN lim (dN lim w x).2.1 y).2.1, (dN lim (dN lim w x).2.1 y).2.2)
 else ((dN lim w x).1 == (dN lim (dN lim w x).2.1 y).1, (dN lim (dN lim w x).2.1 y).2.1, 0)
def dT (lim : Nat) : Nat → Nat → Fm → Ans
 | 0, w, _ => (false, w, 0)
 | n + 1, w, f =>
  if f.kind == 1 then dE lim w (f.terms.getD 0 zeroT) (f.terms.getD 1 zeroT)
  else if f.kind == 2 then (if (dT lim n w (fa f 0)).1 then dT lim n (dT lim n w (fa f 0)).2.1 (fa f 1) else dT lim n w (fa f 0))
  else if f.kind == 3 then
   (if (dT lim n w (fa f 0)).2.2 != 0 || !(dT lim n w (fa f 0)).1 then ((dT lim n w (fa f 0)).2.2 == 0, (dT lim n w (fa f 0)).2.1, (dT lim n w (fa f 0)).2.2) else dT lim n (dT lim n w (fa f 0)).2.1 (fa f 1))
  else if (dN lim w (tPut (bndTerm f) 0 zeroT)).2.2 != 0 then (false, (dN lim w (tPut (bndTerm f) 0 zeroT)).2.1, (dN lim w (tPut (bndTerm f) 0 zeroT)).2.2)
  else dB (fun w f => dT lim n w f) lim (f.kind == 4) (bndBody f) (dN lim w (tPut (bndTerm f) 0 zeroT)).1 0 (dN lim w (tPut (bndTerm f) 0 zeroT)).2.1
def EvM (m : Nat) (E F : Evl) : Prop := ∀ u t e r u', u ≤ m → E u t e = some (r, u', false) → u ≤ u' ∧ u' ≤ m ∧ F u t e = some (r, u', false)
section
variable {m : Nat} {E F : Evl} (hM : EvM m E F)
include hM
end
def dA (lim : Nat) (f : Fm) : Ans := dT lim (fdp f) 0 f
section
variable {f g : Fm} (hf : Dc [] f) (hg : Dc [] g) (zf : fmSz f ≤ 1000) (zg : fmSz g ≤ 1000)
include hf hg zf zg
end
def hR (lim : Nat) (f : Fm) (k : Nat) : Ans := if (putR f (numT k)).2 != 0 then (false, 0, (putR f (numT k)).2) else dA lim (putR f (numT k)).1
section
variable {all : Bool} {f : Fm} {n : Nat} (hf : Dc [tNat] f) (zf : fmSz f ≤ 1000) (hn : n ≤ 5)
include hf zf hn
end
abbrev AnsL := Nat × Bool × Nat × Int
def leastL (D : Nat → Fm → Ans) (f : Fm) : Nat → Nat → Nat → AnsL
 | 0, _, w => (0, false, w, 0)
 | n + 1, k, w => if (dW D f k w).2.2 != 0 then (0, false, 0, (dW D f k w).2.2) else if (dW D f k w).1 then (k, true, (dW D f k w).2.1, 0) else leastL D f n (k + 1) (dW D f k w).2.1
inductive PVl where
 | mk (kind num : Int) (list : List Int) (args : List PVl)
def PVl.kind : PVl → Int | .mk k _ _ _ => k
def PVl.num : PVl → Int | .mk _ n _ _ => n
def PVl.list : PVl → List Int | .mk _ _ l _ => l
def PVl.args : PVl → List PVl | .mk _ _ _ a => a
theorem PVl.ind {p : PVl → Prop} (h : ∀ t, (∀ x ∈ t.args, p x) → p t) : ∀ t, p t := by
 intro t
 refine PVl.rec (motive_1 := p) (motive_2 := fun l => ∀ x ∈ l, p x) (fun k n l a i1 => h _ i1) (by simp) (fun a l ha hl x hx => ?_) t
 rcases List.mem_cons.1 hx with rfl | hx
 ·exact ha
 ·exact hl x hx
mutual
def PVl.cells : PVl → List V
 | .mk k n l a => [.int .i64 k, .int .i64 n, .sl .any (ints l), .sl .any (PVl.rows a)]
def PVl.rows : List PVl → List (List V)
 | [] => []
 | r :: l => r.cells :: PVl.rows l
end
theorem PVl.rows_eq : ∀ l, PVl.rows l = l.map PVl.cells
 | [] => by simp [PVl.rows]
 | t :: l => by simp [PVl.rows, PVl.rows_eq l]
theorem PVl.cells_eq (t : PVl) : t.cells = [.int .i64 t.kind, .int .i64 t.num, .sl .any (ints t.list), .sl .any (t.args.map PVl.cells)] := by
 cases t; simp [PVl.cells, PVl.rows_eq, PVl.kind, PVl.num, PVl.list, PVl.args]
section
variable (t : PVl)
theorem PVl.cells_len : t.cells.length = 4 := by rw [PVl.cells_eq]; rfl
theorem PVl.cells_0 : t.cells[0]? = some (.int .i64 t.kind) := by rw [PVl.cells_eq]; rfl
theorem PVl.cells_1 : t.cells[1]? = some (.int .i64 t.num) := by rw [PVl.cells_eq]; rfl
theorem PVl.cells_2 : t.cells[2]? = some (.sl .any (ints t.list)) := by rw [PVl.cells_eq]; rfl
theorem PVl.cells_3 : t.cells[3]? = some (.sl .any (t.args.map PVl.cells)) := by rw [PVl.cells_eq]; rfl
theorem PVl.cells_take : List.take 4 t.cells = t.cells := List.take_of_length_le (by rw [PVl.cells_len]; exact Nat.le_refl _)
theorem PVl.cells_one : t.cells.all oneV = true := by rw [PVl.cells_eq]; rfl
end
theorem splice_PVl {cs : List V} {t : PVl} (h : cs.length = 4) : splice cs 0 t.cells = t.cells := splice_full (by rw [h, PVl.cells_len])
theorem weakL_PVl : ∀ t : PVl, weakL t.cells = t.cells := by
 intro t
 induction t using PVl.ind with
 | h t i1 =>
  rw [PVl.cells_eq]
  have e1 : weakLL (t.args.map PVl.cells) = t.args.map PVl.cells := by
   rw [weakLL_eq, List.map_map]; exact List.map_congr_left fun x hx => i1 x hx
  simp only [weakL, weak, weakLL_ints, e1]
theorem weakLL_PVl (l : List PVl) : weakLL (l.map PVl.cells) = l.map PVl.cells := by
 rw [weakLL_eq, List.map_map]; exact List.map_congr_left fun x _ => weakL_PVl x
section
variable {S : Id → Prop}
theorem InL_PVl : ∀ t : PVl, InL S t.cells := by
 intro t
 induction t using PVl.ind with
 | h t i1 =>
  rw [PVl.cells_eq]
  have e1 : InLL S (t.args.map PVl.cells) := by
   rw [InLL_mem]; intro l hl; obtain ⟨x, hx, rfl⟩ := List.mem_map.1 hl; exact i1 x hx
  simp only [InL, InV, capIn, true_and, and_true, InLL_ints, e1]
theorem InLL_PVl (l : List PVl) : InLL S (l.map PVl.cells) := by
 rw [InLL_mem]; intro x hx; obtain ⟨y, _, rfl⟩ := List.mem_map.1 hx; exact InL_PVl y
end
theorem all_len_PVl (l : List PVl) : (l.map PVl.cells).all (fun e => e.length == 4) = true := by simp [PVl.cells_len]
theorem all_one_PVl (l : List PVl) : (l.map PVl.cells).flatten.all oneV = true := by
 rw [List.all_eq_true]; intro v hv
 obtain ⟨c, hc, hv⟩ := List.mem_flatten.1 hv
 obtain ⟨x, _, rfl⟩ := List.mem_map.1 hc
 exact List.all_eq_true.1 (PVl.cells_one x) v hv
attribute [go_sem] InL_PVl InLL_PVl
attribute [go_sem] PVl.cells_len PVl.cells_0 PVl.cells_1 PVl.cells_2 PVl.cells_3 PVl.cells_take PVl.cells_one splice_PVl weakL_PVl weakLL_PVl all_len_PVl all_one_PVl
def PlainTy (t : Ty) : Prop := t = tNat ∨ t = tList ∨ t = tUnit ∨ t = tPair tNat tList ∨ t = tPair tNat tNat
theorem PlainTy.mk {t : Ty} (h : PlainTy t) : MkTy 1 t := by
 rcases h with rfl | rfl | rfl | rfl | rfl
 ·exact .nat
 ·exact .list
 ·exact .unit
 ·exact .pair .nat .list
 ·exact .pair .nat .nat
abbrev Vl := Tm → List Res → Option Res
section
variable {E : Evl} {F : Vl} (hEF : ∀ u t e r u', E u t e = some (r, u', false) → F t e = some r)
include hEF
end
section
variable {E F : Vl} (hEF : ∀ t e r, E t e = some r → F t e = some r)
include hEF
end
inductive Like : Res → Res → Prop
 | mk {n : Nat} {l : List Nat} {p p' : List Res} {b : Tm} {e e' pre : List Res} (hp : p.length = p'.length) (hps : ∀ (i : Nat) x y, p[i]? = some x → p'[i]? = some y → Like x y)
   (he : e.length = e'.length) (hes : ∀ (i : Nat) x y, e[i]? = some x → e'[i]? = some y → Like x y) : Like (.mk n l p b e) (.mk n l p' b (pre ++ e'))
def SimL (l l' : List Res) : Prop := l.length = l'.length ∧ ∀ (i : Nat) x y, l[i]? = some x → l'[i]? = some y → Like x y
def SimE (e e' : List Res) : Prop := ∃ pre e'', e' = pre ++ e'' ∧ SimL e e''
section
variable {E : Vl} (hE : ∀ t e r, E t e = some r → ∀ e', SimE e e' → ∃ r', E t e' = some r' ∧ Like r r')
include hE
end
theorem tm_upW {b : Int} : ∀ (t : Tm) (fr : Int), TmW t → TmW (t.up b fr) := by
 intro t
 induction t using Tm.ind with | h t ih => ?_
 intro fr ht
 rw [Tm.up_eq]
 refine .mk _ _ _ _ ht.ty (by rw [List.length_map]; exact ht.len) ?_
 intro x hx
 obtain ⟨y, hy, rfl⟩ := List.mem_map.1 hx
 exact ih y hy _ (ht.arg hy)
end GoAbs
namespace GoAbs
end GoAbs
