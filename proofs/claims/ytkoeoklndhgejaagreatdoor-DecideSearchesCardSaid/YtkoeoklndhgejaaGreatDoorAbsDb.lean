/-
 The abstract layer: plain laws, further ones.
-/
import Derived.Test.YtkoeoklndhgejaaGreatDoorAbsD
import Derived.Test.YtkoeoklndhgejaaGreatDoorAbsB
set_option linter.unusedSimpArgs false
set_option linter.unusedVariables false
set_option linter.unusedSectionVars false
namespace GoAbs
open Go
theorem fmOcc_eq {x y : Tm} {a : Int} : fmOcc (fmEq x y) a = tmOcc x a + tmOcc y a := by simp [fmEq, fmOcc, tmOccL, fmOccL]
theorem fmOcc_two {k : Int} {x y : Fm} {a : Int} (hk : k = 2 ∨ k = 3) : fmOcc (fmTwo k x y) a = fmOcc x a + fmOcc y a := by
 rcases hk with rfl | rfl <;> simp [fmTwo, fmOcc, tmOccL, fmOccL, fmBelow, quant]
theorem fmOcc_q {k : Int} {t : Ty} {x : Fm} {a : Int} (hk : k = 4 ∨ k = 5 ∨ k = 6 ∨ k = 7) : fmOcc (fmQ k t x) a = fmOcc x (a + 1) := by
 rcases hk with rfl | rfl | rfl | rfl <;> simp [fmQ, fmOcc, tmOccL, fmOccL, fmBelow, quant]
theorem least_eqn {M : Int} {x y : Tm} (h1 : x.least M = true) (h2 : y.least M = true) : (fmEq x y).least M = true := by
 rw [Fm.least_eq]; simp only [fmEq, Fm.terms, Fm.args, Tm.leastL_cons, Tm.leastL_nil, Fm.leastL_nil, h1, h2, Bool.and_self]
theorem least_two {M k : Int} {x y : Fm} (h1 : x.least M = true) (h2 : y.least M = true) : (fmTwo k x y).least M = true := by
 rw [Fm.least_eq]; simp only [fmTwo, Fm.terms, Fm.args, Fm.leastL_cons, Tm.leastL_nil, Fm.leastL_nil, h1, h2, Bool.and_self]
theorem least_q {M k : Int} {t : Ty} {x : Fm} (h1 : x.least M = true) : (fmQ k t x).least M = true := by
 rw [Fm.least_eq]; simp only [fmQ, Fm.terms, Fm.args, Fm.leastL_cons, Tm.leastL_nil, Fm.leastL_nil, h1, Bool.and_self]
theorem fleast_parts2 {k M : Int} {a b : Fm} (h : (fmTwo k a b).least M = true) : a.least M = true ∧ b.least M = true := by
 rw [fmTwo, Fm.least] at h; simpa [Tm.leastL_nil, Fm.leastL_cons, Fm.leastL_nil] using h
theorem fleast_part {k M : Int} {s : Ty} {a : Fm} (h : (fmQ k s a).least M = true) : a.least M = true := by
 rw [fmQ, Fm.least] at h; simpa [Tm.leastL_nil, Fm.leastL_cons, Fm.leastL_nil] using h
theorem fleast_eq {M : Int} {x y : Tm} : (fmEq x y).least M = true ↔ x.least M = true ∧ y.least M = true := by
 rw [fmEq, Fm.least]; simp [Tm.leastL_nil, Tm.leastL_cons, Fm.leastL_nil]
def qw (k : Int) (t : Ty) (p : Ty × Ty) (w c : Tm) : Tm := if k == 4 then chCall t p.1 w (chPart 11 t p.2 c) else chPart 12 p.1 t w
/- Content types. -/
/- realize. -/
theorem FmG.qk {u : Bool} {k : Int} (hk : k = 4 ∨ k = 5 ∨ (u = true ∧ (k = 6 ∨ k = 7))) : k = 4 ∨ k = 5 ∨ k = 6 ∨ k = 7 := by
 rcases hk with h | h | ⟨_, h | h⟩ <;> simp [h]
theorem below_q {k : Int} (hk : k = 4 ∨ k = 5 ∨ k = 6 ∨ k = 7) : fmBelow k = 1 := by rcases hk with rfl | rfl | rfl | rfl <;> rfl
theorem fdp_q {k : Int} {t : Ty} {a : Fm} : fdp (fmQ k t a) = fdp a + 1 := by simp [fmQ, fdp, fdpL]
/- Existential quantifiers are counted. -/
mutual
def Fm.rv (F : Tm → Int → Tm) : Fm → Int → Fm
 | .mk k t l a, b => .mk k t (l.map fun x => F x b) (Fm.rvL F a (evB k b))
def Fm.rvL (F : Tm → Int → Tm) : List Fm → Int → List Fm
 | [], _ => []
 | t :: l, b => t.rv F b :: Fm.rvL F l b
end
theorem Fm.rvL_map {F : Tm → Int → Tm} : ∀ (l : List Fm) (b : Int), Fm.rvL F l b = l.map fun t => t.rv F b
 | [], b => by simp [Fm.rvL]
 | t :: l, b => by simp [Fm.rvL, Fm.rvL_map l b]
theorem Fm.rv_eq (F : Tm → Int → Tm) (f : Fm) (b : Int) : f.rv F b = .mk f.kind f.type (f.terms.map fun x => F x b) (f.args.map fun x => x.rv F (evB f.kind b)) := by
 cases f; rw [Fm.rv, Fm.rvL_map]; rfl
/- The context of a sequent, and the places of its hypotheses. -/
mutual
def Fm.sm (F : Tm → Int → Int) : Fm → Int → Int → Int
 | .mk k _ l a, b, n => Fm.smL F a (evB k b) (l.foldl (fun n t => addW n (F t b)) n)
def Fm.smL (F : Tm → Int → Int) : List Fm → Int → Int → Int
 | [], _, n => n
 | f :: l, b, n => Fm.smL F l b (f.sm F b n)
end
theorem Fm.smL_fold {F : Tm → Int → Int} : ∀ (l : List Fm) (b n : Int), Fm.smL F l b n = l.foldl (fun n f => f.sm F b n) n
 | [], b, n => by simp [Fm.smL]
 | t :: l, b, n => by simp [Fm.smL, Fm.smL_fold l b]
theorem Fm.sm_eq (F : Tm → Int → Int) (f : Fm) (b n : Int) : f.sm F b n = f.args.foldl (fun n x => x.sm F (evB f.kind b) n) (f.terms.foldl (fun n t => addW n (F t b)) n) := by
 cases f; rw [Fm.sm, Fm.smL_fold]; rfl
theorem foldl_take_succ {α : Type} {g : Int → α → Int} {l : List α} {i : Nat} {x : α} (h : l[i]? = some x) (n : Int) : (l.take (i + 1)).foldl g n = g ((l.take i).foldl g n) x := by
 rw [List.take_add_one, h]; simp
theorem TmG.rb_put {s : Tm} (hs : TmG s) (zs : tmSz s ≤ 5000) (ls : s.least 536870912 = true) {a : Int} (ha0 : 0 ≤ a) (ha : a ≤ 100000) : ∀ (n : Nat) {t : Tm}, TmG t → tmSz t ≤ n → t.least 1000000000 = true → ∀ d : Int, 0 ≤ d → d + n ≤ 100000 →
  t.rb (putG a s) d = tmInn s 0 t (a + d)
 | 0, t, h, hn, _, _, _, _ => by have := tmSz_pos t; omega
 | n + 1, t, h, hn, hl, d, h0, hd => by
  revert hn hl
  have e0 : addW 0 (a + d) = a + d := by rw [addW_eq (by omega) (by omega) (by omega) (by omega)]; omega
  refine h.cases' (p := fun t => tmSz t ≤ n + 1 → t.least 1000000000 = true → t.rb (putG a s) d = tmInn s 0 t (a + d)) ?_ ?_
  ·intro i hi _ hl
   have hi2 := var_j hl
   rw [tmVar, Tm.rb, tmInn, e0]
   simp only [beq_self_eq_true, if_true, putG]
   rw [subW_eq (by omega) (by omega) (by omega) (by omega), addW_eq (a := a) (by omega) (by omega) (by omega) (by omega)]
   have e1 : (i - d == a) = (i == a + d) := by
    by_cases h : i = a + d
    ·have h1 : (i == a + d) = true := by simpa using h
     rw [h1]; simp; omega
    ·have h1 : (i == a + d) = false := by simpa using h
     rw [h1]; simp; omega
   have e2 : decide (i - d > a) = decide (i > a + d) := by
    by_cases h : i > a + d
    ·rw [decide_eq_true h, decide_eq_true (by omega)]
    ·rw [decide_eq_false h, decide_eq_false (by omega)]
   rw [e1, e2, tLift_up hs zs ls (by omega) (by omega) (by omega) (by omega)]
   rfl
  ·intro k ty l hk _ hg _ hn hl
   rw [tmSz] at hn
   rw [Tm.least, Bool.and_eq_true] at hl
   have hr := tmBelow_range k
   have e : addW (a + d) (tmBelow k) = a + (d + tmBelow k) := by rw [addW_eq (by omega) (by omega) (by omega) (by omega)]; omega
   rw [Tm.rb, Tm.rbL_map, tmInn, tmInnL_map, hk, e, below_eq h0 (by omega)]
   simp only [Bool.false_eq_true, if_false]
   congr 1
   refine List.map_congr_left fun y hy => ?_
   exact TmG.rb_put hs zs ls ha0 ha n (hg y hy) (by have := tmSzL_mem hy; omega) (Tm.leastL_iff.1 hl.2 y hy) _ (by omega) (by omega)
theorem tPut_inn {s t : Tm} (hs : TmG s) (zs : tmSz s ≤ 5000) (ls : s.least 536870912 = true) (ht : TmG t) (zt : tmSz t ≤ 5000) (lt : t.least 536870912 = true) {a : Int} (ha0 : 0 ≤ a) (ha : a ≤ 50000) : tPut t a s = tmInn s 0 t a := by
 have := TmG.rb_put hs zs ls ha0 (by omega : a ≤ 100000) _ ht (Nat.le_refl _) (least_mono (by omega) _ lt) 0 (by omega) (by omega)
 rw [Int.add_zero] at this
 exact this
theorem rv_put {u : Bool} {s : Tm} (hs : TmG s) (zs : tmSz s ≤ 5000) (ls : s.least 536870912 = true) {f : Fm} (h : FmG u f) : fmSz f ≤ 5000 → f.least 536870912 = true → ∀ d : Int, 0 ≤ d → d + fmSz f ≤ 50000 →
  f.rv (fun t b => tPut t (addW 0 b) s) d = fmInn s 0 f d := by
 induction h with
 | @eq x y hx hy =>
  intro hz hl d h0 hd
  rw [fmSz_eq] at hd hz
  obtain ⟨l1, l2⟩ := fleast_eq.1 hl
  rw [fmInn_eqn, fmEq, Fm.rv_eq]
  simp only [Fm.kind, Fm.terms, Fm.args, Fm.type, List.map_cons, List.map_nil]
  rw [addW_z h0 (by omega), tPut_inn hs zs ls hx (by omega) l1 h0 (by omega), tPut_inn hs zs ls hy (by omega) l2 h0 (by omega)]
  rfl
 | @two k p q hk _ _ h1 h2 =>
  intro hz hl d h0 hd
  rw [fmSz_two] at hd hz
  obtain ⟨l1, l2⟩ := fleast_parts2 hl
  rw [fmInn_two, fmTwo, Fm.rv_eq]
  simp only [Fm.kind, Fm.terms, Fm.args, Fm.type, List.map_cons, List.map_nil]
  rw [evB_eq h0 (by omega), below_two hk, Int.add_zero, addW_zero h0 (by omega), h1 (by omega) l1 d h0 (by omega), h2 (by omega) l2 d h0 (by omega)]
  rfl
 | @q k t p hk hs' _ h1 =>
  intro hz hl d h0 hd
  rw [fmSz_q] at hd hz
  rw [fmInn_q, fmQ, Fm.rv_eq]
  simp only [Fm.kind, Fm.terms, Fm.args, Fm.type, List.map_cons, List.map_nil]
  rw [evB_eq h0 (by omega), below_q (FmG.qk hk), addW_eq (by omega) (by omega) (by omega) (by omega), h1 (by omega) (fleast_part hl) _ (by omega) (by omega)]
  rfl
theorem sm_occ {u : Bool} {f : Fm} (h : FmG u f) : fmSz f ≤ 5000 → f.least 536870912 = true → ∀ (d : Int) (n : Nat), 0 ≤ d → d + fmSz f ≤ 50000 → n + fmSz f ≤ 50000 →
  f.sm (fun t b => t.count (addW 0 b)) d (n : Int) = ((n + fmOcc f d : Nat) : Int) := by
 induction h with
 | @eq x y hx hy =>
  intro hz hl d n h0 hd hn
  rw [fmSz_eq] at hd hz hn
  obtain ⟨l1, l2⟩ := fleast_eq.1 hl
  have o1 := tmOcc_le x d
  have o2 := tmOcc_le y d
  rw [Fm.sm_eq, fmOcc_eq, fmEq]
  simp only [Fm.kind, Fm.terms, Fm.args, List.foldl_cons, List.foldl_nil]
  rw [addW_z h0 (by omega), hx.count_occ (by omega) (least_mono (by omega) _ l1) h0 (by omega), hy.count_occ (by omega) (least_mono (by omega) _ l2) h0 (by omega),
   addW_eq (a := (n : Int)) (by omega) (by omega) (by omega) (by omega), addW_eq (by omega) (by omega) (by omega) (by omega)]
  omega
 | @two k p q hk _ _ h1 h2 =>
  intro hz hl d n h0 hd hn
  rw [fmSz_two] at hd hz hn
  obtain ⟨l1, l2⟩ := fleast_parts2 hl
  have o1 := fmOcc_le p d
  rw [Fm.sm_eq, fmOcc_two hk, fmTwo]
  simp only [Fm.kind, Fm.terms, Fm.args, List.foldl_cons, List.foldl_nil]
  rw [evB_eq h0 (by omega), below_two hk, Int.add_zero, h1 (by omega) l1 d n h0 (by omega) (by omega), h2 (by omega) l2 d _ h0 (by omega) (by omega)]
  omega
 | @q k t p hk hs' _ h1 =>
  intro hz hl d n h0 hd hn
  rw [fmSz_q] at hd hz hn
  rw [Fm.sm_eq, fmOcc_q (FmG.qk hk), fmQ]
  simp only [Fm.kind, Fm.terms, Fm.args, List.foldl_cons, List.foldl_nil]
  rw [evB_eq h0 (by omega), below_q (FmG.qk hk), h1 (by omega) (fleast_part hl) _ n (by omega) (by omega) (by omega)]
inductive Res where
 | mk (num : Nat) (list : List Nat) (pair : List Res) (body : Tm) (env : List Res)
def Res.num : Res → Nat | .mk n _ _ _ _ => n
def Res.list : Res → List Nat | .mk _ l _ _ _ => l
def natI (l : List Nat) : List (List V) := ints (l.map fun (n : Nat) => (n : Int))
def Res.pair : Res → List Res | .mk _ _ p _ _ => p
def Res.body : Res → Tm | .mk _ _ _ b _ => b
def Res.env : Res → List Res | .mk _ _ _ _ e => e
theorem Res.ind {p : Res → Prop} (h : ∀ t, (∀ x ∈ t.pair, p x) → (∀ x ∈ t.env, p x) → p t) : ∀ t, p t := by
 intro t
 refine Res.rec (motive_1 := p) (motive_2 := fun l => ∀ x ∈ l, p x) (fun n l pr b e i1 i2 => h _ i1 i2) (by simp) (fun a l ha hl x hx => ?_) t
 rcases List.mem_cons.1 hx with rfl | hx
 ·exact ha
 ·exact hl x hx
mutual
def Res.cells : Res → List V
 | .mk n l p b e => [.int .i64 n, .sl .any (natI l), .sl .any (Res.rows p), .int .i64 b.kind, .int .i64 b.index, .int .i64 b.type.kind, .sl .any (b.type.args.map Ty.cells), .sl .any (b.args.map Tm.cells), .sl .any (Res.rows e)]
def Res.rows : List Res → List (List V)
 | [] => []
 | r :: l => r.cells :: Res.rows l
end
theorem Res.rows_eq : ∀ l, Res.rows l = l.map Res.cells
 | [] => by simp [Res.rows]
 | t :: l => by simp [Res.rows, Res.rows_eq l]
theorem Res.cells_eq (t : Res) : t.cells = [.int .i64 t.num, .sl .any (natI t.list), .sl .any (t.pair.map Res.cells), .int .i64 t.body.kind, .int .i64 t.body.index, .int .i64 t.body.type.kind,
  .sl .any (t.body.type.args.map Ty.cells), .sl .any (t.body.args.map Tm.cells), .sl .any (t.env.map Res.cells)] := by
 cases t; simp [Res.cells, Res.rows_eq, Res.num, Res.list, Res.pair, Res.body, Res.env]
section
variable (t : Res)
theorem Res.cells_len : t.cells.length = 9 := by rw [Res.cells_eq]; rfl
theorem Res.cells_0 : t.cells[0]? = some (.int .i64 t.num) := by rw [Res.cells_eq]; rfl
theorem Res.cells_1 : t.cells[1]? = some (.sl .any (natI t.list)) := by rw [Res.cells_eq]; rfl
theorem Res.cells_2 : t.cells[2]? = some (.sl .any (t.pair.map Res.cells)) := by rw [Res.cells_eq]; rfl
theorem Res.cells_8 : t.cells[8]? = some (.sl .any (t.env.map Res.cells)) := by rw [Res.cells_eq]; rfl
theorem Res.cells_take : List.take 9 t.cells = t.cells := List.take_of_length_le (by rw [Res.cells_len]; exact Nat.le_refl _)
theorem Res.cells_body : List.take 5 (List.drop 3 t.cells) = t.body.cells := by rw [Res.cells_eq, Tm.cells_eq]; rfl
theorem Res.cells_one : t.cells.all oneV = true := by rw [Res.cells_eq]; rfl
end
theorem splice_Res {cs : List V} {t : Res} (h : cs.length = 9) : splice cs 0 t.cells = t.cells := splice_full (by rw [h, Res.cells_len])
theorem weakL_Res : ∀ t : Res, weakL t.cells = t.cells := by
 intro t
 induction t using Res.ind with
 | h t i1 i2 =>
  rw [Res.cells_eq]
  have e1 : weakLL (t.pair.map Res.cells) = t.pair.map Res.cells := by
   rw [weakLL_eq, List.map_map]; exact List.map_congr_left fun x hx => i1 x hx
  have e2 : weakLL (t.env.map Res.cells) = t.env.map Res.cells := by
   rw [weakLL_eq, List.map_map]; exact List.map_congr_left fun x hx => i2 x hx
  simp only [weakL, weak, natI, weakLL_ints, weakLL_Ty, weakLL_Tm, e1, e2]
theorem weakLL_Res (l : List Res) : weakLL (l.map Res.cells) = l.map Res.cells := by
 rw [weakLL_eq, List.map_map]; exact List.map_congr_left fun x _ => weakL_Res x
section
variable {S : Id → Prop}
theorem InL_Res : ∀ t : Res, InL S t.cells := by
 intro t
 induction t using Res.ind with
 | h t i1 i2 =>
  rw [Res.cells_eq]
  have e1 : InLL S (t.pair.map Res.cells) := by
   rw [InLL_mem]; intro l hl; obtain ⟨x, hx, rfl⟩ := List.mem_map.1 hl; exact i1 x hx
  have e2 : InLL S (t.env.map Res.cells) := by
   rw [InLL_mem]; intro l hl; obtain ⟨x, hx, rfl⟩ := List.mem_map.1 hl; exact i2 x hx
  simp only [InL, InV, capIn, true_and, and_true, natI, InLL_ints, InLL_Ty, InLL_Tm, e1, e2]
theorem InLL_Res (l : List Res) : InLL S (l.map Res.cells) := by
 rw [InLL_mem]; intro x hx; obtain ⟨y, _, rfl⟩ := List.mem_map.1 hx; exact InL_Res y
end
theorem all_len_Res (l : List Res) : (l.map Res.cells).all (fun e => e.length == 9) = true := by simp [Res.cells_len]
theorem all_one_Res (l : List Res) : (l.map Res.cells).flatten.all oneV = true := by
 rw [List.all_eq_true]; intro v hv
 obtain ⟨c, hc, hv⟩ := List.mem_flatten.1 hv
 obtain ⟨x, _, rfl⟩ := List.mem_map.1 hc
 exact List.all_eq_true.1 (Res.cells_one x) v hv
theorem Res.mk_cells (n : Nat) (l : List Nat) (p : List Res) (b : Tm) (e : List Res) : (Res.mk n l p b e).cells = [.int .i64 n, .sl .any (natI l), .sl .any (p.map Res.cells), .int .i64 b.kind, .int .i64 b.index, .int .i64 b.type.kind,
  .sl .any (b.type.args.map Ty.cells), .sl .any (b.args.map Tm.cells), .sl .any (e.map Res.cells)] := Res.cells_eq _
theorem take_map_len {α β : Type} {f : α → β} {l : List α} : List.take l.length (l.map f) = l.map f := List.take_of_length_le (by simp)
theorem weakLL_app (a b : List (List V)) : weakLL (a ++ b) = weakLL a ++ weakLL b := by simp [weakLL_eq]
theorem weakLL_cons' (a : List V) (b : List (List V)) : weakLL (a :: b) = weakL a :: weakLL b := by simp [weakLL_eq]
theorem weakLL_nil' : weakLL [] = [] := by simp [weakLL_eq]
def mc (u most : Nat) (o : Bool) : List V := [.int .i64 u, .int .i64 most, .bool o]
@[go_sem] theorem mc_in {S : Id → Prop} (u most : Nat) (o : Bool) : InL S (mc u most o) = True := by simp [mc, InL, InV]
theorem mc_len {u most : Nat} {o : Bool} : (mc u most o).length = 3 := rfl
theorem mc_0 {u most : Nat} {o : Bool} : (mc u most o)[0]? = some (.int .i64 u) := rfl
theorem mc_1 {u most : Nat} {o : Bool} : (mc u most o)[1]? = some (.int .i64 most) := rfl
theorem mc_2 {u most : Nat} {o : Bool} : (mc u most o)[2]? = some (.bool o) := rfl
theorem mc_s0 {u u' most : Nat} {o : Bool} : splice (mc u most o) 0 [.int .i64 u'] = mc u' most o := rfl
theorem mc_s2 {u most : Nat} {o o' : Bool} : splice (mc u most o) 2 [.bool o'] = mc u most o' := rfl
attribute [go_sem] InL_Res InLL_Res mc_len mc_0 mc_1 mc_2 mc_s0 mc_s2
attribute [go_sem] Res.cells_len Res.cells_0 Res.cells_1 Res.cells_2 Res.cells_8 Res.cells_take Res.cells_body Res.cells_one splice_Res weakL_Res weakLL_Res all_len_Res all_one_Res
def numR (n : Nat) : Res := .mk n [] [] zeroT []
def zeroR : Res := numR 0
def listR (l : List Nat) : Res := .mk 0 l [] zeroT []
def pairR (l : List Res) : Res := .mk 0 [] l zeroT []
def cloR (b : Tm) (e : List Res) : Res := .mk 0 [] [] b e
abbrev Out := Option (Res × Nat × Bool)
abbrev Evl := Nat → Tm → List Res → Out
def evCall (E : Evl) (u : Nat) (f a : Res) : Out := E u f.body (f.env ++ [a])
def evArgs (E : Evl) (e : List Res) : Nat → List Tm → Option (List Res × Nat × Bool)
 | u, [] => some ([], u, false)
 | u, t :: l =>
  match E u t e with
  | none => none
  | some (_, u', true) => some ([], u', true)
  | some (r, u', false) =>
   match evArgs E e u' l with
   | none => none
   | some (l', u'', o) => some (r :: l', u'', o)
def evRec (E : Evl) (s : Res) : Nat → Nat → Nat → Res → Out
 | 0, _, u, r => some (r, u, false)
 | n + 1, k, u, r =>
  match evCall E u s (numR k) with
  | none => none
  | some (_, u', true) => some (r, u', true)
  | some (f, u', false) =>
   match evCall E u' f r with
   | none => none
   | some (r', u'', true) => some (r', u'', true)
   | some (r', u'', false) => evRec E s n (k + 1) u'' r'
def evFold (E : Evl) (s : Res) (l : List Nat) : Nat → Nat → Res → Out
 | 0, u, r => some (r, u, false)
 | i + 1, u, r =>
  match evCall E u s (numR (l.getD i 0)) with
  | none => none
  | some (_, u', true) => some (r, u', true)
  | some (f, u', false) =>
   match evCall E u' f (listR (l.drop (i + 1))) with
   | none => none
   | some (_, u'', true) => some (r, u'', true)
   | some (f', u'', false) =>
    match evCall E u'' f' r with
    | none => none
    | some (r', u3, true) => some (r', u3, true)
    | some (r', u3, false) => evFold E s l i u3 r'
def evOf (E : Evl) (k : Int) (u : Nat) (l : List Res) : Out :=
 if k == 3 then (match l with | [f, a] => evCall E u f a | _ => none)
 else if k == 5 then (match l with | [a] => some (numR (a.num + 1), u, false) | _ => none)
 else if k == 6 then (match l with | [z, s, n] => evRec E s n.num 0 u z | _ => none)
 else if k == 8 then (match l with | [a, b] => some (listR (a.num :: b.list), u, false) | _ => none)
 else if k == 9 then (match l with | [z, s, n] => evFold E s n.list n.list.length u z | _ => none)
 else if k == 10 then some (pairR l, u, false)
 else if k == 11 then (match l with | [a] => (match a.pair with | [x, _] => some (x, u, false) | _ => none) | _ => none)
 else if k == 12 then (match l with | [a] => (match a.pair with | [_, y] => some (y, u, false) | _ => none) | _ => none)
 else some (zeroR, u, false)
def evStep (most : Nat) (E : Evl) : Evl := fun u t e =>
 if u = most then some (zeroR, u, true)
 else if t.kind == 1 then
  (if 0 ≤ (e.length : Int) - 1 - t.index then (e[((e.length : Int) - 1 - t.index).toNat]?).map fun r => (r, u + 1, false) else none)
 else if t.kind == 2 then (match t.args with | [b] => some (cloR b e, u + 1, false) | _ => none)
 else match evArgs E e (u + 1) t.args with
  | none => none
  | some (_, u', true) => some (zeroR, u', true)
  | some (l, u', false) => evOf E t.kind u' l
def ev (most : Nat) : Nat → Evl
 | 0 => fun _ _ _ => none
 | f + 1 => evStep most (ev most f)
theorem ev_succ (most f : Nat) : ev most (f + 1) = evStep most (ev most f) := rfl
inductive ResW (B : Nat) : Res → Prop
 | mk (n : Nat) (l : List Nat) (p : List Res) (b : Tm) (e : List Res) (hn : n ≤ B) (hl : ∀ x ∈ l, x ≤ B) (hll : l.length ≤ B)
   (hp : ∀ x ∈ p, ResW B x) (hb : TmW b) (hel : e.length ≤ B) (he : ∀ x ∈ e, ResW B x) : ResW B (.mk n l p b e)
theorem ResW.up {B B' : Nat} (hB : B ≤ B') {r : Res} (h : ResW B r) : ResW B' r := by
 induction h with
 | mk n l p b e h2 h3 h4 _ h6 h7 _ i1 i2 => exact .mk n l p b e (by omega) (fun x hx => by have := h3 x hx; omega) (by omega) i1 h6 (by omega) i2
section
variable {B : Nat} {r : Res}
theorem ResW.n1 (h : ResW B r) : r.num ≤ B := by cases h; assumption
theorem ResW.ls (h : ResW B r) : ∀ x ∈ r.list, x ≤ B := by cases h; assumption
theorem ResW.ll (h : ResW B r) : r.list.length ≤ B := by cases h; assumption
theorem ResW.ps (h : ResW B r) : ∀ x ∈ r.pair, ResW B x := by cases h; assumption
theorem ResW.bd (h : ResW B r) : TmW r.body := by cases h; assumption
theorem ResW.el (h : ResW B r) : r.env.length ≤ B := by cases h; assumption
theorem ResW.es (h : ResW B r) : ∀ x ∈ r.env, ResW B x := by cases h; assumption
end
theorem ResW.num {B : Nat} {n : Nat} (h : n ≤ B) : ResW B (numR n) := .mk _ _ _ _ _ h (by simp) (by simp) (by simp) zeroT_W (by simp) (by simp)
theorem ResW.zero {B : Nat} : ResW B zeroR := ResW.num (by omega)
theorem ResW.list {B : Nat} {l : List Nat} (h : ∀ x ∈ l, x ≤ B) (hl : l.length ≤ B) : ResW B (listR l) := .mk _ _ _ _ _ (by omega) h hl (by simp) zeroT_W (by simp) (by simp)
theorem ResW.pair {B : Nat} {l : List Res} (h : ∀ x ∈ l, ResW B x) : ResW B (pairR l) := .mk _ _ _ _ _ (by omega) (by simp) (by simp) h zeroT_W (by simp) (by simp)
theorem ResW.clo {B : Nat} {b : Tm} {e : List Res} (hb : TmW b) (hl : e.length ≤ B) (h : ∀ x ∈ e, ResW B x) : ResW B (cloR b e) := .mk _ _ _ _ _ (by omega) (by simp) (by simp) (by simp) hb hl h
def EvW (most : Nat) (E : Evl) : Prop := ∀ c u t e r u' o, E u t e = some (r, u', o) → c ≤ u → u ≤ most → TmW t → e.length ≤ u - c → (∀ x ∈ e, ResW (u - c) x) →
 u ≤ u' ∧ u' ≤ most ∧ (o = false → u < u' ∧ ResW (u' - c - 1) r)
section
variable {most : Nat} {E : Evl} (hE : EvW most E)
include hE
theorem evCall_W {c u u' : Nat} {f a r : Res} {o : Bool} (h : evCall E u f a = some (r, u', o)) (hc : c + 1 ≤ u) (hu : u ≤ most) (hf : ResW (u - c - 1) f) (ha : ResW (u - c - 1) a) :
  u ≤ u' ∧ u' ≤ most ∧ (o = false → u < u' ∧ ResW (u' - c - 1) r) := by
 refine hE c u _ _ _ _ _ h (by omega) hu hf.bd (by have := hf.el; simp; omega) fun x hx => ?_
 rcases List.mem_append.1 hx with hx | hx
 ·exact (hf.es x hx).up (by omega)
 ·simp at hx; subst hx; exact ha.up (by omega)
theorem evArgs_W {c : Nat} {e : List Res} : ∀ {l : List Tm} {u u' : Nat} {l' : List Res} {o : Bool}, evArgs E e u l = some (l', u', o) → c ≤ u → u ≤ most → (∀ t ∈ l, TmW t) → e.length ≤ u - c → (∀ x ∈ e, ResW (u - c) x) →
  u ≤ u' ∧ u' ≤ most ∧ (o = false → (l ≠ [] → u < u') ∧ l'.length = l.length ∧ ∀ x ∈ l', ResW (u' - c - 1) x) := by
 intro l
 induction l with
 | nil =>
  intro u u' l' o h hc hu ht hel he
  simp only [evArgs, Option.some.injEq, Prod.mk.injEq] at h
  obtain ⟨rfl, rfl, rfl⟩ := h
  exact ⟨Nat.le_refl _, hu, fun _ => ⟨fun h => (h rfl).elim, rfl, by simp⟩⟩
 | cons t l ih =>
  intro u u' l' o h hc hu ht hel he
  rw [evArgs] at h
  cases h1 : E u t e with
  | none => rw [h1] at h; cases h
  | some p =>
   obtain ⟨r, u1, o1⟩ := p
   obtain ⟨a1, a2, a3⟩ := hE c u t e r u1 o1 h1 hc hu (ht t (by simp)) hel he
   rw [h1] at h
   cases o1 with
   | true =>
    simp only [Option.some.injEq, Prod.mk.injEq] at h
    obtain ⟨rfl, rfl, rfl⟩ := h
    exact ⟨a1, a2, fun h => by cases h⟩
   | false =>
    obtain ⟨a3, a4⟩ := a3 rfl
    simp only at h
    cases h2 : evArgs E e u1 l with
    | none => rw [h2] at h; cases h
    | some q =>
     obtain ⟨l1, u2, o2⟩ := q
     rw [h2] at h
     simp only [Option.some.injEq, Prod.mk.injEq] at h
     obtain ⟨rfl, rfl, rfl⟩ := h
     obtain ⟨b1, b2, b3⟩ := ih h2 (by omega) a2 (fun x hx => ht x (by simp [hx])) (by omega) (fun x hx => (he x hx).up (by omega))
     refine ⟨by omega, b2, fun ho => ?_⟩
     obtain ⟨_, b3, b4⟩ := b3 ho
     refine ⟨fun _ => by omega, by simp [b3], fun x hx => ?_⟩
     rcases List.mem_cons.1 hx with rfl | hx
     ·exact a4.up (by omega)
     ·exact b4 x hx
theorem evRec_W {c : Nat} {s : Res} : ∀ {n k u u' : Nat} {r r' : Res} {o : Bool}, evRec E s n k u r = some (r', u', o) → c + 1 ≤ u → u ≤ most → k + n ≤ u - c - 1 → ResW (u - c - 1) s → ResW (u - c - 1) r →
  u ≤ u' ∧ u' ≤ most ∧ (o = false → ResW (u' - c - 1) r') := by
 intro n
 induction n with
 | zero =>
  intro k u u' r r' o h hc hu hk hs hr
  simp only [evRec, Option.some.injEq, Prod.mk.injEq] at h
  obtain ⟨rfl, rfl, rfl⟩ := h
  exact ⟨Nat.le_refl _, hu, fun _ => hr⟩
 | succ n ih =>
  intro k u u' r r' o h hc hu hk hs hr
  rw [evRec] at h
  cases h1 : evCall E u s (numR k) with
  | none => rw [h1] at h; cases h
  | some p =>
   obtain ⟨f, u1, o1⟩ := p
   obtain ⟨a1, a2, a3⟩ := evCall_W hE h1 hc hu hs (ResW.num (by omega))
   rw [h1] at h
   cases o1 with
   | true =>
    simp only [Option.some.injEq, Prod.mk.injEq] at h
    obtain ⟨rfl, rfl, rfl⟩ := h
    exact ⟨a1, a2, fun h => by cases h⟩
   | false =>
    obtain ⟨a3, a4⟩ := a3 rfl
    simp only at h
    cases h2 : evCall E u1 f r with
    | none => rw [h2] at h; cases h
    | some q =>
     obtain ⟨r1, u2, o2⟩ := q
     obtain ⟨b1, b2, b3⟩ := evCall_W hE h2 (by omega) a2 a4 (hr.up (by omega))
     rw [h2] at h
     cases o2 with
     | true =>
      simp only [Option.some.injEq, Prod.mk.injEq] at h
      obtain ⟨rfl, rfl, rfl⟩ := h
      exact ⟨by omega, b2, fun h => by cases h⟩
     | false =>
      obtain ⟨b3, b4⟩ := b3 rfl
      simp only at h
      obtain ⟨c1, c2, c3⟩ := ih h (by omega) b2 (by omega) (hs.up (by omega)) b4
      exact ⟨by omega, c2, c3⟩
theorem evFold_W {c : Nat} {s : Res} {l : List Nat} : ∀ {n u u' : Nat} {r r' : Res} {o : Bool}, evFold E s l n u r = some (r', u', o) → c + 1 ≤ u → u ≤ most → n ≤ l.length → l.length ≤ u - c - 1 →
  (∀ x ∈ l, x ≤ u - c - 1) → ResW (u - c - 1) s → ResW (u - c - 1) r → u ≤ u' ∧ u' ≤ most ∧ (o = false → ResW (u' - c - 1) r') := by
 intro n
 induction n with
 | zero =>
  intro u u' r r' o h hc hu hk hll hl hs hr
  simp only [evFold, Option.some.injEq, Prod.mk.injEq] at h
  obtain ⟨rfl, rfl, rfl⟩ := h
  exact ⟨Nat.le_refl _, hu, fun _ => hr⟩
 | succ n ih =>
  intro u u' r r' o h hc hu hk hll hl hs hr
  rw [evFold] at h
  have hx : l.getD n 0 ∈ l := by
   rw [List.getD_eq_getElem?_getD, List.getElem?_eq_getElem (by omega)]; exact List.getElem_mem _
  cases h1 : evCall E u s (numR (l.getD n 0)) with
  | none => rw [h1] at h; cases h
  | some p =>
   obtain ⟨f, u1, o1⟩ := p
   obtain ⟨a1, a2, a3⟩ := evCall_W hE h1 hc hu hs (ResW.num (hl _ hx))
   rw [h1] at h
   cases o1 with
   | true =>
    simp only [Option.some.injEq, Prod.mk.injEq] at h
    obtain ⟨rfl, rfl, rfl⟩ := h
    exact ⟨a1, a2, fun h => by cases h⟩
   | false =>
    obtain ⟨a3, a4⟩ := a3 rfl
    simp only at h
    have hw : ResW (u1 - c - 1) (listR (l.drop (n + 1))) := ResW.list (fun x hx => by have := hl x (List.mem_of_mem_drop hx); omega) (by simp; omega)
    cases h2 : evCall E u1 f (listR (l.drop (n + 1))) with
    | none => rw [h2] at h; cases h
    | some q =>
     obtain ⟨f2, u2, o2⟩ := q
     obtain ⟨b1, b2, b3⟩ := evCall_W hE h2 (by omega) a2 a4 hw
     rw [h2] at h
     cases o2 with
     | true =>
      simp only [Option.some.injEq, Prod.mk.injEq] at h
      obtain ⟨rfl, rfl, rfl⟩ := h
      exact ⟨by omega, b2, fun h => by cases h⟩
     | false =>
      obtain ⟨b3, b4⟩ := b3 rfl
      simp only at h
      cases h3 : evCall E u2 f2 r with
      | none => rw [h3] at h; cases h
      | some q =>
       obtain ⟨r3, u3, o3⟩ := q
       obtain ⟨d1, d2, d3⟩ := evCall_W hE h3 (by omega) b2 b4 (hr.up (by omega))
       rw [h3] at h
       cases o3 with
       | true =>
        simp only [Option.some.injEq, Prod.mk.injEq] at h
        obtain ⟨rfl, rfl, rfl⟩ := h
        exact ⟨by omega, d2, fun h => by cases h⟩
       | false =>
        obtain ⟨d3, d4⟩ := d3 rfl
        simp only at h
        obtain ⟨c1, c2, c3⟩ := ih h (by omega) d2 (by omega) (by omega) (fun x hx => by have := hl x hx; omega) (hs.up (by omega)) d4
        exact ⟨by omega, c2, c3⟩
theorem evOf_W (hm : most ≤ 1000000) {c : Nat} {k : Int} {u u' : Nat} {l : List Res} {r : Res} {o : Bool} (h : evOf E k u l = some (r, u', o)) (hc : c + 1 ≤ u) (hu : u ≤ most)
  (hl : ∀ x ∈ l, ResW (u - c - 2) x) (h2 : l ≠ [] → c + 2 ≤ u) : u ≤ u' ∧ u' ≤ most ∧ (o = false → ResW (u' - c - 1) r) := by
 unfold evOf at h
 split at h
 ·split at h
  ·rename_i f a
   have := h2 (by simp)
   obtain ⟨a1, a2, a3⟩ := evCall_W hE h hc hu ((hl f (by simp)).up (by omega)) ((hl a (by simp)).up (by omega))
   exact ⟨a1, a2, fun ho => (a3 ho).2⟩
  ·cases h
 split at h
 ·split at h
  ·rename_i a
   have := h2 (by simp)
   have ha := hl a (by simp)
   simp only [Option.some.injEq, Prod.mk.injEq] at h
   obtain ⟨rfl, rfl, rfl⟩ := h
   have b2 := ha.n1
   exact ⟨Nat.le_refl _, hu, fun _ => ResW.num (by omega)⟩
  ·cases h
 split at h
 ·split at h
  ·rename_i z s n
   have := h2 (by simp)
   have hn := hl n (by simp)
   have b2 := hn.n1
   exact evRec_W hE h hc hu (by omega) ((hl s (by simp)).up (by omega)) ((hl z (by simp)).up (by omega))
  ·cases h
 split at h
 ·split at h
  ·rename_i a b
   have := h2 (by simp)
   have ha := hl a (by simp)
   have hb := hl b (by simp)
   simp only [Option.some.injEq, Prod.mk.injEq] at h
   obtain ⟨rfl, rfl, rfl⟩ := h
   refine ⟨Nat.le_refl _, hu, fun _ => ResW.list (fun x hx => ?_) (by have := hb.ll; simp; omega)⟩
   rcases List.mem_cons.1 hx with rfl | hx
   ·have := ha.n1; omega
   ·have := hb.ls x hx; omega
  ·cases h
 split at h
 ·split at h
  ·rename_i z s n
   have := h2 (by simp)
   have hn := hl n (by simp)
   exact evFold_W hE h hc hu (Nat.le_refl _) (by have := hn.ll; omega) (fun x hx => by have := hn.ls x hx; omega) ((hl s (by simp)).up (by omega)) ((hl z (by simp)).up (by omega))
  ·cases h
 split at h
 ·simp only [Option.some.injEq, Prod.mk.injEq] at h
  obtain ⟨rfl, rfl, rfl⟩ := h
  exact ⟨Nat.le_refl _, hu, fun _ => ResW.pair fun x hx => (hl x hx).up (by omega)⟩
 split at h
 ·split at h
  ·rename_i a
   split at h
   ·rename_i x y hp
    simp only [Option.some.injEq, Prod.mk.injEq] at h
    obtain ⟨rfl, rfl, rfl⟩ := h
    exact ⟨Nat.le_refl _, hu, fun _ => ((hl a (by simp)).ps _ (by rw [hp]; simp)).up (by omega)⟩
   ·cases h
  ·cases h
 split at h
 ·split at h
  ·rename_i a
   split at h
   ·rename_i x y hp
    simp only [Option.some.injEq, Prod.mk.injEq] at h
    obtain ⟨rfl, rfl, rfl⟩ := h
    exact ⟨Nat.le_refl _, hu, fun _ => ((hl a (by simp)).ps _ (by rw [hp]; simp)).up (by omega)⟩
   ·cases h
  ·cases h
 ·simp only [Option.some.injEq, Prod.mk.injEq] at h
  obtain ⟨rfl, rfl, rfl⟩ := h
  exact ⟨Nat.le_refl _, hu, fun _ => ResW.zero⟩
theorem evStep_W (hm : most ≤ 1000000) : EvW most (evStep most E) := by
 intro c u t e r u' o h hc hu ht hel he
 unfold evStep at h
 split at h
 ·simp only [Option.some.injEq, Prod.mk.injEq] at h
  obtain ⟨rfl, rfl, rfl⟩ := h
  exact ⟨Nat.le_refl _, hu, fun h => by cases h⟩
 rename_i hne
 split at h
 ·split at h
  ·rename_i h0
   cases hx : e[((e.length : Int) - 1 - t.index).toNat]? with
   | none => rw [hx] at h; cases h
   | some x =>
    rw [hx] at h
    simp only [Option.map_some, Option.some.injEq, Prod.mk.injEq] at h
    obtain ⟨rfl, rfl, rfl⟩ := h
    exact ⟨by omega, by omega, fun _ => ⟨by omega, (he _ (List.mem_of_getElem? hx)).up (by omega)⟩⟩
  ·cases h
 split at h
 ·split at h
  ·rename_i b hb
   simp only [Option.some.injEq, Prod.mk.injEq] at h
   obtain ⟨rfl, rfl, rfl⟩ := h
   exact ⟨by omega, by omega, fun _ => ⟨by omega, ResW.clo (ht.arg (by rw [hb]; simp)) (by omega) fun x hx => (he x hx).up (by omega)⟩⟩
  ·cases h
 ·cases h1 : evArgs E e (u + 1) t.args with
  | none => rw [h1] at h; cases h
  | some p =>
   obtain ⟨l, u1, o1⟩ := p
   obtain ⟨a1, a2, a3⟩ := evArgs_W (c := c + 1) hE h1 (by omega) (by omega) (fun x hx => ht.arg hx) (by omega) (fun x hx => (he x hx).up (by omega))
   rw [h1] at h
   cases o1 with
   | true =>
    simp only [Option.some.injEq, Prod.mk.injEq] at h
    obtain ⟨rfl, rfl, rfl⟩ := h
    exact ⟨by omega, a2, fun h => by cases h⟩
   | false =>
    obtain ⟨a3, a4, a5⟩ := a3 rfl
    simp only at h
    obtain ⟨b1, b2, b3⟩ := evOf_W (c := c) hE hm h (by omega) a2 (fun x hx => (a5 x hx).up (by omega)) (fun hn => by
     have : t.args ≠ [] := by intro e; rw [e] at a4; simp at a4; exact hn a4
     have := a3 this; omega)
    exact ⟨by omega, b2, fun ho => ⟨by omega, b3 ho⟩⟩
end
theorem ev_W {most : Nat} (hm : most ≤ 1000000) : ∀ f, EvW most (ev most f)
 | 0 => fun c u t e r u' o h => by simp [ev] at h
 | f + 1 => by rw [ev_succ]; exact evStep_W (ev_W hm f) hm
inductive RTy (Q : Ty → Prop) : Res → Ty → Prop
 | num {n : Nat} : RTy Q (numR n) tNat
 | list {l : List Nat} : RTy Q (listR l) tList
 | pair {x y : Res} {a b : Ty} : RTy Q x a → RTy Q y b → RTy Q (pairR [x, y]) (tPair a b)
 | unit : RTy Q zeroR tUnit
 | clo {G : List Ty} {es : List Res} {b : Tm} {s t : Ty} (hl : es.length = G.length) (he : ∀ (i : Nat) (r : Res) (a : Ty), es[i]? = some r → G[i]? = some a → RTy Q r a) (hb : HasTy Q (G ++ [s]) b t) : RTy Q (cloR b es) (tFun s t)
def EnvTy (Q : Ty → Prop) (es : List Res) (G : List Ty) : Prop := es.length = G.length ∧ ∀ (i : Nat) (r : Res) (a : Ty), es[i]? = some r → G[i]? = some a → RTy Q r a
theorem EnvTy.snoc {Q : Ty → Prop} {es : List Res} {G : List Ty} {r : Res} {a : Ty} (h : EnvTy Q es G) (hr : RTy Q r a) : EnvTy Q (es ++ [r]) (G ++ [a]) := by
 refine ⟨by simp [h.1], fun i x b hx hb => ?_⟩
 by_cases hi : i < es.length
 ·rw [List.getElem?_append_left hi] at hx
  rw [List.getElem?_append_left (by rw [← h.1]; exact hi)] at hb
  exact h.2 i x b hx hb
 ·rw [List.getElem?_append_right (by omega)] at hx
  rw [List.getElem?_append_right (by rw [← h.1]; omega), ← h.1] at hb
  cases hj : i - es.length with
  | zero => rw [hj] at hx hb; simp at hx hb; subst hx; subst hb; exact hr
  | succ j => rw [hj] at hx; simp at hx
theorem len2 {α : Type} {l : List α} (h : l.length = 2) : ∃ x y, l = [x, y] := by
 match l, h with
 | [x, y], _ => exact ⟨x, y, rfl⟩
theorem len3 {α : Type} {l : List α} (h : l.length = 3) : ∃ x y z, l = [x, y, z] := by
 match l, h with
 | [x, y, z], _ => exact ⟨x, y, z, rfl⟩
def EvP (Q : Ty → Prop) (most : Nat) (N : Nat) (E : Evl) : Prop := ∀ u t e G s, N ≤ u → u ≤ most → HasTy Q G t s → EnvTy Q e G →
 ∃ r u' o, E u t e = some (r, u', o) ∧ u ≤ u' ∧ u' ≤ most ∧ (o = false → RTy Q r s)
section
variable {Q : Ty → Prop} {most N : Nat} {E : Evl} (hE : EvP Q most N E)
include hE
theorem evCall_P {u : Nat} {f a : Res} {s t : Ty} (hN : N ≤ u) (hu : u ≤ most) (hf : RTy Q f (tFun s t)) (ha : RTy Q a s) :
  ∃ r u' o, evCall E u f a = some (r, u', o) ∧ u ≤ u' ∧ u' ≤ most ∧ (o = false → RTy Q r t) := by
 cases hf with
 | clo hl he hb => exact hE u _ _ _ _ hN hu hb (EnvTy.snoc ⟨hl, he⟩ ha)
theorem evArgs_P {e : List Res} {G : List Ty} (he : EnvTy Q e G) : ∀ (l : List Tm) (ts : List Ty) (u : Nat), N ≤ u → u ≤ most → l.length = ts.length → (∀ (i : Nat) x a, l[i]? = some x → ts[i]? = some a → HasTy Q G x a) →
  ∃ l' u' o, evArgs E e u l = some (l', u', o) ∧ u ≤ u' ∧ u' ≤ most ∧ (o = false → l'.length = ts.length ∧ ∀ (i : Nat) r a, l'[i]? = some r → ts[i]? = some a → RTy Q r a)
 | [], ts, u, hN, hu, hl, h => by
  refine ⟨[], u, false, rfl, Nat.le_refl _, hu, fun _ => ⟨by simpa using hl, by simp⟩⟩
 | t :: l, [], u, hN, hu, hl, h => by simp at hl
 | t :: l, a :: ts, u, hN, hu, hl, h => by
  obtain ⟨r, u1, o1, h1, h2, h3, h4⟩ := hE u t e G a hN hu (h 0 t a rfl rfl) he
  rw [evArgs, h1]
  cases o1 with
  | true => exact ⟨_, _, _, rfl, h2, h3, fun h => by cases h⟩
  | false =>
   obtain ⟨l', u2, o2, g1, g2, g3, g4⟩ := evArgs_P he l ts u1 (by omega) h3 (by simpa using hl) (fun i x b hx hb => h (i + 1) x b (by simpa using hx) (by simpa using hb))
   simp only [g1]
   refine ⟨_, _, _, rfl, by omega, g3, fun ho => ?_⟩
   obtain ⟨g4, g5⟩ := g4 ho
   refine ⟨by simp [g4], fun i x b hx hb => ?_⟩
   cases i with
   | zero => simp at hx hb; subst hx; subst hb; exact h4 rfl
   | succ i => exact g5 i x b (by simpa using hx) (by simpa using hb)
theorem evRec_P {s : Res} {t : Ty} (hs : RTy Q s (tFun tNat (tFun t t))) : ∀ (n k u : Nat) (r : Res), N ≤ u → u ≤ most → RTy Q r t →
  ∃ r' u' o, evRec E s n k u r = some (r', u', o) ∧ u ≤ u' ∧ u' ≤ most ∧ (o = false → RTy Q r' t)
 | 0, k, u, r, hN, hu, hr => ⟨_, _, _, rfl, Nat.le_refl _, hu, fun _ => hr⟩
 | n + 1, k, u, r, hN, hu, hr => by
  obtain ⟨f, u1, o1, h1, h2, h3, h4⟩ := evCall_P hE hN hu hs (RTy.num (n := k))
  rw [evRec, h1]
  cases o1 with
  | true => exact ⟨_, _, _, rfl, h2, h3, fun h => by cases h⟩
  | false =>
   obtain ⟨r1, u2, o2, g1, g2, g3, g4⟩ := evCall_P hE (by omega) h3 (h4 rfl) hr
   simp only [g1]
   cases o2 with
   | true => exact ⟨_, _, _, rfl, by omega, g3, fun h => by cases h⟩
   | false =>
    obtain ⟨r2, u3, o3, k1, k2, k3, k4⟩ := evRec_P hs n (k + 1) u2 r1 (by omega) g3 (g4 rfl)
    exact ⟨_, _, _, k1, by omega, k3, k4⟩
theorem evFold_P {s : Res} {t : Ty} {l : List Nat} (hs : RTy Q s (tFun tNat (tFun tList (tFun t t)))) : ∀ (n u : Nat) (r : Res), N ≤ u → u ≤ most → RTy Q r t →
  ∃ r' u' o, evFold E s l n u r = some (r', u', o) ∧ u ≤ u' ∧ u' ≤ most ∧ (o = false → RTy Q r' t)
 | 0, u, r, hN, hu, hr => ⟨_, _, _, rfl, Nat.le_refl _, hu, fun _ => hr⟩
 | n + 1, u, r, hN, hu, hr => by
  obtain ⟨f, u1, o1, h1, h2, h3, h4⟩ := evCall_P hE hN hu hs (RTy.num (n := l.getD n 0))
  rw [evFold, h1]
  cases o1 with
  | true => exact ⟨_, _, _, rfl, h2, h3, fun h => by cases h⟩
  | false =>
   obtain ⟨f1, u2, o2, g1, g2, g3, g4⟩ := evCall_P hE (by omega) h3 (h4 rfl) (RTy.list (l := l.drop (n + 1)))
   simp only [g1]
   cases o2 with
   | true => exact ⟨_, _, _, rfl, by omega, g3, fun h => by cases h⟩
   | false =>
    obtain ⟨r1, u3, o3, g1, g5, g6, g7⟩ := evCall_P hE (by omega) g3 (g4 rfl) hr
    simp only [g1]
    cases o3 with
    | true => exact ⟨_, _, _, rfl, by omega, g6, fun h => by cases h⟩
    | false =>
     obtain ⟨r2, u4, o4, k1, k2, k3, k4⟩ := evFold_P hs n u3 r1 (by omega) g6 (g7 rfl)
     exact ⟨_, _, _, k1, by omega, k3, k4⟩
theorem evOf_P {k : Int} {ty s : Ty} {ts : List Ty} (hN : NodeTy Q k ty ts s) {u : Nat} {l : List Res} (hu0 : N ≤ u) (hu : u ≤ most) (hl : l.length = ts.length)
  (h : ∀ (i : Nat) r a, l[i]? = some r → ts[i]? = some a → RTy Q r a) : ∃ r u' o, evOf E k u l = some (r, u', o) ∧ u ≤ u' ∧ u' ≤ most ∧ (o = false → RTy Q r s) := by
 have l0 : ts.length = 0 → l = [] := fun h => by rw [h] at hl; exact List.length_eq_zero_iff.1 hl
 have l1 : ts.length = 1 → ∃ x, l = [x] := fun h => by rw [h] at hl; exact List.length_eq_one_iff.1 hl
 have l2 : ts.length = 2 → ∃ x y, l = [x, y] := fun h => by rw [h] at hl; exact len2 hl
 have l3 : ts.length = 3 → ∃ x y z, l = [x, y, z] := fun h => by rw [h] at hl; exact len3 hl
 cases hN with
 | app =>
  obtain ⟨x, y, rfl⟩ := l2 rfl
  simp only [evOf, BEq.rfl, if_true]
  exact evCall_P hE hu0 hu (h 0 x _ rfl rfl) (h 1 y _ rfl rfl)
 | zero => obtain rfl := l0 rfl; exact ⟨zeroR, u, false, by simp [evOf], Nat.le_refl _, hu, fun _ => .num⟩
 | succ =>
  obtain ⟨x, rfl⟩ := l1 rfl
  exact ⟨_, u, false, by simp [evOf] <;> rfl, Nat.le_refl _, hu, fun _ => .num⟩
 | recr =>
  obtain ⟨x, y, z, rfl⟩ := l3 rfl
  have e : evOf E 6 u [x, y, z] = evRec E y z.num 0 u x := by simp [evOf]
  rw [e]
  exact evRec_P hE (h 1 y _ rfl rfl) _ _ _ _ hu0 hu (h 0 x _ rfl rfl)
 | nil => obtain rfl := l0 rfl; exact ⟨zeroR, u, false, by simp [evOf], Nat.le_refl _, hu, fun _ => .list (l := [])⟩
 | cons =>
  obtain ⟨x, y, rfl⟩ := l2 rfl
  exact ⟨_, u, false, by simp [evOf] <;> rfl, Nat.le_refl _, hu, fun _ => .list⟩
 | fold =>
  obtain ⟨x, y, z, rfl⟩ := l3 rfl
  have e : evOf E 9 u [x, y, z] = evFold E y z.list z.list.length u x := by simp [evOf]
  rw [e]
  exact evFold_P hE (h 1 y _ rfl rfl) _ _ _ hu0 hu (h 0 x _ rfl rfl)
 | pair =>
  obtain ⟨x, y, rfl⟩ := l2 rfl
  exact ⟨_, u, false, by simp [evOf] <;> rfl, Nat.le_refl _, hu, fun _ => .pair (h 0 x _ rfl rfl) (h 1 y _ rfl rfl)⟩
 | fst =>
  obtain ⟨x, rfl⟩ := l1 rfl
  have hx := h 0 x _ rfl rfl
  cases hx with
  | pair ha hb => exact ⟨_, u, false, by simp [evOf, pairR, Res.pair] <;> rfl, Nat.le_refl _, hu, fun _ => ha⟩
 | snd =>
  obtain ⟨x, rfl⟩ := l1 rfl
  have hx := h 0 x _ rfl rfl
  cases hx with
  | pair ha hb => exact ⟨_, u, false, by simp [evOf, pairR, Res.pair] <;> rfl, Nat.le_refl _, hu, fun _ => hb⟩
 | unit => obtain rfl := l0 rfl; exact ⟨zeroR, u, false, by simp [evOf], Nat.le_refl _, hu, fun _ => .unit⟩
theorem evStep_P (hNm : 1 ≤ N) : EvP Q most (N - 1) (evStep most E) := by
 intro u t e G s hN hu ht he
 unfold evStep
 split
 ·exact ⟨_, _, _, rfl, Nat.le_refl _, hu, fun h => by cases h⟩
 rename_i hne
 have node : ∀ {k : Int} {ty : Ty} {l : List Tm} {ts : List Ty}, NodeTy Q k ty ts s → l.length = ts.length → (∀ (i : Nat) x a, l[i]? = some x → ts[i]? = some a → HasTy Q G x a) → (k == 1) = false → (k == 2) = false →
   ∃ r u' o, (if (tmT k ty l).kind == 1 then
     (if 0 ≤ (e.length : Int) - 1 - (tmT k ty l).index then (e[((e.length : Int) - 1 - (tmT k ty l).index).toNat]?).map fun r => (r, u + 1, false) else none)
    else if (tmT k ty l).kind == 2 then (match (tmT k ty l).args with | [b] => some (cloR b e, u + 1, false) | _ => none)
    else match evArgs E e (u + 1) (tmT k ty l).args with
     | none => none
     | some (_, u', true) => some (zeroR, u', true)
     | some (l2, u', false) => evOf E (tmT k ty l).kind u' l2) = some (r, u', o) ∧ u ≤ u' ∧ u' ≤ most ∧ (o = false → RTy Q r s) := by
  intro k ty l ts hT hl h k1 k2
  obtain ⟨l', u1, o1, g1, g2, g3, g4⟩ := evArgs_P hE he l ts (u + 1) (by omega) (by omega) hl h
  simp only [tmT, Tm.kind, Tm.args, k1, k2, Bool.false_eq_true, if_false, g1]
  cases o1 with
  | true => exact ⟨_, _, _, rfl, by omega, g3, fun h => by cases h⟩
  | false =>
   obtain ⟨g4, g5⟩ := g4 rfl
   obtain ⟨r, u', o, k1, k2, k3, k4⟩ := evOf_P hE hT (by omega) g3 g4 g5
   exact ⟨r, u', o, k1, by omega, k3, k4⟩
 have nk : ∀ {k : Int} {ty : Ty} {ts : List Ty}, NodeTy Q k ty ts s → (k == 1) = false ∧ (k == 2) = false := by
  intro k ty ts h; cases h <;> exact ⟨rfl, rfl⟩
 cases ht with
 | @var _ i _ hi hg =>
  have hel := he.1
  have e1 : ((e.length : Int) - 1 - (i : Int)).toNat = G.length - 1 - i := by omega
  have h0 : 0 ≤ (e.length : Int) - 1 - (i : Int) := by omega
  obtain ⟨r, hr⟩ : ∃ r, e[G.length - 1 - i]? = some r := ⟨_, List.getElem?_eq_getElem (by omega)⟩
  refine ⟨r, u + 1, false, ?_, by omega, by omega, fun _ => he.2 _ r s hr hg⟩
  simp only [tmVar, Tm.kind, Tm.index, BEq.rfl, if_true, if_pos h0, e1, hr, Option.map_some]
 | @lam _ a b t hq hb =>
  exact ⟨cloR t e, u + 1, false, by simp [tmT, Tm.kind, Tm.args], by omega, by omega, fun _ => .clo he.1 he.2 hb⟩
 | n0 hT => exact node hT rfl (by simp) (nk hT).1 (nk hT).2
 | n1 hT h1 =>
  refine node hT rfl (fun i x a hx ha => ?_) (nk hT).1 (nk hT).2
  match i with
  | 0 => simp at hx ha; subst hx; subst ha; exact h1
  | i + 1 => simp at hx
 | n2 hT h1 h2 =>
  refine node hT rfl (fun i x a hx ha => ?_) (nk hT).1 (nk hT).2
  match i with
  | 0 => simp at hx ha; subst hx; subst ha; exact h1
  | 1 => simp at hx ha; subst hx; subst ha; exact h2
  | i + 2 => simp at hx
 | n3 hT h1 h2 h3 =>
  refine node hT rfl (fun i x a hx ha => ?_) (nk hT).1 (nk hT).2
  match i with
  | 0 => simp at hx ha; subst hx; subst ha; exact h1
  | 1 => simp at hx ha; subst hx; subst ha; exact h2
  | 2 => simp at hx ha; subst hx; subst ha; exact h3
  | i + 3 => simp at hx
end
theorem ev_P {Q : Ty → Prop} {most : Nat} : ∀ f, EvP Q most (most + 1 - f) (ev most f)
 | 0 => fun u t e G s hN hu => by omega
 | f + 1 => by
  rw [ev_succ, show most + 1 - (f + 1) = most + 1 - f - 1 by omega]
  by_cases h : 1 ≤ most + 1 - f
  ·exact evStep_P (ev_P f) h
  ·intro u t e G s hN hu ht he
   have := evStep_P (N := 1) (fun u t e G s hN hu ht he => ev_P f u t e G s (by omega) hu ht he) (Nat.le_refl _) u t e G s (by omega) hu ht he
   exact this
theorem HasTy.least {g : List Ty} {t : Tm} {s : Ty} (h : HasTy TyG g t s) : ∀ M : Int, 1 ≤ M → (g.length : Int) + tmSz t ≤ M → t.least M = true := by
 induction h with
 | var hi h => intro M hM hb; rw [tmSz_v] at hb; exact least_v (by omega)
 | lam hG _ ih => intro M hM hb; rw [tmSz_T1] at hb; exact least_T1 hM (ih M hM (by simp; omega))
 | n0 hN => intro M hM hb; exact least_mk (by omega) (by simp)
 | n1 hN _ ih => intro M hM hb; rw [tmSz_T1] at hb; exact least_T1 hM (ih M hM (by omega))
 | n2 hN _ _ ih1 ih2 => intro M hM hb; rw [tmSz_T2] at hb; exact least_mk (by omega) (by simp [ih1 M hM (by omega), ih2 M hM (by omega)])
 | n3 hN _ _ _ ih1 ih2 ih3 => intro M hM hb; rw [tmSz_T3] at hb; exact least_T3 hM (ih1 M hM (by omega)) (ih2 M hM (by omega)) (ih3 M hM (by omega))
end GoAbs
