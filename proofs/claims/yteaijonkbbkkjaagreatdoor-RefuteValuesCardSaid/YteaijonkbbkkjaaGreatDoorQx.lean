/-
 Walks: the search, at a made universal formula.
-/
import Derived.Test.YteaijonkbbkkjaaGreatDoorQv
import Derived.Test.YteaijonkbbkkjaaGreatDoorQf
import Derived.Test.YteaijonkbbkkjaaGreatDoorGn
import Derived.Test.YteaijonkbbkkjaaGreatDoorMc
import Derived.Test.YteaijonkbbkkjaaGreatDoorMb
import Derived.Test.YteaijonkbbkkjaaGreatDoorAbsD
import Derived.Test.YteaijonkbbkkjaaGreatDoorMa
import Derived.Test.YteaijonkbbkkjaaGreatDoorGa
import Derived.Test.YteaijonkbbkkjaaGreatDoorAbsDd
set_option linter.unusedSimpArgs false
set_option linter.unusedVariables false
set_option maxRecDepth 20000
set_option maxHeartbeats 4000000
namespace Go.Proofs.YteaijonkbbkkjaaGreatDoor
open Go GoAbs Go.Proofs
theorem c_claim21 {g k : List Ty} {f b : Fm} (h : Front g f k b) : Pure Tryz.prog env 41 [.agg (allF g f).cells] (.tup [.agg (claimC k b), .int .i64 0]) := by
 have he := h.good.err0 (show fmSz (allF g f) ≤ 4096 by have := h.size; omega)
 have h1 := c_formulaTyped [] (by simp) (by simp) (allF g f) h.ty he (by have := h.size; omega) h.good.toW
 have h2 := c_Universal (allF g f) h.good.toW he (by have := h.size; omega)
 rw [h.univ] at h2
 have gb := h.dc.G (u := true)
 have h3 := c_clsDecidable b gb.toW
 have e : b.has 4 = (true, 0) := by
  unfold Fm.has
  rw [gb.err0 (by have := h.sz; omega), h.dc.fld (by have := h.len; have := h.sz; omega)]
  rfl
 rw [e] at h3
 unfold boolErrV at h3
 exact c_claimOf h1 h2 h3
theorem tried_of {k : List Ty} {b : Fm} {T : List PVl → List Tm} {l : List PVl} (h : IsVls k l (T l)) (hk : k.length ≤ 3) (db : Dc k b) (zb : fmSz b ≤ 4096) : Tried b (holdsT b T) l := by
 refine ⟨by have := h.len.1; omega, fun w hw => c_decHolds h (by omega) db zb w hw, fun w hw => ?_, fun v hv => ?_⟩
 ·generalize ha : holdsT b T l w = a at hw
  obtain ⟨bo, u, e⟩ := a
  simp only at hw
  subst hw
  exact ((holdsT_ok h (by omega) db zb).up w bo u w ha (Nat.le_refl _)).1
 ·obtain ⟨i, hi⟩ := List.mem_iff_getElem?.1 hv
  obtain ⟨a, v', t, q1, q2, q3, q4, q5, q6⟩ := h.at i (by have := (List.getElem?_eq_some_iff.1 hi).1; have := h.len.1; omega)
  rw [hi] at q2
  cases q2
  exact c_own v (q4.W q6)
theorem c_find21 {g k : List Ty} {f b : Fm} (h : Front g f k b) {T : List PVl → List Tm} {bd m w : Nat} (hT : ∀ l ∈ tries bd m k, IsVls k l (T l)) (hb : bd ≤ 16) (hm : m ≤ 65536) (hw : w ≤ 65536) :
  Pure Tryz.prog env 16 [.agg (allF g f).cells, .int .i64 bd, .int .i64 m, .int .i64 w] (findV (findR (holdsT b T) (tries bd m k) w)) := by
 have hl := h.len
 have hz := h.sz
 refine c_Find (c_claim21 h) (fun t ht => c_rfLook (h.plain t ht) hb hm) (by omega) hw ?_ ?_ fun l hl' => tried_of (hT l hl') hl h.dc (by omega)
 ·exact c_lines bd m (fun S => by simp [InLL]) (fun S => by simp only [go_sem, *]) rfl (weakLL_Ty k)
 ·exact it_lines (b := bd) (m := m) (by omega) hm k [] (fun t ht => (h.plain t ht).plT) (by simp; omega)
theorem c_sane21 : Pure Tryz.prog env 7 [] (.bool true) := by
 have dq : Dc [tNat] (fmEq (tmVar 0) (numT 0)) := .eq v0_G (numT_G 0) (show HasTy TyG ([] ++ [tNat]) (tmVar 0) tNat from .v0) (HasTy.num 0)
 have zq : fmSz (fmEq (tmVar 0) (numT 0)) ≤ 300 := by rw [fmSz_eq, tmSz_v, tmSz_num]; omega
 have hp : ∀ y ∈ [tNat], PlainTy y := by simp; exact .inl rfl
 have hF : Front [tNat] (fmEq (tmVar 0) (numT 0)) [tNat] (fmEq (tmVar 0) (numT 0)) := by
  refine ⟨by rw [allF_uni, Fm.univ_n rfl]; rfl, dq, zq, hp, by simp, allF_ty [tNat] [] (fun y hy => (hp y hy).G) dq.ty, allF_G (fun y hy => (hp y hy).G) dq.G, by rw [allF_sz]; simp; omega⟩
 have ht : tries 3 10 [tNat] = [[numP 0], [numP 1], [numP 2]] := rfl
 have hT : ∀ l ∈ tries 3 10 [tNat], IsVls [tNat] l ((fun l : List PVl => l.map fun v => numT v.num.toNat) l) := by
  rw [ht]
  intro l hl
  simp only [List.mem_cons, List.not_mem_nil, or_false] at hl
  have key : ∀ n : Nat, n ≤ 2 → IsVls [tNat] [numP n] [numT n] := fun n hn => .snoc (g := []) (l := []) (ts := []) .nil (.num n) TyG.nat (by rw [tmSz_num]; omega)
  rcases hl with rfl | rfl | rfl
  ·exact key 0 (by omega)
  ·exact key 1 (by omega)
  ·exact key 2 (by omega)
 have h1 := c_find21 hF hT (bd := 3) (m := 10) (w := 1000) (by omega) (by omega) (by omega)
 rw [show findR (holdsT (fmEq (tmVar 0) (numT 0)) (fun l : List PVl => l.map fun v => numT v.num.toNat)) (tries 3 10 [tNat]) 1000 = (some [numP 1], 0) by kernel_rfl] at h1
 have h2 := c_Num 0 (by omega)
 replace h2 : Pure Tryz.prog env 29 [.int .i64 0] (.agg (numT 0).cells) := h2
 have h3 := c_refNat
 have h4 := c_Var 0
 have h5 := c_Eq (tmVar 0) (numT 0) (tmVar_W 0) (numT_W 0)
 have h6 := c_fmQ 4 tNat (fmEq (tmVar 0) (numT 0)) tNat_W (fmEq_W (tmVar_W 0) (numT_W 0))
 replace h1 : Pure Tryz.prog env 16 [.agg (fmQ 4 tNat (fmEq (tmVar 0) (numT 0))).cells, .int .i64 3, .int .i64 10, .int .i64 1000] (.tup [.sl .any [[.int .i64 1, .int .i64 1, .sl .any [], .sl .any []]], .bool true, .int .i64 0]) := by
  have e : ([numP 1] : List PVl).map PVl.cells = [[.int .i64 1, .int .i64 1, .sl .any [], .sl .any []]] := by simp [numP, PVl.mk_cells, ints]
  unfold findV at h1
  simp only [Option.getD_some, Option.isSome_some, e] at h1
  exact h1
 clear hF hT ht dq zq hp
 generalize fmQ 4 tNat (fmEq (tmVar 0) (numT 0)) = q at *
 generalize fmEq (tmVar 0) (numT 0) = q0 at *
 generalize numT 0 = t0 at *
 have m1 : (((1 : Nat) : Int) == 1) = true := rfl
 have m2 : ((1 : Int) == 1) = true := rfl
 have m3 : ((0 : Int) == 0) = true := rfl
 have m4 : (0 : Int) < ((1 : Nat) : Int) := by omega
 intro h
 exact ek_ Tryz.func7 [.tmp 0]
end Go.Proofs.YteaijonkbbkkjaaGreatDoor
