/-
 Walks: the machine of the program: evaluation, whole (the step).
-/
import Derived.Test.YtenelbgbjmijiaaGreatDoorNh
set_option linter.unusedSimpArgs false
set_option linter.unusedVariables false
set_option maxRecDepth 20000
set_option maxHeartbeats 4000000
namespace Go.Proofs.YtenelbgbjmijiaaGreatDoor
open Go GoAbs Go.Proofs
section
variable {most : Nat} {E : Evl} (hE : EvW most E) (hC : EvC2 most E) {d : GoAbs.Id}
include hE hC
theorem evOf_C2 (hm : most ≤ 65536) {c u u1 u' : Nat} {k : Int} {ty s : Ty} {ts : List Ty} {t : Tm} {ve : V} {l : List Res} {vs : List V} {r : Res} {o : Bool} (hT : NodeTy TyG k ty ts s) (hk : t.kind = k) (h : evOf E k u1 l = some (r, u', o))
  (hu : u < most) (hu1 : u1 ≤ most) (hc : c + 1 ≤ u1) (hI : IsE ve) (hr : ∀ x ∈ l, ResW (u1 - c - 1) x) (hl : l.length = ts.length) (hlv : vs.length = ts.length)
  (hV : ∀ (i : Nat) r v a, l[i]? = some r → vs[i]? = some v → ts[i]? = some a → ThV kt a r v)
  (hA : Turns Tryz.prog env 275 [.ptr d 0, .sl .any (t.args.map Tm.cells), ve] d (mb (u + 1) most) (.tup [.agg (pad3 vs), .bool true]) (mb u1 most)) :
  ∃ v, EvT2 d most u u' o t ve v ∧ (o = false → ThV kt s r v) := by
 have l0 : ts.length = 0 → l = [] ∧ vs = [] := fun h => by rw [h] at hl hlv; exact ⟨List.length_eq_zero_iff.1 hl, List.length_eq_zero_iff.1 hlv⟩
 have l1 : ts.length = 1 → ∃ x v, l = [x] ∧ vs = [v] := fun h => by
  rw [h] at hl hlv
  obtain ⟨x, h1⟩ := List.length_eq_one_iff.1 hl
  obtain ⟨v, h2⟩ := List.length_eq_one_iff.1 hlv
  exact ⟨x, v, h1, h2⟩
 have l2 : ts.length = 2 → ∃ x y v w, l = [x, y] ∧ vs = [v, w] := fun h => by
  rw [h] at hl hlv
  obtain ⟨x, y, h1⟩ := len2 hl
  obtain ⟨v, w, h2⟩ := len2 hlv
  exact ⟨x, y, v, w, h1, h2⟩
 have l3 : ts.length = 3 → ∃ x y z v w q, l = [x, y, z] ∧ vs = [v, w, q] := fun h => by
  rw [h] at hl hlv
  obtain ⟨x, y, z, h1⟩ := len3 hl
  obtain ⟨v, w, q, h2⟩ := len3 hlv
  exact ⟨x, y, z, v, w, q, h1, h2⟩
 cases hT with
 | app =>
  obtain ⟨x, y, v, w, rfl, rfl⟩ := l2 rfl
  simp only [evOf, BEq.rfl, if_true] at h
  have tx := hV 0 x v _ rfl rfl rfl
  have ty := hV 1 y w _ rfl rfl rfl
  obtain ⟨b, be, q, g1, g2, g3, g4, _⟩ := evCall_C2 hE hC (d := d) h hc hu1 (hr x (by simp)) (hr y (by simp)) tx ty
  refine ⟨q, c_ev3 (c := .nili) hu hm hk hI tx.isI ty.isI hA (fun ho => (g4 ho).isI) ?_, g4⟩
  subst g1
  cases o with
  | true => exact c_callS' (l := [w]) (.stop g3 ty.isI g2) (by simp) (fun e => by cases e) tx.isI
  | false => exact c_callS' (l := [w]) (.step g3 ty.isI g2 (g4 rfl).wk .nil) (by simp) (fun _ => (g4 rfl).isI) tx.isI
 | zero =>
  obtain ⟨rfl, rfl⟩ := l0 rfl
  simp [evOf] at h
  obtain ⟨rfl, rfl, rfl⟩ := h
  exact ⟨_, c_ev4 (w := .nili) (a := .nili) (b := .nili) (c := .nili) hu hm hk hI hA, fun _ => .num⟩
 | succ =>
  obtain ⟨x, v, rfl, rfl⟩ := l1 rfl
  simp [evOf] at h
  obtain ⟨rfl, rfl, rfl⟩ := h
  have tx := hV 0 x v _ rfl rfl rfl
  have hn := (hr x (by simp)).n1
  cases tx with
  | num => exact ⟨_, c_ev5 (w := .nili) (a := .nili) (b := .nili) (c := .nili) hu hm hk hI hA (by simp only [numR, Res.num] at hn; omega), fun _ => .num⟩
 | recr =>
  obtain ⟨x, y, z, v, w, q, rfl, rfl⟩ := l3 rfl
  have e : evOf E 6 u1 [x, y, z] = evRec E y z.num 0 u1 x := by simp [evOf]
  rw [e] at h
  have tx := hV 0 x v _ rfl rfl rfl
  have ty := hV 1 y w _ rfl rfl rfl
  have tz := hV 2 z q _ rfl rfl rfl
  have hn := (hr z (by simp)).n1
  obtain ⟨p, g1, g2⟩ := evRec_C2 hE hC (d := d) ty h hc hu1 (by omega) (hr y (by simp)) (hr x (by simp)) tx
  refine ⟨p, c_ev6 hu hm hk hI tx.isI ty.isI tz.isI hA (fun ho => (g2 ho).isI) ?_, g2⟩
  cases tz with
  | num =>
   simp only [numR, Res.num] at g1 hn
   exact c_recS g1 tx.isI ty.isI (by omega)
 | nil =>
  obtain ⟨rfl, rfl⟩ := l0 rfl
  simp [evOf] at h
  obtain ⟨rfl, rfl, rfl⟩ := h
  exact ⟨_, c_ev7 (w := .nili) (a := .nili) (b := .nili) (c := .nili) hu hm hk hI hA, fun _ => .list (l := [])⟩
 | cons =>
  obtain ⟨x, y, v, w, rfl, rfl⟩ := l2 rfl
  simp [evOf] at h
  obtain ⟨rfl, rfl, rfl⟩ := h
  have tx := hV 0 x v _ rfl rfl rfl
  have ty := hV 1 y w _ rfl rfl rfl
  cases tx with
  | num =>
   cases ty with
   | list => exact ⟨_, c_ev8 (w := .nili) (a := .nili) (b := .nili) (c := .nili) hu hm hk hI hA, fun _ => .list⟩
 | fold =>
  obtain ⟨x, y, z, v, w, q, rfl, rfl⟩ := l3 rfl
  have e : evOf E 9 u1 [x, y, z] = evFold E y z.list z.list.length u1 x := by simp [evOf]
  rw [e] at h
  have tx := hV 0 x v _ rfl rfl rfl
  have ty := hV 1 y w _ rfl rfl rfl
  have tz := hV 2 z q _ rfl rfl rfl
  have hz := hr z (by simp)
  have hn := hz.ll
  obtain ⟨p, g1, g2⟩ := evFold_C2 hE hC (d := d) ty h hc hu1 (Nat.le_refl _) hn hz.ls (hr y (by simp)) (hr x (by simp)) tx
  refine ⟨p, c_ev9 hu hm hk hI tx.isI ty.isI tz.isI hA (fun ho => (g2 ho).isI) ?_, g2⟩
  cases tz with
  | list =>
   simp only [listR, Res.list] at g1 hn
   exact c_foldS g1 tx.isI ty.isI (by omega)
 | pair hq =>
  obtain ⟨x, y, v, w, rfl, rfl⟩ := l2 rfl
  simp [evOf] at h
  obtain ⟨rfl, rfl, rfl⟩ := h
  have tx := hV 0 x v _ rfl rfl rfl
  have ty := hV 1 y w _ rfl rfl rfl
  exact ⟨_, c_ev10 (w := .nili) (c := .nili) hu hm hk hI tx.isI ty.isI hA, fun _ => .pair tx ty⟩
 | fst =>
  obtain ⟨x, v, rfl, rfl⟩ := l1 rfl
  have tx := hV 0 x v _ rfl rfl rfl
  cases tx with
  | pair t1 t2 =>
   simp [evOf, pairR, Res.pair] at h
   obtain ⟨rfl, rfl, rfl⟩ := h
   exact ⟨_, c_ev11 (w := .nili) (c := .nili) hu hm hk hI t1.isI t2.isI hA, fun _ => t1⟩
 | snd =>
  obtain ⟨x, v, rfl, rfl⟩ := l1 rfl
  have tx := hV 0 x v _ rfl rfl rfl
  cases tx with
  | pair t1 t2 =>
   simp [evOf, pairR, Res.pair] at h
   obtain ⟨rfl, rfl, rfl⟩ := h
   exact ⟨_, c_ev12 (w := .nili) (c := .nili) hu hm hk hI t1.isI t2.isI hA, fun _ => t2⟩
 | unit =>
  obtain ⟨rfl, rfl⟩ := l0 rfl
  simp [evOf] at h
  obtain ⟨rfl, rfl, rfl⟩ := h
  exact ⟨_, c_ev13 (w := .nili) (a := .nili) (b := .nili) (c := .nili) hu hm hk hI hA, fun _ => .unit⟩
theorem evStep_C2 (hm : most ≤ 65536) : EvC2 most (evStep most E) := by
 intro d c u t e ve G s r u' o h hc hu ht hel he hty hve
 unfold evStep at h
 split at h
 ·simp only [Option.some.injEq, Prod.mk.injEq] at h
  obtain ⟨rfl, rfl, rfl⟩ := h
  rename_i hum
  subst hum
  exact ⟨.nili, c_evLim, fun e => by cases e⟩
 rename_i hne
 have hlt : u < most := by omega
 have node : ∀ {k : Int} {ty : Ty} {l : List Tm} {ts : List Ty}, t = tmT k ty l → NodeTy TyG k ty ts s → l.length = ts.length → l.length ≤ 3 → (∀ (i : Nat) x a, l[i]? = some x → ts[i]? = some a → HasTy TyG G x a) → (k == 1) = false → (k == 2) = false →
   ∃ v, EvT2 d most u u' o t ve v ∧ (o = false → ThV kt s r v) := by
  intro k ty l ts et hT hl h3 hx k1 k2
  have hk : t.kind = k := by rw [et]; rfl
  have ha : t.args = l := by rw [et]; rfl
  have htl : ∀ x ∈ l, TmW x := fun x hx => ht.arg (by rw [ha]; exact hx)
  rw [hk, ha] at h
  simp only [k1, k2, Bool.false_eq_true, if_false] at h
  cases h1 : evArgs E e (u + 1) l with
  | none => rw [h1] at h; cases h
  | some p =>
   obtain ⟨l', u1, o1⟩ := p
   obtain ⟨a1, a2, a3⟩ := evArgs_W (c := c + 1) hE h1 (by omega) (by omega) htl (by omega) (fun x hx => (he x hx).up (by omega))
   obtain ⟨vs, q1, q2, q3, q4, q5⟩ := evArgs_C2 hE hC (d := d) hve (c := c + 1) h1 (by omega) (by omega) htl (by omega) (fun x hx => (he x hx).up (by omega)) hl hx
   have hA := c_allS q1 h3 hve.isE
   rw [h1] at h
   rw [← ha] at hA
   cases o1 with
   | true =>
    simp only [Option.some.injEq, Prod.mk.injEq] at h
    obtain ⟨rfl, rfl, rfl⟩ := h
    exact ⟨.nili, c_evStop hlt hm (by rw [hk]; exact k1) (by rw [hk]; exact k2) hve.isE (by have := q3 rfl; omega) q4 hA, fun e => by cases e⟩
   | false =>
    simp only at h
    obtain ⟨p1, p2, p3⟩ := q5 rfl
    obtain ⟨a3, a4, a5⟩ := a3 rfl
    exact evOf_C2 hE hC hm (c := c) hT hk h hlt a2 (by omega) hve.isE (fun x hx => (a5 x hx).up (by omega)) (by omega) (by omega) p3 hA
 have nk : ∀ {k : Int} {ty : Ty} {ts : List Ty}, NodeTy TyG k ty ts s → (k == 1) = false ∧ (k == 2) = false := by
  intro k ty ts h; cases h <;> exact ⟨rfl, rfl⟩
 cases hty with
 | @var _ i _ hi hg =>
  clear node nk
  have hlen := hve.len
  have e1 : ((e.length : Int) - 1 - (i : Int)).toNat = e.length - 1 - i := by omega
  have h0 : 0 ≤ (e.length : Int) - 1 - (i : Int) := by omega
  simp only [tmVar, Tm.kind, Tm.index, BEq.rfl, if_true, if_pos h0, e1] at h
  obtain ⟨v, a, r1, g1, g2, g3, g4, g5⟩ := hve.get i (by omega)
  rw [g2] at h
  simp only [Option.map_some, Option.some.injEq, Prod.mk.injEq] at h
  obtain ⟨rfl, rfl, rfl⟩ := h
  rw [hlen] at g3
  rw [g3] at hg
  cases hg
  exact ⟨v, c_evVar hlt hm rfl rfl g4.isI (c_envAt i (by omega) g1 g4.wk (fun S => g4.ins)) hve.isE, fun _ => g4⟩
 | @lam _ a b b0 hq hb =>
  clear node nk
  simp only [tmT, Tm.kind, Tm.args] at h
  simp at h
  obtain ⟨rfl, rfl, rfl⟩ := h
  exact ⟨_, c_evLam hlt hm rfl rfl hve.isE, fun _ => .clo hve hb⟩
 | n0 hT => exact node rfl hT rfl (by simp) (by simp) (nk hT).1 (nk hT).2
 | n1 hT h1 =>
  refine node rfl hT rfl (by simp) (fun i x a hx ha => ?_) (nk hT).1 (nk hT).2
  match i with
  | 0 => simp at hx ha; subst hx; subst ha; exact h1
  | i + 1 => simp at hx
 | n2 hT h1 h2 =>
  refine node rfl hT rfl (by simp) (fun i x a hx ha => ?_) (nk hT).1 (nk hT).2
  match i with
  | 0 => simp at hx ha; subst hx; subst ha; exact h1
  | 1 => simp at hx ha; subst hx; subst ha; exact h2
  | i + 2 => simp at hx
 | n3 hT h1 h2 h3 =>
  refine node rfl hT rfl (by simp) (fun i x a hx ha => ?_) (nk hT).1 (nk hT).2
  match i with
  | 0 => simp at hx ha; subst hx; subst ha; exact h1
  | 1 => simp at hx ha; subst hx; subst ha; exact h2
  | 2 => simp at hx ha; subst hx; subst ha; exact h3
  | i + 3 => simp at hx
end
theorem ev_C2 {most : Nat} (hm : most ≤ 65536) : ∀ f, EvC2 most (ev most f)
 | 0 => fun d c u t e ve G s r u' o h => by simp [ev] at h
 | f + 1 => by rw [ev_succ]; exact evStep_C2 (ev_W (by omega) f) (ev_C2 hm f) hm
end Go.Proofs.YtenelbgbjmijiaaGreatDoor
