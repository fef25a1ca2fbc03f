/-
 Walks: the machine of the program: evaluation, whole.
-/
import Derived.Test.YtenelbgbjmijiaaGreatDoorNe
import Derived.Test.YtenelbgbjmijiaaGreatDoorNg
import Derived.Test.YtenelbgbjmijiaaGreatDoorAbsDb
set_option linter.unusedSimpArgs false
set_option linter.unusedVariables false
set_option maxRecDepth 20000
set_option maxHeartbeats 4000000
namespace Go.Proofs.YtenelbgbjmijiaaGreatDoor
open Go GoAbs Go.Proofs
def EvC2 (most : Nat) (E : Evl) : Prop := ∀ (d : GoAbs.Id) (c u : Nat) (t : Tm) (e : List Res) (ve : V) (G : List Ty) (s : Ty) (r : Res) (u' : Nat) (o : Bool), E u t e = some (r, u', o) → c ≤ u → u ≤ most → TmW t →
 e.length ≤ u - c → (∀ x ∈ e, ResW (u - c) x) → HasTy TyG G t s → EnvV kt G e ve → ∃ v, EvT2 d most u u' o t ve v ∧ (o = false → ThV kt s r v)
theorem intI (n : Nat) : IsI (intV n) := (ThV.num (K := kt) (n := n)).isI
theorem cellII (l : List Nat) : IsI (cellI l) := (ThV.list (K := kt) (l := l)).isI
section
variable {most : Nat} {E : Evl} (hE : EvW most E) (hC : EvC2 most E) {d : GoAbs.Id}
include hE hC
theorem evCall_C2 {c u u' : Nat} {f a r : Res} {o : Bool} {s t : Ty} {fv av : V} (h : evCall E u f a = some (r, u', o)) (hc : c + 1 ≤ u) (hu : u ≤ most) (hf : ResW (u - c - 1) f) (ha : ResW (u - c - 1) a)
  (tf : ThV kt (tFun s t) f fv) (ta : ThV kt s a av) : ∃ b ve v, fv = cloV b ve ∧ IsE ve ∧ EvT2 d most u u' o b (.el [av, ve] 0) v ∧ (o = false → ThV kt t r v) ∧ u ≤ u' ∧ u' ≤ most ∧ (o = false → u < u' ∧ ResW (u' - c - 1) r) := by
 have hW := evCall_W hE h hc hu hf ha
 cases tf with
 | clo he hb =>
  rename_i g b e ve
  have hel := hf.el
  simp only [cloR, Res.env] at hel
  obtain ⟨v, h1, h2⟩ := hC d c u b (e ++ [a]) (.el [av, ve] 0) _ _ r u' o h (by omega) hu hf.bd (by simp; omega) (fun x hx => by
   rcases List.mem_append.1 hx with hx | hx
   ·exact (hf.es x hx).up (by omega)
   ·simp at hx; subst hx; exact ha.up (by omega)) hb (.snoc he ta)
  exact ⟨b, ve, v, rfl, he.isE, h1, h2, hW⟩
theorem evArgs_C2 {e : List Res} {G : List Ty} {ve : V} (hve : EnvV kt G e ve) : ∀ {l : List Tm} {ts : List Ty} {c u u' : Nat} {l' : List Res} {o : Bool}, evArgs E e u l = some (l', u', o) → c ≤ u → u ≤ most → (∀ t ∈ l, TmW t) →
  e.length ≤ u - c → (∀ x ∈ e, ResW (u - c) x) → l.length = ts.length → (∀ (i : Nat) x a, l[i]? = some x → ts[i]? = some a → HasTy TyG G x a) →
  ∃ vs, AllS d most ve u l u' o vs ∧ vs.length ≤ l.length ∧ (o = true → vs.length < l.length) ∧ (∀ v ∈ vs, IsI v) ∧
   (o = false → vs.length = l.length ∧ l'.length = l.length ∧ ∀ (i : Nat) r v a, l'[i]? = some r → vs[i]? = some v → ts[i]? = some a → ThV kt a r v)
 | [], ts, c, u, u', l', o, h, hc, hu, ht, hel, he, hl, hty => by
  simp only [evArgs, Option.some.injEq, Prod.mk.injEq] at h
  obtain ⟨rfl, rfl, rfl⟩ := h
  exact ⟨[], .nil, by simp, (fun e => by cases e), by simp, fun _ => ⟨rfl, rfl, by simp⟩⟩
 | t :: l, [], c, u, u', l', o, h, hc, hu, ht, hel, he, hl, hty => by simp at hl
 | t :: l, a :: ts, c, u, u', l', o, h, hc, hu, ht, hel, he, hl, hty => by
  rw [evArgs] at h
  cases h1 : E u t e with
  | none => rw [h1] at h; cases h
  | some p =>
   obtain ⟨r, u1, o1⟩ := p
   obtain ⟨w1, w2, w3⟩ := hE c u t e r u1 o1 h1 hc hu (ht t (by simp)) hel he
   obtain ⟨v, c1, c2⟩ := hC d c u t e ve G a r u1 o1 h1 hc hu (ht t (by simp)) hel he (hty 0 t a rfl rfl) hve
   rw [h1] at h
   cases o1 with
   | true =>
    simp only [Option.some.injEq, Prod.mk.injEq] at h
    obtain ⟨rfl, rfl, rfl⟩ := h
    exact ⟨[], .stop c1, by simp, (fun _ => by simp), by simp, fun e => by cases e⟩
   | false =>
    simp only at h
    cases h2 : evArgs E e u1 l with
    | none => rw [h2] at h; cases h
    | some q =>
     obtain ⟨l2, u2, o2⟩ := q
     rw [h2] at h
     simp only [Option.some.injEq, Prod.mk.injEq] at h
     obtain ⟨rfl, rfl, rfl⟩ := h
     obtain ⟨w3, w4⟩ := w3 rfl
     have tv := c2 rfl
     obtain ⟨vs, q1, q2, q3, q4, q5⟩ := evArgs_C2 hve h2 (by omega : c ≤ u1) w2 (fun x hx => ht x (by simp [hx])) (by omega) (fun x hx => (he x hx).up (by omega)) (by simpa using hl)
      (fun i x b hx hb => hty (i + 1) x b (by simpa using hx) (by simpa using hb))
     refine ⟨v :: vs, .step c1 tv.isI q1, by simp; omega, (fun e => by have := q3 e; simp; omega), ?_, fun ho => ?_⟩
     ·intro x hx
      rcases List.mem_cons.1 hx with rfl | hx
      ·exact tv.isI
      ·exact q4 x hx
     ·obtain ⟨p1, p2, p3⟩ := q5 ho
      refine ⟨by simp [p1], by simp [p2], fun i r' v' a' hr hv ha => ?_⟩
      cases i with
      | zero => simp at hr hv ha; subst hr; subst hv; subst ha; exact tv
      | succ i => exact p3 i r' v' a' (by simpa using hr) (by simpa using hv) (by simpa using ha)
theorem evRec_C2 {c : Nat} {s : Res} {sv : V} {t : Ty} (ts : ThV kt (tFun tNat (tFun t t)) s sv) : ∀ {n k u u' : Nat} {r r' : Res} {o : Bool} {rv : V}, evRec E s n k u r = some (r', u', o) → c + 1 ≤ u → u ≤ most → k + n ≤ u - c - 1 →
  ResW (u - c - 1) s → ResW (u - c - 1) r → ThV kt t r rv → ∃ w, RecS d most sv k n u rv u' o w ∧ (o = false → ThV kt t r' w)
 | 0, k, u, u', r, r', o, rv, h, hc, hu, hk, hs, hr, tr => by
  simp only [evRec, Option.some.injEq, Prod.mk.injEq] at h
  obtain ⟨rfl, rfl, rfl⟩ := h
  exact ⟨rv, .nil, fun _ => tr⟩
 | n + 1, k, u, u', r, r', o, rv, h, hc, hu, hk, hs, hr, tr => by
  rw [evRec] at h
  cases h1 : evCall E u s (numR k) with
  | none => rw [h1] at h; cases h
  | some p =>
   obtain ⟨f, u1, o1⟩ := p
   obtain ⟨b, ve, v, e1, e2, e3, e4, e5, e6, e7⟩ := evCall_C2 hE hC (d := d) h1 hc hu hs (ResW.num (by omega)) ts (ThV.num (n := k))
   subst e1
   rw [h1] at h
   cases o1 with
   | true =>
    simp only [Option.some.injEq, Prod.mk.injEq] at h
    obtain ⟨rfl, rfl, rfl⟩ := h
    exact ⟨v, .stop (.stop e3 (intI _) e2), fun e => by cases e⟩
   | false =>
    simp only at h
    obtain ⟨e7, e8⟩ := e7 rfl
    have tf := e4 rfl
    cases h2 : evCall E u1 f r with
    | none => rw [h2] at h; cases h
    | some q =>
     obtain ⟨r1, u2, o2⟩ := q
     obtain ⟨b2, ve2, v2, g1, g2, g3, g4, g5, g6, g7⟩ := evCall_C2 hE hC (d := d) h2 (by omega) e6 e8 (hr.up (by omega)) tf tr
     rw [h2] at h
     cases o2 with
     | true =>
      simp only [Option.some.injEq, Prod.mk.injEq] at h
      obtain ⟨rfl, rfl, rfl⟩ := h
      rw [g1] at tf e3
      exact ⟨v2, .stop (.step e3 (intI _) e2 (by rw [← g1]; rw [g1]; exact tf.wk) (.stop g3 tr.isI g2)), fun e => by cases e⟩
     | false =>
      simp only at h
      obtain ⟨g7, g8⟩ := g7 rfl
      have tr1 := g4 rfl
      obtain ⟨w, k1, k2⟩ := evRec_C2 ts h (by omega) g6 (by omega) (hs.up (by omega)) g8 tr1
      rw [g1] at tf e3
      exact ⟨w, .step (.step e3 (intI _) e2 tf.wk (.step g3 tr.isI g2 tr1.wk .nil)) tr1.isI k1, k2⟩
theorem evFold_C2 {c : Nat} {s : Res} {sv : V} {t : Ty} {l : List Nat} (ts : ThV kt (tFun tNat (tFun tList (tFun t t))) s sv) : ∀ {n u u' : Nat} {r r' : Res} {o : Bool} {rv : V}, evFold E s l n u r = some (r', u', o) → c + 1 ≤ u → u ≤ most →
  n ≤ l.length → l.length ≤ u - c - 1 → (∀ x ∈ l, x ≤ u - c - 1) → ResW (u - c - 1) s → ResW (u - c - 1) r → ThV kt t r rv → ∃ w, FoldS d most sv l n u rv u' o w ∧ (o = false → ThV kt t r' w)
 | 0, u, u', r, r', o, rv, h, hc, hu, hn, hll, hlx, hs, hr, tr => by
  simp only [evFold, Option.some.injEq, Prod.mk.injEq] at h
  obtain ⟨rfl, rfl, rfl⟩ := h
  exact ⟨rv, .nil, fun _ => tr⟩
 | n + 1, u, u', r, r', o, rv, h, hc, hu, hn, hll, hlx, hs, hr, tr => by
  rw [evFold] at h
  have hx : l.getD n 0 ≤ u - c - 1 := by
   have hlt : n < l.length := by omega
   have : l.getD n 0 = l[n] := by simp [hlt]
   rw [this]; exact hlx _ (List.getElem_mem hlt)
  cases h1 : evCall E u s (numR (l.getD n 0)) with
  | none => rw [h1] at h; cases h
  | some p =>
   obtain ⟨f, u1, o1⟩ := p
   obtain ⟨b, ve, v, e1, e2, e3, e4, e5, e6, e7⟩ := evCall_C2 hE hC (d := d) h1 hc hu hs (ResW.num hx) ts (ThV.num (n := l.getD n 0))
   subst e1
   rw [h1] at h
   cases o1 with
   | true =>
    simp only [Option.some.injEq, Prod.mk.injEq] at h
    obtain ⟨rfl, rfl, rfl⟩ := h
    exact ⟨v, .stop (.stop e3 (intI _) e2), fun e => by cases e⟩
   | false =>
    simp only at h
    obtain ⟨e7, e8⟩ := e7 rfl
    have tf := e4 rfl
    have hdl : ResW (u1 - c - 1) (listR (l.drop (n + 1))) := ResW.list (fun x hx => by have := hlx x (List.mem_of_mem_drop hx); omega) (by simp; omega)
    cases h2 : evCall E u1 f (listR (l.drop (n + 1))) with
    | none => rw [h2] at h; cases h
    | some q =>
     obtain ⟨f2, u2, o2⟩ := q
     obtain ⟨b2, ve2, v2, g1, g2, g3, g4, g5, g6, g7⟩ := evCall_C2 hE hC (d := d) h2 (by omega) e6 e8 hdl tf (ThV.list (l := l.drop (n + 1)))
     rw [h2] at h
     rw [g1] at tf e3
     cases o2 with
     | true =>
      simp only [Option.some.injEq, Prod.mk.injEq] at h
      obtain ⟨rfl, rfl, rfl⟩ := h
      exact ⟨v2, .stop (.step e3 (intI _) e2 tf.wk (.stop g3 (cellII _) g2)), fun e => by cases e⟩
     | false =>
      simp only at h
      obtain ⟨g7, g8⟩ := g7 rfl
      have tf2 := g4 rfl
      cases h3 : evCall E u2 f2 r with
      | none => rw [h3] at h; cases h
      | some q =>
       obtain ⟨r1, u3, o3⟩ := q
       obtain ⟨b3, ve3, v3, k1, k2, k3, k4, k5, k6, k7⟩ := evCall_C2 hE hC (d := d) h3 (by omega) g6 g8 (hr.up (by omega)) tf2 tr
       rw [h3] at h
       rw [k1] at tf2 g3
       cases o3 with
       | true =>
        simp only [Option.some.injEq, Prod.mk.injEq] at h
        obtain ⟨rfl, rfl, rfl⟩ := h
        exact ⟨v3, .stop (.step e3 (intI _) e2 tf.wk (.step g3 (cellII _) g2 tf2.wk (.stop k3 tr.isI k2))), fun e => by cases e⟩
       | false =>
        simp only at h
        obtain ⟨k7, k8⟩ := k7 rfl
        have tr1 := k4 rfl
        obtain ⟨w, m1, m2⟩ := evFold_C2 ts h (by omega) k6 (by omega) (by omega) (fun x hx => by have := hlx x hx; omega) (hs.up (by omega)) k8 tr1
        exact ⟨w, .step (.step e3 (intI _) e2 tf.wk (.step g3 (cellII _) g2 tf2.wk (.step k3 tr.isI k2 tr1.wk .nil))) tr1.isI m1, m2⟩
end
end Go.Proofs.YtenelbgbjmijiaaGreatDoor
