/-
  The abstract layer: plain laws, further ones.
-/
import Derived.Test.YtjpheflnapmdcaaGreatDoorAbsDb
set_option linter.unusedSimpArgs false
set_option linter.unusedVariables false
set_option linter.unusedSectionVars false
namespace GoAbs
open Go

theorem sqX_len {n : Nat} {m : Int} : ∀ (l : List Fm) (P : List Int), P.length = l.length → (sqX n m l P).length = l.length
  | [], _, _ => by simp [sqX]
  | f :: l, [], h => by simp at h
  | f :: l, p :: P, h => by simp [sqX, sqX_len l P (by simpa using h)]
theorem sqX_get {n : Nat} {m : Int} : ∀ (l : List Fm) (P : List Int) (i : Nat) (f : Fm) (p : Int), l[i]? = some f → P[i]? = some p → (sqX n m l P)[i]? = some (rlF (f.up m 0) (sqT n p))
  | [], _, i, f, p, h, _ => by simp at h
  | f :: l, [], i, f', p, _, h => by simp at h
  | f :: l, q :: P, 0, f', p, h, h' => by simp at h h'; subst h; subst h'; simp [sqX]
  | f :: l, q :: P, i + 1, f', p, h, h' => by
    simp only [List.getElem?_cons_succ] at h h'
    simp only [sqX, List.getElem?_cons_succ]
    exact sqX_get l P i f' p h h'
theorem sqH_nil {a : List Fm} : sqH a [] = some a := by rw [sqH]
theorem sqH_bad {a : List Fm} {x : Fm × Int} {l : List (Fm × Int)} (h : x.2 = 4) : sqH a (x :: l) = none := by rw [sqH, h]; rfl
theorem sqH_ok {a : List Fm} {x : Fm × Int} {l : List (Fm × Int)} (h : x.2 = 0) : sqH a (x :: l) = sqH (a ++ [x.1]) l := by rw [sqH, h]; rfl
theorem mk_base {n : Nat} (hn : n ≤ 3) {g : List Ty} {f : Fm} (hm : MkFm true n g f) (hg : ∀ y ∈ g, MkTy 1 y) (hgl : g.length ≤ 10) : f.least 268435456 = true ∧ f.least 536870912 = true := by
  have hgG : ∀ y ∈ g, TyG y := fun y hy => (hg y hy).G (by omega)
  have hg3 : ∀ y ∈ g, tySz y ≤ 3 := fun y hy => (hg y hy).sz1
  have lf := hm.least (m := 10000) (by omega) hg3 (by omega)
  have lf' : f.least 10000 = true := by simpa using lf
  exact ⟨fleastG_mono (M := 10000) (by omega) (hm.G hgG) lf', fleastG_mono (M := 10000) (by omega) (hm.G hgG) lf'⟩
theorem mk_sz2 {g : List Ty} {f : Fm} (hm : MkFm true 2 g f) (hg : ∀ y ∈ g, MkTy 1 y) : fmSz f ≤ 4096 := by
  have p2 : 2 ^ 2 = 4 := rfl
  have hz := hm.sz (fun y hy => (hg y hy).sz1)
  omega

theorem fmInn_C {s : Tm} {b : Int} {f : Fm} (h : FmC f) : ∀ d : Int, FmC (fmInn s b f d) := by
  induction h with
  | eq => intro d; rw [fmInn, fmInnL]; exact .eq
  | two hk _ _ h1 h2 => intro d; rw [fmInn, fmInnL, fmInnL, fmInnL]; exact .two hk (h1 _) (h2 _)
  | q hk hs _ h1 => intro d; rw [fmInn, fmInnL, fmInnL]; exact .q hk hs (h1 _)

theorem sqT_W {n : Nat} {p : Int} : TmW (sqT n p) := by
  unfold sqT; split
  · exact tmVar_W _
  · exact tm0_W0
/-- What realize.Sequent answers, or the error of a size. -/
def rseq (g : List Ty) (l : List Fm) : Option (List Ty × List Fm) :=
  (sqR g [] l).bind fun AP => (sqH [] (sqX AP.1.length ((AP.1.length - g.length : Nat) : Int) l AP.2)).map fun hs => (AP.1, hs)
def rseqV : Option (List Ty × List Fm) → V
  | none => .tup [.agg [.sl .any [], .sl .any []], .int .i64 4]
  | some (A, hs) => .tup [.agg [.sl .any (A.map Ty.cells), .sl .any (hs.map Fm.cells)], .int .i64 0]

end GoAbs
