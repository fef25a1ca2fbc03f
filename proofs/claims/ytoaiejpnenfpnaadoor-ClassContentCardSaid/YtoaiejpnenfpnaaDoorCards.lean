/-
  DERIVED. GIVEN WITH THE SEED: THE CARDS: each row of YtoaiejpnenfpnaaDoorRows.lean that lists a variable, with what it lists TIED to the program's text (the seventh form; the later family's looks); each row that meets fmt, with fmt's text TOLD by the authors' own Lean function (tested against real Go, not proved from fmt's source: count such statements apart). THE CARD IS WHAT COUNTS. Prove the row's statement (the work); the ties are given (YtoaiejpnenfpnaaDoorTie.lean); close each card by the builder's one call (the guide's Derived/Test/ToyasCard.lean, 'card_holds'). Laid BY PROGRAM, IN A SANDBOX (cutbox-door.mjs). By AI agents, Wed Nov 11 2026. No macro, syntax, notation, axiom, sorry.
-/
import Derived.Test.YtoaiejpnenfpnaaDoorRows
import GoSem.ClaimSeven
namespace Go.Proofs.YtoaiejpnenfpnaaDoor
namespace Rows

/-- THE TIED CARD OF 'proofprogramslaw28.ChallengeJoins'. -/
def challengeJoinsCard : Claim7 := { stood := { row := challengeJoinsRow, standIns := [], harness := (true, "1a97759c9ceb2b907fcba6c65272719386260b82ce3d93670898f8f2b1a5b62f"), looks := false }, kinds := [], alts := [], laidByText := true, laidKinds := [.data], laidTests := true, laidLooks := .later }
def ChallengeJoinsCardSaid : Prop := Claim7.holds Tryd.pinned (.plain (OpenSpec.ofChange challengeJoinsSpec)) challengeJoinsCard

/-- THE TIED CARD OF 'proofprogramslaw08.ClassContent'. -/
def classContentCard : Claim7 := { stood := { row := classContentRow, standIns := [], harness := (true, "1a97759c9ceb2b907fcba6c65272719386260b82ce3d93670898f8f2b1a5b62f"), looks := false }, kinds := [], alts := [], laidByText := true, laidKinds := [.data], laidTests := true, laidLooks := .later }
def ClassContentCardSaid : Prop := Claim7.holds Tryd.pinned (.plain (OpenSpec.ofChange classContentSpec)) classContentCard

/-- THE SECOND FORM's CARD OF 'proofprogramslaw28.ChallengeJoins'. -/
def challengeJoinsUptoCard : Claim7 := { stood := { row := challengeJoinsUptoRow, standIns := [], harness := (true, "1a97759c9ceb2b907fcba6c65272719386260b82ce3d93670898f8f2b1a5b62f"), looks := false }, kinds := [], alts := [], laidByText := true, laidKinds := [.data], laidTests := true, laidLooks := .later }
def ChallengeJoinsUptoCardSaid : Prop := Claim7.holds Tryd.pinned (.plain (OpenSpec.upto challengeJoinsSpec)) challengeJoinsUptoCard

/-- THE SECOND FORM's CARD OF 'proofprogramslaw08.ClassContent'. -/
def classContentUptoCard : Claim7 := { stood := { row := classContentUptoRow, standIns := [], harness := (true, "1a97759c9ceb2b907fcba6c65272719386260b82ce3d93670898f8f2b1a5b62f"), looks := false }, kinds := [], alts := [], laidByText := true, laidKinds := [.data], laidTests := true, laidLooks := .later }
def ClassContentUptoCardSaid : Prop := Claim7.holds Tryd.pinned (.plain (OpenSpec.upto classContentSpec)) classContentUptoCard
end Rows
end Go.Proofs.YtoaiejpnenfpnaaDoor
