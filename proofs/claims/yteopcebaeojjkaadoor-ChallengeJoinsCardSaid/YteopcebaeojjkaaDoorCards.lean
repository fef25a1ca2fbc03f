/-
  DERIVED. GIVEN WITH THE SEED: THE CARDS: each row of YteopcebaeojjkaaDoorRows.lean that lists a variable, with what it lists TIED to the program's text (the seventh form; the later family's looks); each row that meets fmt, with fmt's text TOLD by the authors' own Lean function (tested against real Go, not proved from fmt's source: count such statements apart). THE CARD IS WHAT COUNTS. Prove the row's statement (the work); the ties are given (YteopcebaeojjkaaDoorTie.lean); close each card by the builder's one call (the guide's Derived/Test/ToyasCard.lean, 'card_holds'). Laid BY PROGRAM, IN A SANDBOX (cutbox-door.mjs). By AI agents, Wed Nov 11 2026. No macro, syntax, notation, axiom, sorry.
-/
import Derived.Test.YteopcebaeojjkaaDoorRows
import GoSem.ClaimSeven
namespace Go.Proofs.YteopcebaeojjkaaDoor
namespace Rows

/-- THE TIED CARD OF 'proofprogramslaw28.ChallengeJoins'. -/
def challengeJoinsCard : Claim7 := { stood := { row := challengeJoinsRow, standIns := [], harness := (true, "d0a7a0ab3b59fc3bf95374e70b865cce7452f9130f6284412e56926eb3cc34a5"), looks := false }, kinds := [], alts := [], laidByText := true, laidKinds := [.data], laidTests := true, laidLooks := .later }
def ChallengeJoinsCardSaid : Prop := Claim7.holds Tryd.pinned (.plain (OpenSpec.ofChange challengeJoinsSpec)) challengeJoinsCard

/-- THE SECOND FORM's CARD OF 'proofprogramslaw28.ChallengeJoins'. -/
def challengeJoinsUptoCard : Claim7 := { stood := { row := challengeJoinsUptoRow, standIns := [], harness := (true, "d0a7a0ab3b59fc3bf95374e70b865cce7452f9130f6284412e56926eb3cc34a5"), looks := false }, kinds := [], alts := [], laidByText := true, laidKinds := [.data], laidTests := true, laidLooks := .later }
def ChallengeJoinsUptoCardSaid : Prop := Claim7.holds Tryd.pinned (.plain (OpenSpec.upto challengeJoinsSpec)) challengeJoinsUptoCard
end Rows
end Go.Proofs.YteopcebaeojjkaaDoor
