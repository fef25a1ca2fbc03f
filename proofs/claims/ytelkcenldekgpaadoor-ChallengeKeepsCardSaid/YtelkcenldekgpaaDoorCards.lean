/-
  DERIVED. GIVEN WITH THE SEED: THE CARDS: each row of YtelkcenldekgpaaDoorRows.lean that lists a variable, with what it lists TIED to the program's text (the seventh form; the later family's looks); each row that meets fmt, with fmt's text TOLD by the authors' own Lean function (tested against real Go, not proved from fmt's source: count such statements apart). THE CARD IS WHAT COUNTS. Prove the row's statement (the work); the ties are given (YtelkcenldekgpaaDoorTie.lean); close each card by the builder's one call (the guide's Derived/Test/ToyasCard.lean, 'card_holds'). Laid BY PROGRAM, IN A SANDBOX (cutbox-door.mjs). By AI agents, Wed Nov 11 2026. No macro, syntax, notation, axiom, sorry.
-/
import Derived.Test.YtelkcenldekgpaaDoorRows
import GoSem.ClaimSeven
namespace Go.Proofs.YtelkcenldekgpaaDoor
namespace Rows

/-- THE TIED CARD OF 'proofprogramslaw28.ChallengeKeeps'. -/
def challengeKeepsCard : Claim7 := { stood := { row := challengeKeepsRow, standIns := [], harness := (true, "bd82ea783bd3516b8d3c01a6d5a331a34a4843d0dbfa3263c6fbdf68836c630d"), looks := false }, kinds := [], alts := [], laidByText := true, laidKinds := [.data], laidTests := true, laidLooks := .later }
def ChallengeKeepsCardSaid : Prop := Claim7.holds Tryd.pinned (.plain (OpenSpec.ofChange challengeKeepsSpec)) challengeKeepsCard

/-- THE TIED CARD OF 'proofprogramslaw28.ChallengeJoins'. -/
def challengeJoinsCard : Claim7 := { stood := { row := challengeJoinsRow, standIns := [], harness := (true, "bd82ea783bd3516b8d3c01a6d5a331a34a4843d0dbfa3263c6fbdf68836c630d"), looks := false }, kinds := [], alts := [], laidByText := true, laidKinds := [.data], laidTests := true, laidLooks := .later }
def ChallengeJoinsCardSaid : Prop := Claim7.holds Tryd.pinned (.plain (OpenSpec.ofChange challengeJoinsSpec)) challengeJoinsCard

/-- THE TIED CARD OF 'proofprogramslaw28.ChallengeFree'. -/
def challengeFreeCard : Claim7 := { stood := { row := challengeFreeRow, standIns := [], harness := (true, "bd82ea783bd3516b8d3c01a6d5a331a34a4843d0dbfa3263c6fbdf68836c630d"), looks := false }, kinds := [], alts := [], laidByText := true, laidKinds := [.data], laidTests := true, laidLooks := .later }
def ChallengeFreeCardSaid : Prop := Claim7.holds Tryd.pinned (.plain (OpenSpec.ofChange challengeFreeSpec)) challengeFreeCard

/-- THE TIED CARD OF 'proofprogramslaw28.ChallengeNot'. -/
def challengeNotCard : Claim7 := { stood := { row := challengeNotRow, standIns := [], harness := (true, "bd82ea783bd3516b8d3c01a6d5a331a34a4843d0dbfa3263c6fbdf68836c630d"), looks := false }, kinds := [], alts := [], laidByText := true, laidKinds := [.data], laidTests := true, laidLooks := .later }
def ChallengeNotCardSaid : Prop := Claim7.holds Tryd.pinned (.plain (OpenSpec.ofChange challengeNotSpec)) challengeNotCard

/-- THE SECOND FORM's CARD OF 'proofprogramslaw28.ChallengeKeeps'. -/
def challengeKeepsUptoCard : Claim7 := { stood := { row := challengeKeepsUptoRow, standIns := [], harness := (true, "bd82ea783bd3516b8d3c01a6d5a331a34a4843d0dbfa3263c6fbdf68836c630d"), looks := false }, kinds := [], alts := [], laidByText := true, laidKinds := [.data], laidTests := true, laidLooks := .later }
def ChallengeKeepsUptoCardSaid : Prop := Claim7.holds Tryd.pinned (.plain (OpenSpec.upto challengeKeepsSpec)) challengeKeepsUptoCard

/-- THE SECOND FORM's CARD OF 'proofprogramslaw28.ChallengeJoins'. -/
def challengeJoinsUptoCard : Claim7 := { stood := { row := challengeJoinsUptoRow, standIns := [], harness := (true, "bd82ea783bd3516b8d3c01a6d5a331a34a4843d0dbfa3263c6fbdf68836c630d"), looks := false }, kinds := [], alts := [], laidByText := true, laidKinds := [.data], laidTests := true, laidLooks := .later }
def ChallengeJoinsUptoCardSaid : Prop := Claim7.holds Tryd.pinned (.plain (OpenSpec.upto challengeJoinsSpec)) challengeJoinsUptoCard

/-- THE SECOND FORM's CARD OF 'proofprogramslaw28.ChallengeFree'. -/
def challengeFreeUptoCard : Claim7 := { stood := { row := challengeFreeUptoRow, standIns := [], harness := (true, "bd82ea783bd3516b8d3c01a6d5a331a34a4843d0dbfa3263c6fbdf68836c630d"), looks := false }, kinds := [], alts := [], laidByText := true, laidKinds := [.data], laidTests := true, laidLooks := .later }
def ChallengeFreeUptoCardSaid : Prop := Claim7.holds Tryd.pinned (.plain (OpenSpec.upto challengeFreeSpec)) challengeFreeUptoCard

/-- THE SECOND FORM's CARD OF 'proofprogramslaw28.ChallengeNot'. -/
def challengeNotUptoCard : Claim7 := { stood := { row := challengeNotUptoRow, standIns := [], harness := (true, "bd82ea783bd3516b8d3c01a6d5a331a34a4843d0dbfa3263c6fbdf68836c630d"), looks := false }, kinds := [], alts := [], laidByText := true, laidKinds := [.data], laidTests := true, laidLooks := .later }
def ChallengeNotUptoCardSaid : Prop := Claim7.holds Tryd.pinned (.plain (OpenSpec.upto challengeNotSpec)) challengeNotUptoCard
end Rows
end Go.Proofs.YtelkcenldekgpaaDoor
