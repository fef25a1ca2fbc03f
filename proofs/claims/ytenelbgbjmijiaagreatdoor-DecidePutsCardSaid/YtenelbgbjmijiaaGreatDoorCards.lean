/-
  DERIVED. GIVEN WITH THE SEED: THE CARDS: each row of YtenelbgbjmijiaaGreatDoorRows.lean that lists a variable, with what it lists TIED to the program's text (the seventh form; the later family's looks); each row that meets fmt, with fmt's text TOLD by the authors' own Lean function (tested against real Go, not proved from fmt's source: count such statements apart). THE CARD IS WHAT COUNTS. Prove the row's statement (the work); the ties are given (YtenelbgbjmijiaaGreatDoorTie.lean); close each card by the builder's one call (the guide's Derived/Test/ToyasCard.lean, 'card_holds'). Laid BY PROGRAM, IN A SANDBOX (cutbox-door.mjs). By AI agents, Wed Nov 11 2026. No macro, syntax, notation, axiom, sorry.
-/
import Derived.Test.YtenelbgbjmijiaaGreatDoorRows
import GoSem.ClaimSeven
namespace Go.Proofs.YtenelbgbjmijiaaGreatDoor
namespace Rows

/-- THE TIED CARD OF 'proofprogramslaw08.ClassDoes'. -/
def classDoesCard : Claim7 := { stood := { row := classDoesRow, standIns := [], harness := (true, "e9e16ee6dbfeffb1dbb838c507e501875ac2c4f9eb15f95de26a8bc9acab7f1d"), looks := true }, kinds := [], alts := [], laidByText := true, laidKinds := [.data], laidTests := true, laidLooks := .later }
def ClassDoesCardSaid : Prop := Claim7.holds Tryz.pinned (.plain (OpenSpec.ofChange classDoesSpec)) classDoesCard

/-- THE TIED CARD OF 'proofprogramslaw09.DecideConnects'. -/
def decideConnectsCard : Claim7 := { stood := { row := decideConnectsRow, standIns := [], harness := (true, "e9e16ee6dbfeffb1dbb838c507e501875ac2c4f9eb15f95de26a8bc9acab7f1d"), looks := true }, kinds := [], alts := [], laidByText := true, laidKinds := [.data], laidTests := true, laidLooks := .later }
def DecideConnectsCardSaid : Prop := Claim7.holds Tryz.pinned (.plain (OpenSpec.ofChange decideConnectsSpec)) decideConnectsCard

/-- THE TIED CARD OF 'proofprogramslaw09.DecideSearches'. -/
def decideSearchesCard : Claim7 := { stood := { row := decideSearchesRow, standIns := [], harness := (true, "e9e16ee6dbfeffb1dbb838c507e501875ac2c4f9eb15f95de26a8bc9acab7f1d"), looks := true }, kinds := [], alts := [], laidByText := true, laidKinds := [.data], laidTests := true, laidLooks := .later }
def DecideSearchesCardSaid : Prop := Claim7.holds Tryz.pinned (.plain (OpenSpec.ofChange decideSearchesSpec)) decideSearchesCard

/-- THE TIED CARD OF 'proofprogramslaw09.DecideLess'. -/
def decideLessCard : Claim7 := { stood := { row := decideLessRow, standIns := [], harness := (true, "e9e16ee6dbfeffb1dbb838c507e501875ac2c4f9eb15f95de26a8bc9acab7f1d"), looks := true }, kinds := [], alts := [], laidByText := true, laidKinds := [.data], laidTests := true, laidLooks := .later }
def DecideLessCardSaid : Prop := Claim7.holds Tryz.pinned (.plain (OpenSpec.ofChange decideLessSpec)) decideLessCard

/-- THE TIED CARD OF 'proofprogramslaw09.DecideBounds'. -/
def decideBoundsCard : Claim7 := { stood := { row := decideBoundsRow, standIns := [], harness := (true, "e9e16ee6dbfeffb1dbb838c507e501875ac2c4f9eb15f95de26a8bc9acab7f1d"), looks := true }, kinds := [], alts := [], laidByText := true, laidKinds := [.data], laidTests := true, laidLooks := .later }
def DecideBoundsCardSaid : Prop := Claim7.holds Tryz.pinned (.plain (OpenSpec.ofChange decideBoundsSpec)) decideBoundsCard

/-- THE TIED CARD OF 'proofprogramslaw09.DecidePuts'. -/
def decidePutsCard : Claim7 := { stood := { row := decidePutsRow, standIns := [], harness := (true, "e9e16ee6dbfeffb1dbb838c507e501875ac2c4f9eb15f95de26a8bc9acab7f1d"), looks := true }, kinds := [], alts := [], laidByText := true, laidKinds := [.data], laidTests := true, laidLooks := .later }
def DecidePutsCardSaid : Prop := Claim7.holds Tryz.pinned (.plain (OpenSpec.ofChange decidePutsSpec)) decidePutsCard

/-- THE SECOND FORM's CARD OF 'proofprogramslaw08.ClassDoes'. -/
def classDoesUptoCard : Claim7 := { stood := { row := classDoesUptoRow, standIns := [], harness := (true, "e9e16ee6dbfeffb1dbb838c507e501875ac2c4f9eb15f95de26a8bc9acab7f1d"), looks := true }, kinds := [], alts := [], laidByText := true, laidKinds := [.data], laidTests := true, laidLooks := .later }
def ClassDoesUptoCardSaid : Prop := Claim7.holds Tryz.pinned (.plain (OpenSpec.upto classDoesSpec)) classDoesUptoCard

/-- THE SECOND FORM's CARD OF 'proofprogramslaw09.DecideConnects'. -/
def decideConnectsUptoCard : Claim7 := { stood := { row := decideConnectsUptoRow, standIns := [], harness := (true, "e9e16ee6dbfeffb1dbb838c507e501875ac2c4f9eb15f95de26a8bc9acab7f1d"), looks := true }, kinds := [], alts := [], laidByText := true, laidKinds := [.data], laidTests := true, laidLooks := .later }
def DecideConnectsUptoCardSaid : Prop := Claim7.holds Tryz.pinned (.plain (OpenSpec.upto decideConnectsSpec)) decideConnectsUptoCard

/-- THE SECOND FORM's CARD OF 'proofprogramslaw09.DecideSearches'. -/
def decideSearchesUptoCard : Claim7 := { stood := { row := decideSearchesUptoRow, standIns := [], harness := (true, "e9e16ee6dbfeffb1dbb838c507e501875ac2c4f9eb15f95de26a8bc9acab7f1d"), looks := true }, kinds := [], alts := [], laidByText := true, laidKinds := [.data], laidTests := true, laidLooks := .later }
def DecideSearchesUptoCardSaid : Prop := Claim7.holds Tryz.pinned (.plain (OpenSpec.upto decideSearchesSpec)) decideSearchesUptoCard

/-- THE SECOND FORM's CARD OF 'proofprogramslaw09.DecideLess'. -/
def decideLessUptoCard : Claim7 := { stood := { row := decideLessUptoRow, standIns := [], harness := (true, "e9e16ee6dbfeffb1dbb838c507e501875ac2c4f9eb15f95de26a8bc9acab7f1d"), looks := true }, kinds := [], alts := [], laidByText := true, laidKinds := [.data], laidTests := true, laidLooks := .later }
def DecideLessUptoCardSaid : Prop := Claim7.holds Tryz.pinned (.plain (OpenSpec.upto decideLessSpec)) decideLessUptoCard

/-- THE SECOND FORM's CARD OF 'proofprogramslaw09.DecideBounds'. -/
def decideBoundsUptoCard : Claim7 := { stood := { row := decideBoundsUptoRow, standIns := [], harness := (true, "e9e16ee6dbfeffb1dbb838c507e501875ac2c4f9eb15f95de26a8bc9acab7f1d"), looks := true }, kinds := [], alts := [], laidByText := true, laidKinds := [.data], laidTests := true, laidLooks := .later }
def DecideBoundsUptoCardSaid : Prop := Claim7.holds Tryz.pinned (.plain (OpenSpec.upto decideBoundsSpec)) decideBoundsUptoCard

/-- THE SECOND FORM's CARD OF 'proofprogramslaw09.DecidePuts'. -/
def decidePutsUptoCard : Claim7 := { stood := { row := decidePutsUptoRow, standIns := [], harness := (true, "e9e16ee6dbfeffb1dbb838c507e501875ac2c4f9eb15f95de26a8bc9acab7f1d"), looks := true }, kinds := [], alts := [], laidByText := true, laidKinds := [.data], laidTests := true, laidLooks := .later }
def DecidePutsUptoCardSaid : Prop := Claim7.holds Tryz.pinned (.plain (OpenSpec.upto decidePutsSpec)) decidePutsUptoCard
end Rows
end Go.Proofs.YtenelbgbjmijiaaGreatDoor
