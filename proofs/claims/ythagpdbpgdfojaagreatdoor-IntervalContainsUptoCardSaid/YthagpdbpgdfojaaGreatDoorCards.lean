/-
  DERIVED. GIVEN WITH THE SEED: THE CARDS: each row of YthagpdbpgdfojaaGreatDoorRows.lean that lists a variable, with what it lists TIED to the program's text (the seventh form; the later family's looks); each row that meets fmt, with fmt's text TOLD by the authors' own Lean function (tested against real Go, not proved from fmt's source: count such statements apart). THE CARD IS WHAT COUNTS. Prove the row's statement (the work); the ties are given (YthagpdbpgdfojaaGreatDoorTie.lean); close each card by the builder's one call (the guide's Derived/Test/ToyasCard.lean, 'card_holds'). Laid BY PROGRAM, IN A SANDBOX (cutbox-door.mjs). By AI agents, Wed Nov 11 2026. No macro, syntax, notation, axiom, sorry.
-/
import Derived.Test.YthagpdbpgdfojaaGreatDoorRows
import GoSem.ClaimSeven
namespace Go.Proofs.YthagpdbpgdfojaaGreatDoor
namespace Rows

/-- THE TIED CARD OF 'inequalitylaw03.IntervalIsotone'. -/
def intervalIsotoneCard : Claim7 := { stood := { row := intervalIsotoneRow, standIns := [], harness := (true, "45475e14396fdc02b8b134bd5c682c52226bbfd03d94ad2180e69ac590cf0382"), looks := true }, kinds := [], alts := [], laidByText := true, laidKinds := [.data], laidTests := true, laidLooks := .later }
def IntervalIsotoneCardSaid : Prop := Claim7.holds Tryz.pinned (.plain (OpenSpec.ofChange intervalIsotoneSpec)) intervalIsotoneCard

/-- THE TIED CARD OF 'inequalitylaw03.IntervalParts'. -/
def intervalPartsCard : Claim7 := { stood := { row := intervalPartsRow, standIns := [], harness := (true, "45475e14396fdc02b8b134bd5c682c52226bbfd03d94ad2180e69ac590cf0382"), looks := true }, kinds := [], alts := [], laidByText := true, laidKinds := [.data], laidTests := true, laidLooks := .later }
def IntervalPartsCardSaid : Prop := Claim7.holds Tryz.pinned (.plain (OpenSpec.ofChange intervalPartsSpec)) intervalPartsCard

/-- THE TIED CARD OF 'inequalitylaw03.IntervalContains'. -/
def intervalContainsCard : Claim7 := { stood := { row := intervalContainsRow, standIns := [], harness := (true, "45475e14396fdc02b8b134bd5c682c52226bbfd03d94ad2180e69ac590cf0382"), looks := true }, kinds := [], alts := [], laidByText := true, laidKinds := [.data], laidTests := true, laidLooks := .later }
def IntervalContainsCardSaid : Prop := Claim7.holds Tryz.pinned (.plain (OpenSpec.ofChange intervalContainsSpec)) intervalContainsCard

/-- THE SECOND FORM's CARD OF 'inequalitylaw03.IntervalIsotone'. -/
def intervalIsotoneUptoCard : Claim7 := { stood := { row := intervalIsotoneUptoRow, standIns := [], harness := (true, "45475e14396fdc02b8b134bd5c682c52226bbfd03d94ad2180e69ac590cf0382"), looks := true }, kinds := [], alts := [], laidByText := true, laidKinds := [.data], laidTests := true, laidLooks := .later }
def IntervalIsotoneUptoCardSaid : Prop := Claim7.holds Tryz.pinned (.plain (OpenSpec.upto intervalIsotoneSpec)) intervalIsotoneUptoCard

/-- THE SECOND FORM's CARD OF 'inequalitylaw03.IntervalParts'. -/
def intervalPartsUptoCard : Claim7 := { stood := { row := intervalPartsUptoRow, standIns := [], harness := (true, "45475e14396fdc02b8b134bd5c682c52226bbfd03d94ad2180e69ac590cf0382"), looks := true }, kinds := [], alts := [], laidByText := true, laidKinds := [.data], laidTests := true, laidLooks := .later }
def IntervalPartsUptoCardSaid : Prop := Claim7.holds Tryz.pinned (.plain (OpenSpec.upto intervalPartsSpec)) intervalPartsUptoCard

/-- THE SECOND FORM's CARD OF 'inequalitylaw03.IntervalContains'. -/
def intervalContainsUptoCard : Claim7 := { stood := { row := intervalContainsUptoRow, standIns := [], harness := (true, "45475e14396fdc02b8b134bd5c682c52226bbfd03d94ad2180e69ac590cf0382"), looks := true }, kinds := [], alts := [], laidByText := true, laidKinds := [.data], laidTests := true, laidLooks := .later }
def IntervalContainsUptoCardSaid : Prop := Claim7.holds Tryz.pinned (.plain (OpenSpec.upto intervalContainsSpec)) intervalContainsUptoCard
end Rows
end Go.Proofs.YthagpdbpgdfojaaGreatDoor
