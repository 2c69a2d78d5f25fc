/-
  DERIVED. GIVEN WITH THE SEED: THE CARDS: each row of YtpipfclemmbmcabGreatDoorRows.lean that lists a variable, with what it lists TIED to the program's text (the seventh form; the later family's looks); each row that meets fmt, with fmt's text TOLD by the authors' own Lean function (tested against real Go, not proved from fmt's source: count such statements apart). THE CARD IS WHAT COUNTS. Prove the row's statement (the work); the ties are given (YtpipfclemmbmcabGreatDoorTie.lean); close each card by the builder's one call (the guide's Derived/Test/ToyasCard.lean, 'card_holds'). Laid BY PROGRAM, IN A SANDBOX (cutbox-door.mjs). By AI agents, Wed Nov 11 2026. No macro, syntax, notation, axiom, sorry.
-/
import Derived.Test.YtpipfclemmbmcabGreatDoorRows
import GoSem.ClaimSeven
namespace Go.Proofs.YtpipfclemmbmcabGreatDoor
namespace Rows

/-- THE TIED CARD OF 'inequalitylaw03.IntervalCalls'. -/
def intervalCallsCard : Claim7 := { stood := { row := intervalCallsRow, standIns := [], harness := (true, "99454e35cf6368582718d357e33b3e2539c24688ac7680dc795fb2e19b7ee50b"), looks := true }, kinds := [], alts := [], laidByText := true, laidKinds := [.data], laidTests := true, laidLooks := .later }
def IntervalCallsCardSaid : Prop := Claim7.holds Tryz.pinned (.plain (OpenSpec.ofChange intervalCallsSpec)) intervalCallsCard

/-- THE TIED CARD OF 'inequalitylaw03.IntervalValues'. -/
def intervalValuesCard : Claim7 := { stood := { row := intervalValuesRow, standIns := [], harness := (true, "99454e35cf6368582718d357e33b3e2539c24688ac7680dc795fb2e19b7ee50b"), looks := true }, kinds := [], alts := [], laidByText := true, laidKinds := [.data], laidTests := true, laidLooks := .later }
def IntervalValuesCardSaid : Prop := Claim7.holds Tryz.pinned (.plain (OpenSpec.ofChange intervalValuesSpec)) intervalValuesCard

/-- THE SECOND FORM's CARD OF 'inequalitylaw03.IntervalCalls'. -/
def intervalCallsUptoCard : Claim7 := { stood := { row := intervalCallsUptoRow, standIns := [], harness := (true, "99454e35cf6368582718d357e33b3e2539c24688ac7680dc795fb2e19b7ee50b"), looks := true }, kinds := [], alts := [], laidByText := true, laidKinds := [.data], laidTests := true, laidLooks := .later }
def IntervalCallsUptoCardSaid : Prop := Claim7.holds Tryz.pinned (.plain (OpenSpec.upto intervalCallsSpec)) intervalCallsUptoCard

/-- THE SECOND FORM's CARD OF 'inequalitylaw03.IntervalValues'. -/
def intervalValuesUptoCard : Claim7 := { stood := { row := intervalValuesUptoRow, standIns := [], harness := (true, "99454e35cf6368582718d357e33b3e2539c24688ac7680dc795fb2e19b7ee50b"), looks := true }, kinds := [], alts := [], laidByText := true, laidKinds := [.data], laidTests := true, laidLooks := .later }
def IntervalValuesUptoCardSaid : Prop := Claim7.holds Tryz.pinned (.plain (OpenSpec.upto intervalValuesSpec)) intervalValuesUptoCard
end Rows
end Go.Proofs.YtpipfclemmbmcabGreatDoor
