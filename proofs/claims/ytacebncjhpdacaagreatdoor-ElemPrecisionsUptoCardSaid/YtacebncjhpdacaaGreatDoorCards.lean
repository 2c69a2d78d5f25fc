/-
  DERIVED. GIVEN WITH THE SEED: THE CARDS: each row of YtacebncjhpdacaaGreatDoorRows.lean that lists a variable, with what it lists TIED to the program's text (the seventh form; the later family's looks); each row that meets fmt, with fmt's text TOLD by the authors' own Lean function (tested against real Go, not proved from fmt's source: count such statements apart). THE CARD IS WHAT COUNTS. Prove the row's statement (the work); the ties are given (YtacebncjhpdacaaGreatDoorTie.lean); close each card by the builder's one call (the guide's Derived/Test/ToyasCard.lean, 'card_holds'). Laid BY PROGRAM, IN A SANDBOX (cutbox-door.mjs). By AI agents, Wed Nov 11 2026. No macro, syntax, notation, axiom, sorry.
-/
import Derived.Test.YtacebncjhpdacaaGreatDoorRows
import GoSem.ClaimSeven
namespace Go.Proofs.YtacebncjhpdacaaGreatDoor
namespace Rows

/-- THE TIED CARD OF 'inequalitylaw02.ElemWidth'. -/
def elemWidthCard : Claim7 := { stood := { row := elemWidthRow, standIns := [], harness := (true, "263ea63bb61f63029a5e85baff381ef37e65f4fc17e5ece3808c8f17a01e5606"), looks := false }, kinds := [], alts := [], laidByText := true, laidKinds := [.data], laidTests := true, laidLooks := .later }
def ElemWidthCardSaid : Prop := Claim7.holds Tryz.pinned (.plain (OpenSpec.ofChange elemWidthSpec)) elemWidthCard

/-- THE TIED CARD OF 'inequalitylaw02.ElemPrecisions'. -/
def elemPrecisionsCard : Claim7 := { stood := { row := elemPrecisionsRow, standIns := [], harness := (true, "263ea63bb61f63029a5e85baff381ef37e65f4fc17e5ece3808c8f17a01e5606"), looks := false }, kinds := [], alts := [], laidByText := true, laidKinds := [.data], laidTests := true, laidLooks := .later }
def ElemPrecisionsCardSaid : Prop := Claim7.holds Tryz.pinned (.plain (OpenSpec.ofChange elemPrecisionsSpec)) elemPrecisionsCard

/-- THE TIED CARD OF 'inequalitylaw02.ElemOrder'. -/
def elemOrderCard : Claim7 := { stood := { row := elemOrderRow, standIns := [], harness := (true, "263ea63bb61f63029a5e85baff381ef37e65f4fc17e5ece3808c8f17a01e5606"), looks := false }, kinds := [], alts := [], laidByText := true, laidKinds := [.data], laidTests := true, laidLooks := .later }
def ElemOrderCardSaid : Prop := Claim7.holds Tryz.pinned (.plain (OpenSpec.ofChange elemOrderSpec)) elemOrderCard

/-- THE TIED CARD OF 'inequalitylaw02.ElemRight'. -/
def elemRightCard : Claim7 := { stood := { row := elemRightRow, standIns := [], harness := (true, "263ea63bb61f63029a5e85baff381ef37e65f4fc17e5ece3808c8f17a01e5606"), looks := false }, kinds := [], alts := [], laidByText := true, laidKinds := [.data], laidTests := true, laidLooks := .later }
def ElemRightCardSaid : Prop := Claim7.holds Tryz.pinned (.plain (OpenSpec.ofChange elemRightSpec)) elemRightCard

/-- THE SECOND FORM's CARD OF 'inequalitylaw02.ElemWidth'. -/
def elemWidthUptoCard : Claim7 := { stood := { row := elemWidthUptoRow, standIns := [], harness := (true, "263ea63bb61f63029a5e85baff381ef37e65f4fc17e5ece3808c8f17a01e5606"), looks := false }, kinds := [], alts := [], laidByText := true, laidKinds := [.data], laidTests := true, laidLooks := .later }
def ElemWidthUptoCardSaid : Prop := Claim7.holds Tryz.pinned (.plain (OpenSpec.upto elemWidthSpec)) elemWidthUptoCard

/-- THE SECOND FORM's CARD OF 'inequalitylaw02.ElemPrecisions'. -/
def elemPrecisionsUptoCard : Claim7 := { stood := { row := elemPrecisionsUptoRow, standIns := [], harness := (true, "263ea63bb61f63029a5e85baff381ef37e65f4fc17e5ece3808c8f17a01e5606"), looks := false }, kinds := [], alts := [], laidByText := true, laidKinds := [.data], laidTests := true, laidLooks := .later }
def ElemPrecisionsUptoCardSaid : Prop := Claim7.holds Tryz.pinned (.plain (OpenSpec.upto elemPrecisionsSpec)) elemPrecisionsUptoCard

/-- THE SECOND FORM's CARD OF 'inequalitylaw02.ElemOrder'. -/
def elemOrderUptoCard : Claim7 := { stood := { row := elemOrderUptoRow, standIns := [], harness := (true, "263ea63bb61f63029a5e85baff381ef37e65f4fc17e5ece3808c8f17a01e5606"), looks := false }, kinds := [], alts := [], laidByText := true, laidKinds := [.data], laidTests := true, laidLooks := .later }
def ElemOrderUptoCardSaid : Prop := Claim7.holds Tryz.pinned (.plain (OpenSpec.upto elemOrderSpec)) elemOrderUptoCard

/-- THE SECOND FORM's CARD OF 'inequalitylaw02.ElemRight'. -/
def elemRightUptoCard : Claim7 := { stood := { row := elemRightUptoRow, standIns := [], harness := (true, "263ea63bb61f63029a5e85baff381ef37e65f4fc17e5ece3808c8f17a01e5606"), looks := false }, kinds := [], alts := [], laidByText := true, laidKinds := [.data], laidTests := true, laidLooks := .later }
def ElemRightUptoCardSaid : Prop := Claim7.holds Tryz.pinned (.plain (OpenSpec.upto elemRightSpec)) elemRightUptoCard
end Rows
end Go.Proofs.YtacebncjhpdacaaGreatDoor
