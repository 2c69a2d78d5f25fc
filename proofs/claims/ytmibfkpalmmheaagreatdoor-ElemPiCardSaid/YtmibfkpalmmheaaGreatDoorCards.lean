/-
  DERIVED. GIVEN WITH THE SEED: THE CARDS: each row of YtmibfkpalmmheaaGreatDoorRows.lean that lists a variable, with what it lists TIED to the program's text (the seventh form; the later family's looks); each row that meets fmt, with fmt's text TOLD by the authors' own Lean function (tested against real Go, not proved from fmt's source: count such statements apart). THE CARD IS WHAT COUNTS. Prove the row's statement (the work); the ties are given (YtmibfkpalmmheaaGreatDoorTie.lean); close each card by the builder's one call (the guide's Derived/Test/ToyasCard.lean, 'card_holds'). Laid BY PROGRAM, IN A SANDBOX (cutbox-door.mjs). By AI agents, Wed Nov 11 2026. No macro, syntax, notation, axiom, sorry.
-/
import Derived.Test.YtmibfkpalmmheaaGreatDoorRows
import GoSem.ClaimSeven
namespace Go.Proofs.YtmibfkpalmmheaaGreatDoor
namespace Rows

/-- THE TIED CARD OF 'inequalitylaw02.ElemPi'. -/
def elemPiCard : Claim7 := { stood := { row := elemPiRow, standIns := [], harness := (true, "debcd13ec0d8d75a30569d2efa6809b79db1112af584e36b0f12aad84fefa088"), looks := false }, kinds := [], alts := [], laidByText := true, laidKinds := [.data], laidTests := true, laidLooks := .later }
def ElemPiCardSaid : Prop := Claim7.holds Tryz.pinned (.plain (OpenSpec.ofChange elemPiSpec)) elemPiCard

/-- THE TIED CARD OF 'inequalitylaw02.ElemTurns'. -/
def elemTurnsCard : Claim7 := { stood := { row := elemTurnsRow, standIns := [], harness := (true, "debcd13ec0d8d75a30569d2efa6809b79db1112af584e36b0f12aad84fefa088"), looks := false }, kinds := [], alts := [], laidByText := true, laidKinds := [.data], laidTests := true, laidLooks := .later }
def ElemTurnsCardSaid : Prop := Claim7.holds Tryz.pinned (.plain (OpenSpec.ofChange elemTurnsSpec)) elemTurnsCard

/-- THE TIED CARD OF 'inequalitylaw02.ElemBrackets'. -/
def elemBracketsCard : Claim7 := { stood := { row := elemBracketsRow, standIns := [], harness := (true, "debcd13ec0d8d75a30569d2efa6809b79db1112af584e36b0f12aad84fefa088"), looks := false }, kinds := [], alts := [], laidByText := true, laidKinds := [.data], laidTests := true, laidLooks := .later }
def ElemBracketsCardSaid : Prop := Claim7.holds Tryz.pinned (.plain (OpenSpec.ofChange elemBracketsSpec)) elemBracketsCard

/-- THE SECOND FORM's CARD OF 'inequalitylaw02.ElemPi'. -/
def elemPiUptoCard : Claim7 := { stood := { row := elemPiUptoRow, standIns := [], harness := (true, "debcd13ec0d8d75a30569d2efa6809b79db1112af584e36b0f12aad84fefa088"), looks := false }, kinds := [], alts := [], laidByText := true, laidKinds := [.data], laidTests := true, laidLooks := .later }
def ElemPiUptoCardSaid : Prop := Claim7.holds Tryz.pinned (.plain (OpenSpec.upto elemPiSpec)) elemPiUptoCard

/-- THE SECOND FORM's CARD OF 'inequalitylaw02.ElemTurns'. -/
def elemTurnsUptoCard : Claim7 := { stood := { row := elemTurnsUptoRow, standIns := [], harness := (true, "debcd13ec0d8d75a30569d2efa6809b79db1112af584e36b0f12aad84fefa088"), looks := false }, kinds := [], alts := [], laidByText := true, laidKinds := [.data], laidTests := true, laidLooks := .later }
def ElemTurnsUptoCardSaid : Prop := Claim7.holds Tryz.pinned (.plain (OpenSpec.upto elemTurnsSpec)) elemTurnsUptoCard

/-- THE SECOND FORM's CARD OF 'inequalitylaw02.ElemBrackets'. -/
def elemBracketsUptoCard : Claim7 := { stood := { row := elemBracketsUptoRow, standIns := [], harness := (true, "debcd13ec0d8d75a30569d2efa6809b79db1112af584e36b0f12aad84fefa088"), looks := false }, kinds := [], alts := [], laidByText := true, laidKinds := [.data], laidTests := true, laidLooks := .later }
def ElemBracketsUptoCardSaid : Prop := Claim7.holds Tryz.pinned (.plain (OpenSpec.upto elemBracketsSpec)) elemBracketsUptoCard
end Rows
end Go.Proofs.YtmibfkpalmmheaaGreatDoor
