/-
  DERIVED. GIVEN WITH THE SEED: THE CARDS: each row of YtebhjmnnjoijcaaGreatDoorRows.lean that lists a variable, with what it lists TIED to the program's text (the seventh form; the later family's looks); each row that meets fmt, with fmt's text TOLD by the authors' own Lean function (tested against real Go, not proved from fmt's source: count such statements apart). THE CARD IS WHAT COUNTS. Prove the row's statement (the work); the ties are given (YtebhjmnnjoijcaaGreatDoorTie.lean); close each card by the builder's one call (the guide's Derived/Test/ToyasCard.lean, 'card_holds'). Laid BY PROGRAM, IN A SANDBOX (cutbox-door.mjs). By AI agents, Wed Nov 11 2026. No macro, syntax, notation, axiom, sorry.
-/
import Derived.Test.YtebhjmnnjoijcaaGreatDoorRows
import GoSem.ClaimSeven
namespace Go.Proofs.YtebhjmnnjoijcaaGreatDoor
namespace Rows

/-- THE TIED CARD OF 'inequalitylaw02.ElemBack'. -/
def elemBackCard : Claim7 := { stood := { row := elemBackRow, standIns := [], harness := (true, "53cf59d5f9c6449bb2997417e27889eaa85caba24329dd36109269b1cea47fea"), looks := false }, kinds := [], alts := [], laidByText := true, laidKinds := [.data], laidTests := true, laidLooks := .later }
def ElemBackCardSaid : Prop := Claim7.holds Tryz.pinned (.plain (OpenSpec.ofChange elemBackSpec)) elemBackCard

/-- THE TIED CARD OF 'inequalitylaw02.ElemBrackets'. -/
def elemBracketsCard : Claim7 := { stood := { row := elemBracketsRow, standIns := [], harness := (true, "53cf59d5f9c6449bb2997417e27889eaa85caba24329dd36109269b1cea47fea"), looks := false }, kinds := [], alts := [], laidByText := true, laidKinds := [.data], laidTests := true, laidLooks := .later }
def ElemBracketsCardSaid : Prop := Claim7.holds Tryz.pinned (.plain (OpenSpec.ofChange elemBracketsSpec)) elemBracketsCard

/-- THE SECOND FORM's CARD OF 'inequalitylaw02.ElemBack'. -/
def elemBackUptoCard : Claim7 := { stood := { row := elemBackUptoRow, standIns := [], harness := (true, "53cf59d5f9c6449bb2997417e27889eaa85caba24329dd36109269b1cea47fea"), looks := false }, kinds := [], alts := [], laidByText := true, laidKinds := [.data], laidTests := true, laidLooks := .later }
def ElemBackUptoCardSaid : Prop := Claim7.holds Tryz.pinned (.plain (OpenSpec.upto elemBackSpec)) elemBackUptoCard

/-- THE SECOND FORM's CARD OF 'inequalitylaw02.ElemBrackets'. -/
def elemBracketsUptoCard : Claim7 := { stood := { row := elemBracketsUptoRow, standIns := [], harness := (true, "53cf59d5f9c6449bb2997417e27889eaa85caba24329dd36109269b1cea47fea"), looks := false }, kinds := [], alts := [], laidByText := true, laidKinds := [.data], laidTests := true, laidLooks := .later }
def ElemBracketsUptoCardSaid : Prop := Claim7.holds Tryz.pinned (.plain (OpenSpec.upto elemBracketsSpec)) elemBracketsUptoCard
end Rows
end Go.Proofs.YtebhjmnnjoijcaaGreatDoor
