/-
  DERIVED. GIVEN WITH THE SEED: THE CARDS: each row of YtigakdgaimfnhaaGreatDoorRows.lean that lists a variable, with what it lists TIED to the program's text (the seventh form; the later family's looks); each row that meets fmt, with fmt's text TOLD by the authors' own Lean function (tested against real Go, not proved from fmt's source: count such statements apart). THE CARD IS WHAT COUNTS. Prove the row's statement (the work); the ties are given (YtigakdgaimfnhaaGreatDoorTie.lean); close each card by the builder's one call (the guide's Derived/Test/ToyasCard.lean, 'card_holds'). Laid BY PROGRAM, IN A SANDBOX (cutbox-door.mjs). By AI agents, Wed Nov 11 2026. No macro, syntax, notation, axiom, sorry.
-/
import Derived.Test.YtigakdgaimfnhaaGreatDoorRows
import GoSem.ClaimSeven
namespace Go.Proofs.YtigakdgaimfnhaaGreatDoor
namespace Rows

/-- THE TIED CARD OF 'inequalitylaw02.ElemOrder'. -/
def elemOrderCard : Claim7 := { stood := { row := elemOrderRow, standIns := [], harness := (true, "38df81ae323e7908555e53dd441207a01e1f32102fa57ea484a6eae5c6fda349"), looks := false }, kinds := [], alts := [], laidByText := true, laidKinds := [.data], laidTests := true, laidLooks := .later }
def ElemOrderCardSaid : Prop := Claim7.holds Tryz.pinned (.plain (OpenSpec.ofChange elemOrderSpec)) elemOrderCard

/-- THE TIED CARD OF 'inequalitylaw02.ElemInverse'. -/
def elemInverseCard : Claim7 := { stood := { row := elemInverseRow, standIns := [], harness := (true, "38df81ae323e7908555e53dd441207a01e1f32102fa57ea484a6eae5c6fda349"), looks := false }, kinds := [], alts := [], laidByText := true, laidKinds := [.data], laidTests := true, laidLooks := .later }
def ElemInverseCardSaid : Prop := Claim7.holds Tryz.pinned (.plain (OpenSpec.ofChange elemInverseSpec)) elemInverseCard

/-- THE TIED CARD OF 'inequalitylaw02.ElemRight'. -/
def elemRightCard : Claim7 := { stood := { row := elemRightRow, standIns := [], harness := (true, "38df81ae323e7908555e53dd441207a01e1f32102fa57ea484a6eae5c6fda349"), looks := false }, kinds := [], alts := [], laidByText := true, laidKinds := [.data], laidTests := true, laidLooks := .later }
def ElemRightCardSaid : Prop := Claim7.holds Tryz.pinned (.plain (OpenSpec.ofChange elemRightSpec)) elemRightCard

/-- THE SECOND FORM's CARD OF 'inequalitylaw02.ElemOrder'. -/
def elemOrderUptoCard : Claim7 := { stood := { row := elemOrderUptoRow, standIns := [], harness := (true, "38df81ae323e7908555e53dd441207a01e1f32102fa57ea484a6eae5c6fda349"), looks := false }, kinds := [], alts := [], laidByText := true, laidKinds := [.data], laidTests := true, laidLooks := .later }
def ElemOrderUptoCardSaid : Prop := Claim7.holds Tryz.pinned (.plain (OpenSpec.upto elemOrderSpec)) elemOrderUptoCard

/-- THE SECOND FORM's CARD OF 'inequalitylaw02.ElemInverse'. -/
def elemInverseUptoCard : Claim7 := { stood := { row := elemInverseUptoRow, standIns := [], harness := (true, "38df81ae323e7908555e53dd441207a01e1f32102fa57ea484a6eae5c6fda349"), looks := false }, kinds := [], alts := [], laidByText := true, laidKinds := [.data], laidTests := true, laidLooks := .later }
def ElemInverseUptoCardSaid : Prop := Claim7.holds Tryz.pinned (.plain (OpenSpec.upto elemInverseSpec)) elemInverseUptoCard

/-- THE SECOND FORM's CARD OF 'inequalitylaw02.ElemRight'. -/
def elemRightUptoCard : Claim7 := { stood := { row := elemRightUptoRow, standIns := [], harness := (true, "38df81ae323e7908555e53dd441207a01e1f32102fa57ea484a6eae5c6fda349"), looks := false }, kinds := [], alts := [], laidByText := true, laidKinds := [.data], laidTests := true, laidLooks := .later }
def ElemRightUptoCardSaid : Prop := Claim7.holds Tryz.pinned (.plain (OpenSpec.upto elemRightSpec)) elemRightUptoCard
end Rows
end Go.Proofs.YtigakdgaimfnhaaGreatDoor
