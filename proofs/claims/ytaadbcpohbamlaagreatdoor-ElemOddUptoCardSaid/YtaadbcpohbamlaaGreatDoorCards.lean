/-
  DERIVED. GIVEN WITH THE SEED: THE CARDS: each row of YtaadbcpohbamlaaGreatDoorRows.lean that lists a variable, with what it lists TIED to the program's text (the seventh form; the later family's looks); each row that meets fmt, with fmt's text TOLD by the authors' own Lean function (tested against real Go, not proved from fmt's source: count such statements apart). THE CARD IS WHAT COUNTS. Prove the row's statement (the work); the ties are given (YtaadbcpohbamlaaGreatDoorTie.lean); close each card by the builder's one call (the guide's Derived/Test/ToyasCard.lean, 'card_holds'). Laid BY PROGRAM, IN A SANDBOX (cutbox-door.mjs). By AI agents, Wed Nov 11 2026. No macro, syntax, notation, axiom, sorry.
-/
import Derived.Test.YtaadbcpohbamlaaGreatDoorRows
import GoSem.ClaimSeven
namespace Go.Proofs.YtaadbcpohbamlaaGreatDoor
namespace Rows

/-- THE TIED CARD OF 'inequalitylaw02.ElemOdd'. -/
def elemOddCard : Claim7 := { stood := { row := elemOddRow, standIns := [], harness := (true, "42a90c03b33a7f3252ba1f780bf7287f42d56156e37c97fc73d6c082b7e8ca1d"), looks := false }, kinds := [], alts := [], laidByText := true, laidKinds := [.data], laidTests := true, laidLooks := .later }
def ElemOddCardSaid : Prop := Claim7.holds Tryz.pinned (.plain (OpenSpec.ofChange elemOddSpec)) elemOddCard

/-- THE TIED CARD OF 'inequalitylaw02.ElemTwice'. -/
def elemTwiceCard : Claim7 := { stood := { row := elemTwiceRow, standIns := [], harness := (true, "42a90c03b33a7f3252ba1f780bf7287f42d56156e37c97fc73d6c082b7e8ca1d"), looks := false }, kinds := [], alts := [], laidByText := true, laidKinds := [.data], laidTests := true, laidLooks := .later }
def ElemTwiceCardSaid : Prop := Claim7.holds Tryz.pinned (.plain (OpenSpec.ofChange elemTwiceSpec)) elemTwiceCard

/-- THE TIED CARD OF 'inequalitylaw02.ElemBrackets'. -/
def elemBracketsCard : Claim7 := { stood := { row := elemBracketsRow, standIns := [], harness := (true, "42a90c03b33a7f3252ba1f780bf7287f42d56156e37c97fc73d6c082b7e8ca1d"), looks := false }, kinds := [], alts := [], laidByText := true, laidKinds := [.data], laidTests := true, laidLooks := .later }
def ElemBracketsCardSaid : Prop := Claim7.holds Tryz.pinned (.plain (OpenSpec.ofChange elemBracketsSpec)) elemBracketsCard

/-- THE SECOND FORM's CARD OF 'inequalitylaw02.ElemOdd'. -/
def elemOddUptoCard : Claim7 := { stood := { row := elemOddUptoRow, standIns := [], harness := (true, "42a90c03b33a7f3252ba1f780bf7287f42d56156e37c97fc73d6c082b7e8ca1d"), looks := false }, kinds := [], alts := [], laidByText := true, laidKinds := [.data], laidTests := true, laidLooks := .later }
def ElemOddUptoCardSaid : Prop := Claim7.holds Tryz.pinned (.plain (OpenSpec.upto elemOddSpec)) elemOddUptoCard

/-- THE SECOND FORM's CARD OF 'inequalitylaw02.ElemTwice'. -/
def elemTwiceUptoCard : Claim7 := { stood := { row := elemTwiceUptoRow, standIns := [], harness := (true, "42a90c03b33a7f3252ba1f780bf7287f42d56156e37c97fc73d6c082b7e8ca1d"), looks := false }, kinds := [], alts := [], laidByText := true, laidKinds := [.data], laidTests := true, laidLooks := .later }
def ElemTwiceUptoCardSaid : Prop := Claim7.holds Tryz.pinned (.plain (OpenSpec.upto elemTwiceSpec)) elemTwiceUptoCard

/-- THE SECOND FORM's CARD OF 'inequalitylaw02.ElemBrackets'. -/
def elemBracketsUptoCard : Claim7 := { stood := { row := elemBracketsUptoRow, standIns := [], harness := (true, "42a90c03b33a7f3252ba1f780bf7287f42d56156e37c97fc73d6c082b7e8ca1d"), looks := false }, kinds := [], alts := [], laidByText := true, laidKinds := [.data], laidTests := true, laidLooks := .later }
def ElemBracketsUptoCardSaid : Prop := Claim7.holds Tryz.pinned (.plain (OpenSpec.upto elemBracketsSpec)) elemBracketsUptoCard
end Rows
end Go.Proofs.YtaadbcpohbamlaaGreatDoor
