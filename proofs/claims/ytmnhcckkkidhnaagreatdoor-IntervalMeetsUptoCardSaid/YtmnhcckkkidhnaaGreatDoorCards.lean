/-
  DERIVED. GIVEN WITH THE SEED: THE CARDS: each row of YtmnhcckkkidhnaaGreatDoorRows.lean that lists a variable, with what it lists TIED to the program's text (the seventh form; the later family's looks); each row that meets fmt, with fmt's text TOLD by the authors' own Lean function (tested against real Go, not proved from fmt's source: count such statements apart). THE CARD IS WHAT COUNTS. Prove the row's statement (the work); the ties are given (YtmnhcckkkidhnaaGreatDoorTie.lean); close each card by the builder's one call (the guide's Derived/Test/ToyasCard.lean, 'card_holds'). Laid BY PROGRAM, IN A SANDBOX (cutbox-door.mjs). By AI agents, Wed Nov 11 2026. No macro, syntax, notation, axiom, sorry.
-/
import Derived.Test.YtmnhcckkkidhnaaGreatDoorRows
import GoSem.ClaimSeven
namespace Go.Proofs.YtmnhcckkkidhnaaGreatDoor
namespace Rows

/-- THE TIED CARD OF 'inequalitylaw03.IntervalAdds'. -/
def intervalAddsCard : Claim7 := { stood := { row := intervalAddsRow, standIns := [], harness := (true, "14d66f9e01311d6933ff5b8131ad6309a1b9429999ea050100c200b069003f25"), looks := true }, kinds := [], alts := [], laidByText := true, laidKinds := [.data], laidTests := true, laidLooks := .later }
def IntervalAddsCardSaid : Prop := Claim7.holds Tryz.pinned (.plain (OpenSpec.ofChange intervalAddsSpec)) intervalAddsCard

/-- THE TIED CARD OF 'inequalitylaw03.IntervalSides'. -/
def intervalSidesCard : Claim7 := { stood := { row := intervalSidesRow, standIns := [], harness := (true, "14d66f9e01311d6933ff5b8131ad6309a1b9429999ea050100c200b069003f25"), looks := true }, kinds := [], alts := [], laidByText := true, laidKinds := [.data], laidTests := true, laidLooks := .later }
def IntervalSidesCardSaid : Prop := Claim7.holds Tryz.pinned (.plain (OpenSpec.ofChange intervalSidesSpec)) intervalSidesCard

/-- THE TIED CARD OF 'inequalitylaw03.IntervalCanons'. -/
def intervalCanonsCard : Claim7 := { stood := { row := intervalCanonsRow, standIns := [], harness := (true, "14d66f9e01311d6933ff5b8131ad6309a1b9429999ea050100c200b069003f25"), looks := true }, kinds := [], alts := [], laidByText := true, laidKinds := [.data], laidTests := true, laidLooks := .later }
def IntervalCanonsCardSaid : Prop := Claim7.holds Tryz.pinned (.plain (OpenSpec.ofChange intervalCanonsSpec)) intervalCanonsCard

/-- THE TIED CARD OF 'inequalitylaw03.IntervalMeets'. -/
def intervalMeetsCard : Claim7 := { stood := { row := intervalMeetsRow, standIns := [], harness := (true, "14d66f9e01311d6933ff5b8131ad6309a1b9429999ea050100c200b069003f25"), looks := true }, kinds := [], alts := [], laidByText := true, laidKinds := [.data], laidTests := true, laidLooks := .later }
def IntervalMeetsCardSaid : Prop := Claim7.holds Tryz.pinned (.plain (OpenSpec.ofChange intervalMeetsSpec)) intervalMeetsCard

/-- THE SECOND FORM's CARD OF 'inequalitylaw03.IntervalAdds'. -/
def intervalAddsUptoCard : Claim7 := { stood := { row := intervalAddsUptoRow, standIns := [], harness := (true, "14d66f9e01311d6933ff5b8131ad6309a1b9429999ea050100c200b069003f25"), looks := true }, kinds := [], alts := [], laidByText := true, laidKinds := [.data], laidTests := true, laidLooks := .later }
def IntervalAddsUptoCardSaid : Prop := Claim7.holds Tryz.pinned (.plain (OpenSpec.upto intervalAddsSpec)) intervalAddsUptoCard

/-- THE SECOND FORM's CARD OF 'inequalitylaw03.IntervalSides'. -/
def intervalSidesUptoCard : Claim7 := { stood := { row := intervalSidesUptoRow, standIns := [], harness := (true, "14d66f9e01311d6933ff5b8131ad6309a1b9429999ea050100c200b069003f25"), looks := true }, kinds := [], alts := [], laidByText := true, laidKinds := [.data], laidTests := true, laidLooks := .later }
def IntervalSidesUptoCardSaid : Prop := Claim7.holds Tryz.pinned (.plain (OpenSpec.upto intervalSidesSpec)) intervalSidesUptoCard

/-- THE SECOND FORM's CARD OF 'inequalitylaw03.IntervalCanons'. -/
def intervalCanonsUptoCard : Claim7 := { stood := { row := intervalCanonsUptoRow, standIns := [], harness := (true, "14d66f9e01311d6933ff5b8131ad6309a1b9429999ea050100c200b069003f25"), looks := true }, kinds := [], alts := [], laidByText := true, laidKinds := [.data], laidTests := true, laidLooks := .later }
def IntervalCanonsUptoCardSaid : Prop := Claim7.holds Tryz.pinned (.plain (OpenSpec.upto intervalCanonsSpec)) intervalCanonsUptoCard

/-- THE SECOND FORM's CARD OF 'inequalitylaw03.IntervalMeets'. -/
def intervalMeetsUptoCard : Claim7 := { stood := { row := intervalMeetsUptoRow, standIns := [], harness := (true, "14d66f9e01311d6933ff5b8131ad6309a1b9429999ea050100c200b069003f25"), looks := true }, kinds := [], alts := [], laidByText := true, laidKinds := [.data], laidTests := true, laidLooks := .later }
def IntervalMeetsUptoCardSaid : Prop := Claim7.holds Tryz.pinned (.plain (OpenSpec.upto intervalMeetsSpec)) intervalMeetsUptoCard
end Rows
end Go.Proofs.YtmnhcckkkidhnaaGreatDoor
