/-
  DERIVED. GIVEN WITH THE SEED: THE CARDS: each row of YtbeoaipbdfbmoaaGreatDoorRows.lean that lists a variable, with what it lists TIED to the program's text (the seventh form; the later family's looks); each row that meets fmt, with fmt's text TOLD by the authors' own Lean function (tested against real Go, not proved from fmt's source: count such statements apart). THE CARD IS WHAT COUNTS. Prove the row's statement (the work); the ties are given (YtbeoaipbdfbmoaaGreatDoorTie.lean); close each card by the builder's one call (the guide's Derived/Test/ToyasCard.lean, 'card_holds'). Laid BY PROGRAM, IN A SANDBOX (cutbox-door.mjs). By AI agents, Wed Nov 11 2026. No macro, syntax, notation, axiom, sorry.
-/
import Derived.Test.YtbeoaipbdfbmoaaGreatDoorRows
import GoSem.ClaimSeven
namespace Go.Proofs.YtbeoaipbdfbmoaaGreatDoor
namespace Rows

/-- THE TIED CARD OF 'inequalitylaw05.EnclosePuts'. -/
def enclosePutsCard : Claim7 := { stood := { row := enclosePutsRow, standIns := [], harness := (true, "6fddaa22b550a3886d532d8752db855600130cc3be34dd5e4bf260b4636bc408"), looks := true }, kinds := [], alts := [], laidByText := true, laidKinds := [.data], laidTests := true, laidLooks := .later }
def EnclosePutsCardSaid : Prop := Claim7.holds Tryz.pinned (.plain (OpenSpec.ofChange enclosePutsSpec)) enclosePutsCard

/-- THE TIED CARD OF 'inequalitylaw05.EncloseDefinites'. -/
def encloseDefinitesCard : Claim7 := { stood := { row := encloseDefinitesRow, standIns := [], harness := (true, "6fddaa22b550a3886d532d8752db855600130cc3be34dd5e4bf260b4636bc408"), looks := true }, kinds := [], alts := [], laidByText := true, laidKinds := [.data], laidTests := true, laidLooks := .later }
def EncloseDefinitesCardSaid : Prop := Claim7.holds Tryz.pinned (.plain (OpenSpec.ofChange encloseDefinitesSpec)) encloseDefinitesCard

/-- THE TIED CARD OF 'inequalitylaw05.EncloseSettled'. -/
def encloseSettledCard : Claim7 := { stood := { row := encloseSettledRow, standIns := [], harness := (true, "6fddaa22b550a3886d532d8752db855600130cc3be34dd5e4bf260b4636bc408"), looks := true }, kinds := [], alts := [], laidByText := true, laidKinds := [.data], laidTests := true, laidLooks := .later }
def EncloseSettledCardSaid : Prop := Claim7.holds Tryz.pinned (.plain (OpenSpec.ofChange encloseSettledSpec)) encloseSettledCard

/-- THE TIED CARD OF 'inequalitylaw05.EnclosePositive'. -/
def enclosePositiveCard : Claim7 := { stood := { row := enclosePositiveRow, standIns := [], harness := (true, "6fddaa22b550a3886d532d8752db855600130cc3be34dd5e4bf260b4636bc408"), looks := true }, kinds := [], alts := [], laidByText := true, laidKinds := [.data], laidTests := true, laidLooks := .later }
def EnclosePositiveCardSaid : Prop := Claim7.holds Tryz.pinned (.plain (OpenSpec.ofChange enclosePositiveSpec)) enclosePositiveCard

/-- THE TIED CARD OF 'inequalitylaw05.EncloseCenters'. -/
def encloseCentersCard : Claim7 := { stood := { row := encloseCentersRow, standIns := [], harness := (true, "6fddaa22b550a3886d532d8752db855600130cc3be34dd5e4bf260b4636bc408"), looks := true }, kinds := [], alts := [], laidByText := true, laidKinds := [.data], laidTests := true, laidLooks := .later }
def EncloseCentersCardSaid : Prop := Claim7.holds Tryz.pinned (.plain (OpenSpec.ofChange encloseCentersSpec)) encloseCentersCard

/-- THE TIED CARD OF 'inequalitylaw05.EncloseSpreads'. -/
def encloseSpreadsCard : Claim7 := { stood := { row := encloseSpreadsRow, standIns := [], harness := (true, "6fddaa22b550a3886d532d8752db855600130cc3be34dd5e4bf260b4636bc408"), looks := true }, kinds := [], alts := [], laidByText := true, laidKinds := [.data], laidTests := true, laidLooks := .later }
def EncloseSpreadsCardSaid : Prop := Claim7.holds Tryz.pinned (.plain (OpenSpec.ofChange encloseSpreadsSpec)) encloseSpreadsCard

/-- THE SECOND FORM's CARD OF 'inequalitylaw05.EnclosePuts'. -/
def enclosePutsUptoCard : Claim7 := { stood := { row := enclosePutsUptoRow, standIns := [], harness := (true, "6fddaa22b550a3886d532d8752db855600130cc3be34dd5e4bf260b4636bc408"), looks := true }, kinds := [], alts := [], laidByText := true, laidKinds := [.data], laidTests := true, laidLooks := .later }
def EnclosePutsUptoCardSaid : Prop := Claim7.holds Tryz.pinned (.plain (OpenSpec.upto enclosePutsSpec)) enclosePutsUptoCard

/-- THE SECOND FORM's CARD OF 'inequalitylaw05.EncloseDefinites'. -/
def encloseDefinitesUptoCard : Claim7 := { stood := { row := encloseDefinitesUptoRow, standIns := [], harness := (true, "6fddaa22b550a3886d532d8752db855600130cc3be34dd5e4bf260b4636bc408"), looks := true }, kinds := [], alts := [], laidByText := true, laidKinds := [.data], laidTests := true, laidLooks := .later }
def EncloseDefinitesUptoCardSaid : Prop := Claim7.holds Tryz.pinned (.plain (OpenSpec.upto encloseDefinitesSpec)) encloseDefinitesUptoCard

/-- THE SECOND FORM's CARD OF 'inequalitylaw05.EncloseSettled'. -/
def encloseSettledUptoCard : Claim7 := { stood := { row := encloseSettledUptoRow, standIns := [], harness := (true, "6fddaa22b550a3886d532d8752db855600130cc3be34dd5e4bf260b4636bc408"), looks := true }, kinds := [], alts := [], laidByText := true, laidKinds := [.data], laidTests := true, laidLooks := .later }
def EncloseSettledUptoCardSaid : Prop := Claim7.holds Tryz.pinned (.plain (OpenSpec.upto encloseSettledSpec)) encloseSettledUptoCard

/-- THE SECOND FORM's CARD OF 'inequalitylaw05.EnclosePositive'. -/
def enclosePositiveUptoCard : Claim7 := { stood := { row := enclosePositiveUptoRow, standIns := [], harness := (true, "6fddaa22b550a3886d532d8752db855600130cc3be34dd5e4bf260b4636bc408"), looks := true }, kinds := [], alts := [], laidByText := true, laidKinds := [.data], laidTests := true, laidLooks := .later }
def EnclosePositiveUptoCardSaid : Prop := Claim7.holds Tryz.pinned (.plain (OpenSpec.upto enclosePositiveSpec)) enclosePositiveUptoCard

/-- THE SECOND FORM's CARD OF 'inequalitylaw05.EncloseCenters'. -/
def encloseCentersUptoCard : Claim7 := { stood := { row := encloseCentersUptoRow, standIns := [], harness := (true, "6fddaa22b550a3886d532d8752db855600130cc3be34dd5e4bf260b4636bc408"), looks := true }, kinds := [], alts := [], laidByText := true, laidKinds := [.data], laidTests := true, laidLooks := .later }
def EncloseCentersUptoCardSaid : Prop := Claim7.holds Tryz.pinned (.plain (OpenSpec.upto encloseCentersSpec)) encloseCentersUptoCard

/-- THE SECOND FORM's CARD OF 'inequalitylaw05.EncloseSpreads'. -/
def encloseSpreadsUptoCard : Claim7 := { stood := { row := encloseSpreadsUptoRow, standIns := [], harness := (true, "6fddaa22b550a3886d532d8752db855600130cc3be34dd5e4bf260b4636bc408"), looks := true }, kinds := [], alts := [], laidByText := true, laidKinds := [.data], laidTests := true, laidLooks := .later }
def EncloseSpreadsUptoCardSaid : Prop := Claim7.holds Tryz.pinned (.plain (OpenSpec.upto encloseSpreadsSpec)) encloseSpreadsUptoCard
end Rows
end Go.Proofs.YtbeoaipbdfbmoaaGreatDoor
