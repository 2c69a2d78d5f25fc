/-
  DERIVED. GIVEN WITH THE SEED: THE CARDS: each row of YtdhfkmaejkgceaaGreatDoorRows.lean that lists a variable, with what it lists TIED to the program's text (the seventh form; the later family's looks); each row that meets fmt, with fmt's text TOLD by the authors' own Lean function (tested against real Go, not proved from fmt's source: count such statements apart). THE CARD IS WHAT COUNTS. Prove the row's statement (the work); the ties are given (YtdhfkmaejkgceaaGreatDoorTie.lean); close each card by the builder's one call (the guide's Derived/Test/ToyasCard.lean, 'card_holds'). Laid BY PROGRAM, IN A SANDBOX (cutbox-door.mjs). By AI agents, Wed Nov 11 2026. No macro, syntax, notation, axiom, sorry.
-/
import Derived.Test.YtdhfkmaejkgceaaGreatDoorRows
import GoSem.ClaimSeven
namespace Go.Proofs.YtdhfkmaejkgceaaGreatDoor
namespace Rows

/-- THE TIED CARD OF 'inequalitylaw05.EncloseDefinites'. -/
def encloseDefinitesCard : Claim7 := { stood := { row := encloseDefinitesRow, standIns := [], harness := (true, "be67013113b5fcc3849d521951b19ff8941ceb67eff8301c23683a5d92c13507"), looks := true }, kinds := [], alts := [], laidByText := true, laidKinds := [.data], laidTests := true, laidLooks := .later }
def EncloseDefinitesCardSaid : Prop := Claim7.holds Tryz.pinned (.plain (OpenSpec.ofChange encloseDefinitesSpec)) encloseDefinitesCard

/-- THE TIED CARD OF 'inequalitylaw05.EnclosePositive'. -/
def enclosePositiveCard : Claim7 := { stood := { row := enclosePositiveRow, standIns := [], harness := (true, "be67013113b5fcc3849d521951b19ff8941ceb67eff8301c23683a5d92c13507"), looks := true }, kinds := [], alts := [], laidByText := true, laidKinds := [.data], laidTests := true, laidLooks := .later }
def EnclosePositiveCardSaid : Prop := Claim7.holds Tryz.pinned (.plain (OpenSpec.ofChange enclosePositiveSpec)) enclosePositiveCard

/-- THE TIED CARD OF 'inequalitylaw05.EncloseSpreads'. -/
def encloseSpreadsCard : Claim7 := { stood := { row := encloseSpreadsRow, standIns := [], harness := (true, "be67013113b5fcc3849d521951b19ff8941ceb67eff8301c23683a5d92c13507"), looks := true }, kinds := [], alts := [], laidByText := true, laidKinds := [.data], laidTests := true, laidLooks := .later }
def EncloseSpreadsCardSaid : Prop := Claim7.holds Tryz.pinned (.plain (OpenSpec.ofChange encloseSpreadsSpec)) encloseSpreadsCard

/-- THE TIED CARD OF 'inequalitylaw05.EncloseSettled'. -/
def encloseSettledCard : Claim7 := { stood := { row := encloseSettledRow, standIns := [], harness := (true, "be67013113b5fcc3849d521951b19ff8941ceb67eff8301c23683a5d92c13507"), looks := true }, kinds := [], alts := [], laidByText := true, laidKinds := [.data], laidTests := true, laidLooks := .later }
def EncloseSettledCardSaid : Prop := Claim7.holds Tryz.pinned (.plain (OpenSpec.ofChange encloseSettledSpec)) encloseSettledCard

/-- THE TIED CARD OF 'inequalitylaw05.EncloseSubboxes'. -/
def encloseSubboxesCard : Claim7 := { stood := { row := encloseSubboxesRow, standIns := [], harness := (true, "be67013113b5fcc3849d521951b19ff8941ceb67eff8301c23683a5d92c13507"), looks := true }, kinds := [], alts := [], laidByText := true, laidKinds := [.data], laidTests := true, laidLooks := .later }
def EncloseSubboxesCardSaid : Prop := Claim7.holds Tryz.pinned (.plain (OpenSpec.ofChange encloseSubboxesSpec)) encloseSubboxesCard

/-- THE SECOND FORM's CARD OF 'inequalitylaw05.EncloseDefinites'. -/
def encloseDefinitesUptoCard : Claim7 := { stood := { row := encloseDefinitesUptoRow, standIns := [], harness := (true, "be67013113b5fcc3849d521951b19ff8941ceb67eff8301c23683a5d92c13507"), looks := true }, kinds := [], alts := [], laidByText := true, laidKinds := [.data], laidTests := true, laidLooks := .later }
def EncloseDefinitesUptoCardSaid : Prop := Claim7.holds Tryz.pinned (.plain (OpenSpec.upto encloseDefinitesSpec)) encloseDefinitesUptoCard

/-- THE SECOND FORM's CARD OF 'inequalitylaw05.EnclosePositive'. -/
def enclosePositiveUptoCard : Claim7 := { stood := { row := enclosePositiveUptoRow, standIns := [], harness := (true, "be67013113b5fcc3849d521951b19ff8941ceb67eff8301c23683a5d92c13507"), looks := true }, kinds := [], alts := [], laidByText := true, laidKinds := [.data], laidTests := true, laidLooks := .later }
def EnclosePositiveUptoCardSaid : Prop := Claim7.holds Tryz.pinned (.plain (OpenSpec.upto enclosePositiveSpec)) enclosePositiveUptoCard

/-- THE SECOND FORM's CARD OF 'inequalitylaw05.EncloseSpreads'. -/
def encloseSpreadsUptoCard : Claim7 := { stood := { row := encloseSpreadsUptoRow, standIns := [], harness := (true, "be67013113b5fcc3849d521951b19ff8941ceb67eff8301c23683a5d92c13507"), looks := true }, kinds := [], alts := [], laidByText := true, laidKinds := [.data], laidTests := true, laidLooks := .later }
def EncloseSpreadsUptoCardSaid : Prop := Claim7.holds Tryz.pinned (.plain (OpenSpec.upto encloseSpreadsSpec)) encloseSpreadsUptoCard

/-- THE SECOND FORM's CARD OF 'inequalitylaw05.EncloseSettled'. -/
def encloseSettledUptoCard : Claim7 := { stood := { row := encloseSettledUptoRow, standIns := [], harness := (true, "be67013113b5fcc3849d521951b19ff8941ceb67eff8301c23683a5d92c13507"), looks := true }, kinds := [], alts := [], laidByText := true, laidKinds := [.data], laidTests := true, laidLooks := .later }
def EncloseSettledUptoCardSaid : Prop := Claim7.holds Tryz.pinned (.plain (OpenSpec.upto encloseSettledSpec)) encloseSettledUptoCard

/-- THE SECOND FORM's CARD OF 'inequalitylaw05.EncloseSubboxes'. -/
def encloseSubboxesUptoCard : Claim7 := { stood := { row := encloseSubboxesUptoRow, standIns := [], harness := (true, "be67013113b5fcc3849d521951b19ff8941ceb67eff8301c23683a5d92c13507"), looks := true }, kinds := [], alts := [], laidByText := true, laidKinds := [.data], laidTests := true, laidLooks := .later }
def EncloseSubboxesUptoCardSaid : Prop := Claim7.holds Tryz.pinned (.plain (OpenSpec.upto encloseSubboxesSpec)) encloseSubboxesUptoCard
end Rows
end Go.Proofs.YtdhfkmaejkgceaaGreatDoor
