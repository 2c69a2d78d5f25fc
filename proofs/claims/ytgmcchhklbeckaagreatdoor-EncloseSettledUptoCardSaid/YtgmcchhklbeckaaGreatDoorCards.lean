/-
  DERIVED. GIVEN WITH THE SEED: THE CARDS: each row of YtgmcchhklbeckaaGreatDoorRows.lean that lists a variable, with what it lists TIED to the program's text (the seventh form; the later family's looks); each row that meets fmt, with fmt's text TOLD by the authors' own Lean function (tested against real Go, not proved from fmt's source: count such statements apart). THE CARD IS WHAT COUNTS. Prove the row's statement (the work); the ties are given (YtgmcchhklbeckaaGreatDoorTie.lean); close each card by the builder's one call (the guide's Derived/Test/ToyasCard.lean, 'card_holds'). Laid BY PROGRAM, IN A SANDBOX (cutbox-door.mjs). By AI agents, Wed Nov 11 2026. No macro, syntax, notation, axiom, sorry.
-/
import Derived.Test.YtgmcchhklbeckaaGreatDoorRows
import GoSem.ClaimSeven
namespace Go.Proofs.YtgmcchhklbeckaaGreatDoor
namespace Rows

/-- THE TIED CARD OF 'inequalitylaw05.EncloseSubboxes'. -/
def encloseSubboxesCard : Claim7 := { stood := { row := encloseSubboxesRow, standIns := [], harness := (true, "72c2a8556348462a58d3dac931f7424a5189de697672ee0d913151ac4fe53788"), looks := true }, kinds := [], alts := [], laidByText := true, laidKinds := [.data], laidTests := true, laidLooks := .later }
def EncloseSubboxesCardSaid : Prop := Claim7.holds Tryz.pinned (.plain (OpenSpec.ofChange encloseSubboxesSpec)) encloseSubboxesCard

/-- THE TIED CARD OF 'inequalitylaw05.EncloseSettled'. -/
def encloseSettledCard : Claim7 := { stood := { row := encloseSettledRow, standIns := [], harness := (true, "72c2a8556348462a58d3dac931f7424a5189de697672ee0d913151ac4fe53788"), looks := true }, kinds := [], alts := [], laidByText := true, laidKinds := [.data], laidTests := true, laidLooks := .later }
def EncloseSettledCardSaid : Prop := Claim7.holds Tryz.pinned (.plain (OpenSpec.ofChange encloseSettledSpec)) encloseSettledCard

/-- THE TIED CARD OF 'inequalitylaw05.EncloseSpreads'. -/
def encloseSpreadsCard : Claim7 := { stood := { row := encloseSpreadsRow, standIns := [], harness := (true, "72c2a8556348462a58d3dac931f7424a5189de697672ee0d913151ac4fe53788"), looks := true }, kinds := [], alts := [], laidByText := true, laidKinds := [.data], laidTests := true, laidLooks := .later }
def EncloseSpreadsCardSaid : Prop := Claim7.holds Tryz.pinned (.plain (OpenSpec.ofChange encloseSpreadsSpec)) encloseSpreadsCard

/-- THE SECOND FORM's CARD OF 'inequalitylaw05.EncloseSubboxes'. -/
def encloseSubboxesUptoCard : Claim7 := { stood := { row := encloseSubboxesUptoRow, standIns := [], harness := (true, "72c2a8556348462a58d3dac931f7424a5189de697672ee0d913151ac4fe53788"), looks := true }, kinds := [], alts := [], laidByText := true, laidKinds := [.data], laidTests := true, laidLooks := .later }
def EncloseSubboxesUptoCardSaid : Prop := Claim7.holds Tryz.pinned (.plain (OpenSpec.upto encloseSubboxesSpec)) encloseSubboxesUptoCard

/-- THE SECOND FORM's CARD OF 'inequalitylaw05.EncloseSettled'. -/
def encloseSettledUptoCard : Claim7 := { stood := { row := encloseSettledUptoRow, standIns := [], harness := (true, "72c2a8556348462a58d3dac931f7424a5189de697672ee0d913151ac4fe53788"), looks := true }, kinds := [], alts := [], laidByText := true, laidKinds := [.data], laidTests := true, laidLooks := .later }
def EncloseSettledUptoCardSaid : Prop := Claim7.holds Tryz.pinned (.plain (OpenSpec.upto encloseSettledSpec)) encloseSettledUptoCard

/-- THE SECOND FORM's CARD OF 'inequalitylaw05.EncloseSpreads'. -/
def encloseSpreadsUptoCard : Claim7 := { stood := { row := encloseSpreadsUptoRow, standIns := [], harness := (true, "72c2a8556348462a58d3dac931f7424a5189de697672ee0d913151ac4fe53788"), looks := true }, kinds := [], alts := [], laidByText := true, laidKinds := [.data], laidTests := true, laidLooks := .later }
def EncloseSpreadsUptoCardSaid : Prop := Claim7.holds Tryz.pinned (.plain (OpenSpec.upto encloseSpreadsSpec)) encloseSpreadsUptoCard
end Rows
end Go.Proofs.YtgmcchhklbeckaaGreatDoor
