/-
  DERIVED. GIVEN WITH THE SEED: THE CARDS: each row of YtpipfclemmbmcaaGreatDoorRows.lean that lists a variable, with what it lists TIED to the program's text (the seventh form; the later family's looks); each row that meets fmt, with fmt's text TOLD by the authors' own Lean function (tested against real Go, not proved from fmt's source: count such statements apart). THE CARD IS WHAT COUNTS. Prove the row's statement (the work); the ties are given (YtpipfclemmbmcaaGreatDoorTie.lean); close each card by the builder's one call (the guide's Derived/Test/ToyasCard.lean, 'card_holds'). Laid BY PROGRAM, IN A SANDBOX (cutbox-door.mjs). By AI agents, Wed Nov 11 2026. No macro, syntax, notation, axiom, sorry.
-/
import Derived.Test.YtpipfclemmbmcaaGreatDoorRows
import GoSem.ClaimSeven
namespace Go.Proofs.YtpipfclemmbmcaaGreatDoor
namespace Rows

/-- THE TIED CARD OF 'inequalitylaw05.EncloseBoxes'. -/
def encloseBoxesCard : Claim7 := { stood := { row := encloseBoxesRow, standIns := [], harness := (true, "b27fc46a7c1a988159e78823145ecc67ef7ad975fafe5f49e568e2d66ec89115"), looks := true }, kinds := [], alts := [], laidByText := true, laidKinds := [.data], laidTests := true, laidLooks := .later }
def EncloseBoxesCardSaid : Prop := Claim7.holds Tryz.pinned (.plain (OpenSpec.ofChange encloseBoxesSpec)) encloseBoxesCard

/-- THE TIED CARD OF 'inequalitylaw05.EncloseWidest'. -/
def encloseWidestCard : Claim7 := { stood := { row := encloseWidestRow, standIns := [], harness := (true, "b27fc46a7c1a988159e78823145ecc67ef7ad975fafe5f49e568e2d66ec89115"), looks := true }, kinds := [], alts := [], laidByText := true, laidKinds := [.data], laidTests := true, laidLooks := .later }
def EncloseWidestCardSaid : Prop := Claim7.holds Tryz.pinned (.plain (OpenSpec.ofChange encloseWidestSpec)) encloseWidestCard

/-- THE TIED CARD OF 'inequalitylaw05.EnclosePuts'. -/
def enclosePutsCard : Claim7 := { stood := { row := enclosePutsRow, standIns := [], harness := (true, "b27fc46a7c1a988159e78823145ecc67ef7ad975fafe5f49e568e2d66ec89115"), looks := true }, kinds := [], alts := [], laidByText := true, laidKinds := [.data], laidTests := true, laidLooks := .later }
def EnclosePutsCardSaid : Prop := Claim7.holds Tryz.pinned (.plain (OpenSpec.ofChange enclosePutsSpec)) enclosePutsCard

/-- THE TIED CARD OF 'inequalitylaw05.EncloseDefinites'. -/
def encloseDefinitesCard : Claim7 := { stood := { row := encloseDefinitesRow, standIns := [], harness := (true, "b27fc46a7c1a988159e78823145ecc67ef7ad975fafe5f49e568e2d66ec89115"), looks := true }, kinds := [], alts := [], laidByText := true, laidKinds := [.data], laidTests := true, laidLooks := .later }
def EncloseDefinitesCardSaid : Prop := Claim7.holds Tryz.pinned (.plain (OpenSpec.ofChange encloseDefinitesSpec)) encloseDefinitesCard

/-- THE TIED CARD OF 'inequalitylaw05.EnclosePoints'. -/
def enclosePointsCard : Claim7 := { stood := { row := enclosePointsRow, standIns := [], harness := (true, "b27fc46a7c1a988159e78823145ecc67ef7ad975fafe5f49e568e2d66ec89115"), looks := true }, kinds := [], alts := [], laidByText := true, laidKinds := [.data], laidTests := true, laidLooks := .later }
def EnclosePointsCardSaid : Prop := Claim7.holds Tryz.pinned (.plain (OpenSpec.ofChange enclosePointsSpec)) enclosePointsCard

/-- THE TIED CARD OF 'inequalitylaw05.EncloseCenters'. -/
def encloseCentersCard : Claim7 := { stood := { row := encloseCentersRow, standIns := [], harness := (true, "b27fc46a7c1a988159e78823145ecc67ef7ad975fafe5f49e568e2d66ec89115"), looks := true }, kinds := [], alts := [], laidByText := true, laidKinds := [.data], laidTests := true, laidLooks := .later }
def EncloseCentersCardSaid : Prop := Claim7.holds Tryz.pinned (.plain (OpenSpec.ofChange encloseCentersSpec)) encloseCentersCard

/-- THE SECOND FORM's CARD OF 'inequalitylaw05.EncloseBoxes'. -/
def encloseBoxesUptoCard : Claim7 := { stood := { row := encloseBoxesUptoRow, standIns := [], harness := (true, "b27fc46a7c1a988159e78823145ecc67ef7ad975fafe5f49e568e2d66ec89115"), looks := true }, kinds := [], alts := [], laidByText := true, laidKinds := [.data], laidTests := true, laidLooks := .later }
def EncloseBoxesUptoCardSaid : Prop := Claim7.holds Tryz.pinned (.plain (OpenSpec.upto encloseBoxesSpec)) encloseBoxesUptoCard

/-- THE SECOND FORM's CARD OF 'inequalitylaw05.EncloseWidest'. -/
def encloseWidestUptoCard : Claim7 := { stood := { row := encloseWidestUptoRow, standIns := [], harness := (true, "b27fc46a7c1a988159e78823145ecc67ef7ad975fafe5f49e568e2d66ec89115"), looks := true }, kinds := [], alts := [], laidByText := true, laidKinds := [.data], laidTests := true, laidLooks := .later }
def EncloseWidestUptoCardSaid : Prop := Claim7.holds Tryz.pinned (.plain (OpenSpec.upto encloseWidestSpec)) encloseWidestUptoCard

/-- THE SECOND FORM's CARD OF 'inequalitylaw05.EnclosePuts'. -/
def enclosePutsUptoCard : Claim7 := { stood := { row := enclosePutsUptoRow, standIns := [], harness := (true, "b27fc46a7c1a988159e78823145ecc67ef7ad975fafe5f49e568e2d66ec89115"), looks := true }, kinds := [], alts := [], laidByText := true, laidKinds := [.data], laidTests := true, laidLooks := .later }
def EnclosePutsUptoCardSaid : Prop := Claim7.holds Tryz.pinned (.plain (OpenSpec.upto enclosePutsSpec)) enclosePutsUptoCard

/-- THE SECOND FORM's CARD OF 'inequalitylaw05.EncloseDefinites'. -/
def encloseDefinitesUptoCard : Claim7 := { stood := { row := encloseDefinitesUptoRow, standIns := [], harness := (true, "b27fc46a7c1a988159e78823145ecc67ef7ad975fafe5f49e568e2d66ec89115"), looks := true }, kinds := [], alts := [], laidByText := true, laidKinds := [.data], laidTests := true, laidLooks := .later }
def EncloseDefinitesUptoCardSaid : Prop := Claim7.holds Tryz.pinned (.plain (OpenSpec.upto encloseDefinitesSpec)) encloseDefinitesUptoCard

/-- THE SECOND FORM's CARD OF 'inequalitylaw05.EnclosePoints'. -/
def enclosePointsUptoCard : Claim7 := { stood := { row := enclosePointsUptoRow, standIns := [], harness := (true, "b27fc46a7c1a988159e78823145ecc67ef7ad975fafe5f49e568e2d66ec89115"), looks := true }, kinds := [], alts := [], laidByText := true, laidKinds := [.data], laidTests := true, laidLooks := .later }
def EnclosePointsUptoCardSaid : Prop := Claim7.holds Tryz.pinned (.plain (OpenSpec.upto enclosePointsSpec)) enclosePointsUptoCard

/-- THE SECOND FORM's CARD OF 'inequalitylaw05.EncloseCenters'. -/
def encloseCentersUptoCard : Claim7 := { stood := { row := encloseCentersUptoRow, standIns := [], harness := (true, "b27fc46a7c1a988159e78823145ecc67ef7ad975fafe5f49e568e2d66ec89115"), looks := true }, kinds := [], alts := [], laidByText := true, laidKinds := [.data], laidTests := true, laidLooks := .later }
def EncloseCentersUptoCardSaid : Prop := Claim7.holds Tryz.pinned (.plain (OpenSpec.upto encloseCentersSpec)) encloseCentersUptoCard
end Rows
end Go.Proofs.YtpipfclemmbmcaaGreatDoor
