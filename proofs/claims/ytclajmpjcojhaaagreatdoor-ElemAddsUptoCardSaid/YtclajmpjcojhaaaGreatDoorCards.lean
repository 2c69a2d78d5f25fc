/-
  DERIVED. GIVEN WITH THE SEED: THE CARDS: each row of YtclajmpjcojhaaaGreatDoorRows.lean that lists a variable, with what it lists TIED to the program's text (the seventh form; the later family's looks); each row that meets fmt, with fmt's text TOLD by the authors' own Lean function (tested against real Go, not proved from fmt's source: count such statements apart). THE CARD IS WHAT COUNTS. Prove the row's statement (the work); the ties are given (YtclajmpjcojhaaaGreatDoorTie.lean); close each card by the builder's one call (the guide's Derived/Test/ToyasCard.lean, 'card_holds'). Laid BY PROGRAM, IN A SANDBOX (cutbox-door.mjs). By AI agents, Wed Nov 11 2026. No macro, syntax, notation, axiom, sorry.
-/
import Derived.Test.YtclajmpjcojhaaaGreatDoorRows
import GoSem.ClaimSeven
namespace Go.Proofs.YtclajmpjcojhaaaGreatDoor
namespace Rows

/-- THE TIED CARD OF 'inequalitylaw02.ElemCircle'. -/
def elemCircleCard : Claim7 := { stood := { row := elemCircleRow, standIns := [], harness := (true, "fb4cea62a112fb564f78a8d944da032e23cff4ccd17b3e249473ede2ae5a1c40"), looks := false }, kinds := [], alts := [], laidByText := true, laidKinds := [.data], laidTests := true, laidLooks := .later }
def ElemCircleCardSaid : Prop := Claim7.holds Tryz.pinned (.plain (OpenSpec.ofChange elemCircleSpec)) elemCircleCard

/-- THE TIED CARD OF 'inequalitylaw02.ElemLogs'. -/
def elemLogsCard : Claim7 := { stood := { row := elemLogsRow, standIns := [], harness := (true, "fb4cea62a112fb564f78a8d944da032e23cff4ccd17b3e249473ede2ae5a1c40"), looks := false }, kinds := [], alts := [], laidByText := true, laidKinds := [.data], laidTests := true, laidLooks := .later }
def ElemLogsCardSaid : Prop := Claim7.holds Tryz.pinned (.plain (OpenSpec.ofChange elemLogsSpec)) elemLogsCard

/-- THE TIED CARD OF 'inequalitylaw02.ElemAdds'. -/
def elemAddsCard : Claim7 := { stood := { row := elemAddsRow, standIns := [], harness := (true, "fb4cea62a112fb564f78a8d944da032e23cff4ccd17b3e249473ede2ae5a1c40"), looks := false }, kinds := [], alts := [], laidByText := true, laidKinds := [.data], laidTests := true, laidLooks := .later }
def ElemAddsCardSaid : Prop := Claim7.holds Tryz.pinned (.plain (OpenSpec.ofChange elemAddsSpec)) elemAddsCard

/-- THE SECOND FORM's CARD OF 'inequalitylaw02.ElemCircle'. -/
def elemCircleUptoCard : Claim7 := { stood := { row := elemCircleUptoRow, standIns := [], harness := (true, "fb4cea62a112fb564f78a8d944da032e23cff4ccd17b3e249473ede2ae5a1c40"), looks := false }, kinds := [], alts := [], laidByText := true, laidKinds := [.data], laidTests := true, laidLooks := .later }
def ElemCircleUptoCardSaid : Prop := Claim7.holds Tryz.pinned (.plain (OpenSpec.upto elemCircleSpec)) elemCircleUptoCard

/-- THE SECOND FORM's CARD OF 'inequalitylaw02.ElemLogs'. -/
def elemLogsUptoCard : Claim7 := { stood := { row := elemLogsUptoRow, standIns := [], harness := (true, "fb4cea62a112fb564f78a8d944da032e23cff4ccd17b3e249473ede2ae5a1c40"), looks := false }, kinds := [], alts := [], laidByText := true, laidKinds := [.data], laidTests := true, laidLooks := .later }
def ElemLogsUptoCardSaid : Prop := Claim7.holds Tryz.pinned (.plain (OpenSpec.upto elemLogsSpec)) elemLogsUptoCard

/-- THE SECOND FORM's CARD OF 'inequalitylaw02.ElemAdds'. -/
def elemAddsUptoCard : Claim7 := { stood := { row := elemAddsUptoRow, standIns := [], harness := (true, "fb4cea62a112fb564f78a8d944da032e23cff4ccd17b3e249473ede2ae5a1c40"), looks := false }, kinds := [], alts := [], laidByText := true, laidKinds := [.data], laidTests := true, laidLooks := .later }
def ElemAddsUptoCardSaid : Prop := Claim7.holds Tryz.pinned (.plain (OpenSpec.upto elemAddsSpec)) elemAddsUptoCard
end Rows
end Go.Proofs.YtclajmpjcojhaaaGreatDoor
