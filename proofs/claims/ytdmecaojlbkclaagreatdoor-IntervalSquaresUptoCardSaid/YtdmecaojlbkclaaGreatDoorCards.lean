/-
  DERIVED. GIVEN WITH THE SEED: THE CARDS: each row of YtdmecaojlbkclaaGreatDoorRows.lean that lists a variable, with what it lists TIED to the program's text (the seventh form; the later family's looks); each row that meets fmt, with fmt's text TOLD by the authors' own Lean function (tested against real Go, not proved from fmt's source: count such statements apart). THE CARD IS WHAT COUNTS. Prove the row's statement (the work); the ties are given (YtdmecaojlbkclaaGreatDoorTie.lean); close each card by the builder's one call (the guide's Derived/Test/ToyasCard.lean, 'card_holds'). Laid BY PROGRAM, IN A SANDBOX (cutbox-door.mjs). By AI agents, Wed Nov 11 2026. No macro, syntax, notation, axiom, sorry.
-/
import Derived.Test.YtdmecaojlbkclaaGreatDoorRows
import GoSem.ClaimSeven
namespace Go.Proofs.YtdmecaojlbkclaaGreatDoor
namespace Rows

/-- THE TIED CARD OF 'inequalitylaw03.IntervalRoots'. -/
def intervalRootsCard : Claim7 := { stood := { row := intervalRootsRow, standIns := [], harness := (true, "f444818ce2ab4b3e381ae2a3a8257d2ab843d156995e94f75f24d809ed1ad20a"), looks := true }, kinds := [], alts := [], laidByText := true, laidKinds := [.data], laidTests := true, laidLooks := .later }
def IntervalRootsCardSaid : Prop := Claim7.holds Tryz.pinned (.plain (OpenSpec.ofChange intervalRootsSpec)) intervalRootsCard

/-- THE TIED CARD OF 'inequalitylaw03.IntervalPows'. -/
def intervalPowsCard : Claim7 := { stood := { row := intervalPowsRow, standIns := [], harness := (true, "f444818ce2ab4b3e381ae2a3a8257d2ab843d156995e94f75f24d809ed1ad20a"), looks := true }, kinds := [], alts := [], laidByText := true, laidKinds := [.data], laidTests := true, laidLooks := .later }
def IntervalPowsCardSaid : Prop := Claim7.holds Tryz.pinned (.plain (OpenSpec.ofChange intervalPowsSpec)) intervalPowsCard

/-- THE TIED CARD OF 'inequalitylaw03.IntervalMuls'. -/
def intervalMulsCard : Claim7 := { stood := { row := intervalMulsRow, standIns := [], harness := (true, "f444818ce2ab4b3e381ae2a3a8257d2ab843d156995e94f75f24d809ed1ad20a"), looks := true }, kinds := [], alts := [], laidByText := true, laidKinds := [.data], laidTests := true, laidLooks := .later }
def IntervalMulsCardSaid : Prop := Claim7.holds Tryz.pinned (.plain (OpenSpec.ofChange intervalMulsSpec)) intervalMulsCard

/-- THE TIED CARD OF 'inequalitylaw03.IntervalSquares'. -/
def intervalSquaresCard : Claim7 := { stood := { row := intervalSquaresRow, standIns := [], harness := (true, "f444818ce2ab4b3e381ae2a3a8257d2ab843d156995e94f75f24d809ed1ad20a"), looks := true }, kinds := [], alts := [], laidByText := true, laidKinds := [.data], laidTests := true, laidLooks := .later }
def IntervalSquaresCardSaid : Prop := Claim7.holds Tryz.pinned (.plain (OpenSpec.ofChange intervalSquaresSpec)) intervalSquaresCard

/-- THE SECOND FORM's CARD OF 'inequalitylaw03.IntervalRoots'. -/
def intervalRootsUptoCard : Claim7 := { stood := { row := intervalRootsUptoRow, standIns := [], harness := (true, "f444818ce2ab4b3e381ae2a3a8257d2ab843d156995e94f75f24d809ed1ad20a"), looks := true }, kinds := [], alts := [], laidByText := true, laidKinds := [.data], laidTests := true, laidLooks := .later }
def IntervalRootsUptoCardSaid : Prop := Claim7.holds Tryz.pinned (.plain (OpenSpec.upto intervalRootsSpec)) intervalRootsUptoCard

/-- THE SECOND FORM's CARD OF 'inequalitylaw03.IntervalPows'. -/
def intervalPowsUptoCard : Claim7 := { stood := { row := intervalPowsUptoRow, standIns := [], harness := (true, "f444818ce2ab4b3e381ae2a3a8257d2ab843d156995e94f75f24d809ed1ad20a"), looks := true }, kinds := [], alts := [], laidByText := true, laidKinds := [.data], laidTests := true, laidLooks := .later }
def IntervalPowsUptoCardSaid : Prop := Claim7.holds Tryz.pinned (.plain (OpenSpec.upto intervalPowsSpec)) intervalPowsUptoCard

/-- THE SECOND FORM's CARD OF 'inequalitylaw03.IntervalMuls'. -/
def intervalMulsUptoCard : Claim7 := { stood := { row := intervalMulsUptoRow, standIns := [], harness := (true, "f444818ce2ab4b3e381ae2a3a8257d2ab843d156995e94f75f24d809ed1ad20a"), looks := true }, kinds := [], alts := [], laidByText := true, laidKinds := [.data], laidTests := true, laidLooks := .later }
def IntervalMulsUptoCardSaid : Prop := Claim7.holds Tryz.pinned (.plain (OpenSpec.upto intervalMulsSpec)) intervalMulsUptoCard

/-- THE SECOND FORM's CARD OF 'inequalitylaw03.IntervalSquares'. -/
def intervalSquaresUptoCard : Claim7 := { stood := { row := intervalSquaresUptoRow, standIns := [], harness := (true, "f444818ce2ab4b3e381ae2a3a8257d2ab843d156995e94f75f24d809ed1ad20a"), looks := true }, kinds := [], alts := [], laidByText := true, laidKinds := [.data], laidTests := true, laidLooks := .later }
def IntervalSquaresUptoCardSaid : Prop := Claim7.holds Tryz.pinned (.plain (OpenSpec.upto intervalSquaresSpec)) intervalSquaresUptoCard
end Rows
end Go.Proofs.YtdmecaojlbkclaaGreatDoor
