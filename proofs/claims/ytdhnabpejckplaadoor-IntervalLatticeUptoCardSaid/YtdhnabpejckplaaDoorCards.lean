/-
  DERIVED. GIVEN WITH THE SEED: THE CARDS: each row of YtdhnabpejckplaaDoorRows.lean that lists a variable, with what it lists TIED to the program's text (the seventh form; the later family's looks); each row that meets fmt, with fmt's text TOLD by the authors' own Lean function (tested against real Go, not proved from fmt's source: count such statements apart). THE CARD IS WHAT COUNTS. Prove the row's statement (the work); the ties are given (YtdhnabpejckplaaDoorTie.lean); close each card by the builder's one call (the guide's Derived/Test/ToyasCard.lean, 'card_holds'). Laid BY PROGRAM, IN A SANDBOX (cutbox-door.mjs). By AI agents, Wed Nov 11 2026. No macro, syntax, notation, axiom, sorry.
-/
import Derived.Test.YtdhnabpejckplaaDoorRows
import GoSem.ClaimSeven
namespace Go.Proofs.YtdhnabpejckplaaDoor
namespace Rows

/-- THE TIED CARD OF 'inequalitylaw03.IntervalRounds'. -/
def intervalRoundsCard : Claim7 := { stood := { row := intervalRoundsRow, standIns := [], harness := (true, "7e440a5d01669dcf872c37a32cf6af4767f1146fb2daed47cb4f34a865d1aa34"), looks := true }, kinds := [], alts := [], laidByText := true, laidKinds := [.data], laidTests := true, laidLooks := .later }
def IntervalRoundsCardSaid : Prop := Claim7.holds Tryd.pinned (.plain (OpenSpec.ofChange intervalRoundsSpec)) intervalRoundsCard

/-- THE TIED CARD OF 'inequalitylaw03.IntervalMakes'. -/
def intervalMakesCard : Claim7 := { stood := { row := intervalMakesRow, standIns := [], harness := (true, "7e440a5d01669dcf872c37a32cf6af4767f1146fb2daed47cb4f34a865d1aa34"), looks := true }, kinds := [], alts := [], laidByText := true, laidKinds := [.data], laidTests := true, laidLooks := .later }
def IntervalMakesCardSaid : Prop := Claim7.holds Tryd.pinned (.plain (OpenSpec.ofChange intervalMakesSpec)) intervalMakesCard

/-- THE TIED CARD OF 'inequalitylaw03.IntervalLeast'. -/
def intervalLeastCard : Claim7 := { stood := { row := intervalLeastRow, standIns := [], harness := (true, "7e440a5d01669dcf872c37a32cf6af4767f1146fb2daed47cb4f34a865d1aa34"), looks := true }, kinds := [], alts := [], laidByText := true, laidKinds := [.data], laidTests := true, laidLooks := .later }
def IntervalLeastCardSaid : Prop := Claim7.holds Tryd.pinned (.plain (OpenSpec.ofChange intervalLeastSpec)) intervalLeastCard

/-- THE TIED CARD OF 'inequalitylaw03.IntervalLimits'. -/
def intervalLimitsCard : Claim7 := { stood := { row := intervalLimitsRow, standIns := [], harness := (true, "7e440a5d01669dcf872c37a32cf6af4767f1146fb2daed47cb4f34a865d1aa34"), looks := true }, kinds := [], alts := [], laidByText := true, laidKinds := [.data], laidTests := true, laidLooks := .later }
def IntervalLimitsCardSaid : Prop := Claim7.holds Tryd.pinned (.plain (OpenSpec.ofChange intervalLimitsSpec)) intervalLimitsCard

/-- THE TIED CARD OF 'inequalitylaw03.IntervalHas'. -/
def intervalHasCard : Claim7 := { stood := { row := intervalHasRow, standIns := [], harness := (true, "7e440a5d01669dcf872c37a32cf6af4767f1146fb2daed47cb4f34a865d1aa34"), looks := true }, kinds := [], alts := [], laidByText := true, laidKinds := [.data], laidTests := true, laidLooks := .later }
def IntervalHasCardSaid : Prop := Claim7.holds Tryd.pinned (.plain (OpenSpec.ofChange intervalHasSpec)) intervalHasCard

/-- THE TIED CARD OF 'inequalitylaw03.IntervalMiddles'. -/
def intervalMiddlesCard : Claim7 := { stood := { row := intervalMiddlesRow, standIns := [], harness := (true, "7e440a5d01669dcf872c37a32cf6af4767f1146fb2daed47cb4f34a865d1aa34"), looks := true }, kinds := [], alts := [], laidByText := true, laidKinds := [.data], laidTests := true, laidLooks := .later }
def IntervalMiddlesCardSaid : Prop := Claim7.holds Tryd.pinned (.plain (OpenSpec.ofChange intervalMiddlesSpec)) intervalMiddlesCard

/-- THE TIED CARD OF 'inequalitylaw03.IntervalLattice'. -/
def intervalLatticeCard : Claim7 := { stood := { row := intervalLatticeRow, standIns := [], harness := (true, "7e440a5d01669dcf872c37a32cf6af4767f1146fb2daed47cb4f34a865d1aa34"), looks := true }, kinds := [], alts := [], laidByText := true, laidKinds := [.data], laidTests := true, laidLooks := .later }
def IntervalLatticeCardSaid : Prop := Claim7.holds Tryd.pinned (.plain (OpenSpec.ofChange intervalLatticeSpec)) intervalLatticeCard

/-- THE TIED CARD OF 'inequalitylaw03.IntervalGuess'. -/
def intervalGuessCard : Claim7 := { stood := { row := intervalGuessRow, standIns := [], harness := (true, "7e440a5d01669dcf872c37a32cf6af4767f1146fb2daed47cb4f34a865d1aa34"), looks := true }, kinds := [], alts := [], laidByText := true, laidKinds := [.data], laidTests := true, laidLooks := .later }
def IntervalGuessCardSaid : Prop := Claim7.holds Tryd.pinned (.plain (OpenSpec.ofChange intervalGuessSpec)) intervalGuessCard

/-- THE TIED CARD OF 'inequalitylaw03.IntervalOpposite'. -/
def intervalOppositeCard : Claim7 := { stood := { row := intervalOppositeRow, standIns := [], harness := (true, "7e440a5d01669dcf872c37a32cf6af4767f1146fb2daed47cb4f34a865d1aa34"), looks := true }, kinds := [], alts := [], laidByText := true, laidKinds := [.data], laidTests := true, laidLooks := .later }
def IntervalOppositeCardSaid : Prop := Claim7.holds Tryd.pinned (.plain (OpenSpec.ofChange intervalOppositeSpec)) intervalOppositeCard

/-- THE TIED CARD OF 'inequalitylaw03.IntervalInverse'. -/
def intervalInverseCard : Claim7 := { stood := { row := intervalInverseRow, standIns := [], harness := (true, "7e440a5d01669dcf872c37a32cf6af4767f1146fb2daed47cb4f34a865d1aa34"), looks := true }, kinds := [], alts := [], laidByText := true, laidKinds := [.data], laidTests := true, laidLooks := .later }
def IntervalInverseCardSaid : Prop := Claim7.holds Tryd.pinned (.plain (OpenSpec.ofChange intervalInverseSpec)) intervalInverseCard

/-- THE SECOND FORM's CARD OF 'inequalitylaw03.IntervalRounds'. -/
def intervalRoundsUptoCard : Claim7 := { stood := { row := intervalRoundsUptoRow, standIns := [], harness := (true, "7e440a5d01669dcf872c37a32cf6af4767f1146fb2daed47cb4f34a865d1aa34"), looks := true }, kinds := [], alts := [], laidByText := true, laidKinds := [.data], laidTests := true, laidLooks := .later }
def IntervalRoundsUptoCardSaid : Prop := Claim7.holds Tryd.pinned (.plain (OpenSpec.upto intervalRoundsSpec)) intervalRoundsUptoCard

/-- THE SECOND FORM's CARD OF 'inequalitylaw03.IntervalMakes'. -/
def intervalMakesUptoCard : Claim7 := { stood := { row := intervalMakesUptoRow, standIns := [], harness := (true, "7e440a5d01669dcf872c37a32cf6af4767f1146fb2daed47cb4f34a865d1aa34"), looks := true }, kinds := [], alts := [], laidByText := true, laidKinds := [.data], laidTests := true, laidLooks := .later }
def IntervalMakesUptoCardSaid : Prop := Claim7.holds Tryd.pinned (.plain (OpenSpec.upto intervalMakesSpec)) intervalMakesUptoCard

/-- THE SECOND FORM's CARD OF 'inequalitylaw03.IntervalLeast'. -/
def intervalLeastUptoCard : Claim7 := { stood := { row := intervalLeastUptoRow, standIns := [], harness := (true, "7e440a5d01669dcf872c37a32cf6af4767f1146fb2daed47cb4f34a865d1aa34"), looks := true }, kinds := [], alts := [], laidByText := true, laidKinds := [.data], laidTests := true, laidLooks := .later }
def IntervalLeastUptoCardSaid : Prop := Claim7.holds Tryd.pinned (.plain (OpenSpec.upto intervalLeastSpec)) intervalLeastUptoCard

/-- THE SECOND FORM's CARD OF 'inequalitylaw03.IntervalLimits'. -/
def intervalLimitsUptoCard : Claim7 := { stood := { row := intervalLimitsUptoRow, standIns := [], harness := (true, "7e440a5d01669dcf872c37a32cf6af4767f1146fb2daed47cb4f34a865d1aa34"), looks := true }, kinds := [], alts := [], laidByText := true, laidKinds := [.data], laidTests := true, laidLooks := .later }
def IntervalLimitsUptoCardSaid : Prop := Claim7.holds Tryd.pinned (.plain (OpenSpec.upto intervalLimitsSpec)) intervalLimitsUptoCard

/-- THE SECOND FORM's CARD OF 'inequalitylaw03.IntervalHas'. -/
def intervalHasUptoCard : Claim7 := { stood := { row := intervalHasUptoRow, standIns := [], harness := (true, "7e440a5d01669dcf872c37a32cf6af4767f1146fb2daed47cb4f34a865d1aa34"), looks := true }, kinds := [], alts := [], laidByText := true, laidKinds := [.data], laidTests := true, laidLooks := .later }
def IntervalHasUptoCardSaid : Prop := Claim7.holds Tryd.pinned (.plain (OpenSpec.upto intervalHasSpec)) intervalHasUptoCard

/-- THE SECOND FORM's CARD OF 'inequalitylaw03.IntervalMiddles'. -/
def intervalMiddlesUptoCard : Claim7 := { stood := { row := intervalMiddlesUptoRow, standIns := [], harness := (true, "7e440a5d01669dcf872c37a32cf6af4767f1146fb2daed47cb4f34a865d1aa34"), looks := true }, kinds := [], alts := [], laidByText := true, laidKinds := [.data], laidTests := true, laidLooks := .later }
def IntervalMiddlesUptoCardSaid : Prop := Claim7.holds Tryd.pinned (.plain (OpenSpec.upto intervalMiddlesSpec)) intervalMiddlesUptoCard

/-- THE SECOND FORM's CARD OF 'inequalitylaw03.IntervalLattice'. -/
def intervalLatticeUptoCard : Claim7 := { stood := { row := intervalLatticeUptoRow, standIns := [], harness := (true, "7e440a5d01669dcf872c37a32cf6af4767f1146fb2daed47cb4f34a865d1aa34"), looks := true }, kinds := [], alts := [], laidByText := true, laidKinds := [.data], laidTests := true, laidLooks := .later }
def IntervalLatticeUptoCardSaid : Prop := Claim7.holds Tryd.pinned (.plain (OpenSpec.upto intervalLatticeSpec)) intervalLatticeUptoCard

/-- THE SECOND FORM's CARD OF 'inequalitylaw03.IntervalGuess'. -/
def intervalGuessUptoCard : Claim7 := { stood := { row := intervalGuessUptoRow, standIns := [], harness := (true, "7e440a5d01669dcf872c37a32cf6af4767f1146fb2daed47cb4f34a865d1aa34"), looks := true }, kinds := [], alts := [], laidByText := true, laidKinds := [.data], laidTests := true, laidLooks := .later }
def IntervalGuessUptoCardSaid : Prop := Claim7.holds Tryd.pinned (.plain (OpenSpec.upto intervalGuessSpec)) intervalGuessUptoCard

/-- THE SECOND FORM's CARD OF 'inequalitylaw03.IntervalOpposite'. -/
def intervalOppositeUptoCard : Claim7 := { stood := { row := intervalOppositeUptoRow, standIns := [], harness := (true, "7e440a5d01669dcf872c37a32cf6af4767f1146fb2daed47cb4f34a865d1aa34"), looks := true }, kinds := [], alts := [], laidByText := true, laidKinds := [.data], laidTests := true, laidLooks := .later }
def IntervalOppositeUptoCardSaid : Prop := Claim7.holds Tryd.pinned (.plain (OpenSpec.upto intervalOppositeSpec)) intervalOppositeUptoCard

/-- THE SECOND FORM's CARD OF 'inequalitylaw03.IntervalInverse'. -/
def intervalInverseUptoCard : Claim7 := { stood := { row := intervalInverseUptoRow, standIns := [], harness := (true, "7e440a5d01669dcf872c37a32cf6af4767f1146fb2daed47cb4f34a865d1aa34"), looks := true }, kinds := [], alts := [], laidByText := true, laidKinds := [.data], laidTests := true, laidLooks := .later }
def IntervalInverseUptoCardSaid : Prop := Claim7.holds Tryd.pinned (.plain (OpenSpec.upto intervalInverseSpec)) intervalInverseUptoCard
end Rows
end Go.Proofs.YtdhnabpejckplaaDoor
