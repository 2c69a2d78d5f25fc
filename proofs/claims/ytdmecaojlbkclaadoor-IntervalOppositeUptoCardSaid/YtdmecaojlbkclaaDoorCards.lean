/-
  DERIVED. GIVEN WITH THE SEED: THE CARDS: each row of YtdmecaojlbkclaaDoorRows.lean that lists a variable, with what it lists TIED to the program's text (the seventh form; the later family's looks); each row that meets fmt, with fmt's text TOLD by the authors' own Lean function (tested against real Go, not proved from fmt's source: count such statements apart). THE CARD IS WHAT COUNTS. Prove the row's statement (the work); the ties are given (YtdmecaojlbkclaaDoorTie.lean); close each card by the builder's one call (the guide's Derived/Test/ToyasCard.lean, 'card_holds'). Laid BY PROGRAM, IN A SANDBOX (cutbox-door.mjs). By AI agents, Wed Nov 11 2026. No macro, syntax, notation, axiom, sorry.
-/
import Derived.Test.YtdmecaojlbkclaaDoorRows
import GoSem.ClaimSeven
namespace Go.Proofs.YtdmecaojlbkclaaDoor
namespace Rows

/-- THE TIED CARD OF 'inequalitylaw03.IntervalOpposite'. -/
def intervalOppositeCard : Claim7 := { stood := { row := intervalOppositeRow, standIns := [], harness := (true, "c62bfeb995f9a94a6bcfb8e872e5c94a91a1f212af2fe819569140dd589dbb10"), looks := true }, kinds := [], alts := [], laidByText := true, laidKinds := [.data], laidTests := true, laidLooks := .later }
def IntervalOppositeCardSaid : Prop := Claim7.holds Tryd.pinned (.plain (OpenSpec.ofChange intervalOppositeSpec)) intervalOppositeCard

/-- THE TIED CARD OF 'inequalitylaw03.IntervalInverse'. -/
def intervalInverseCard : Claim7 := { stood := { row := intervalInverseRow, standIns := [], harness := (true, "c62bfeb995f9a94a6bcfb8e872e5c94a91a1f212af2fe819569140dd589dbb10"), looks := true }, kinds := [], alts := [], laidByText := true, laidKinds := [.data], laidTests := true, laidLooks := .later }
def IntervalInverseCardSaid : Prop := Claim7.holds Tryd.pinned (.plain (OpenSpec.ofChange intervalInverseSpec)) intervalInverseCard

/-- THE SECOND FORM's CARD OF 'inequalitylaw03.IntervalOpposite'. -/
def intervalOppositeUptoCard : Claim7 := { stood := { row := intervalOppositeUptoRow, standIns := [], harness := (true, "c62bfeb995f9a94a6bcfb8e872e5c94a91a1f212af2fe819569140dd589dbb10"), looks := true }, kinds := [], alts := [], laidByText := true, laidKinds := [.data], laidTests := true, laidLooks := .later }
def IntervalOppositeUptoCardSaid : Prop := Claim7.holds Tryd.pinned (.plain (OpenSpec.upto intervalOppositeSpec)) intervalOppositeUptoCard

/-- THE SECOND FORM's CARD OF 'inequalitylaw03.IntervalInverse'. -/
def intervalInverseUptoCard : Claim7 := { stood := { row := intervalInverseUptoRow, standIns := [], harness := (true, "c62bfeb995f9a94a6bcfb8e872e5c94a91a1f212af2fe819569140dd589dbb10"), looks := true }, kinds := [], alts := [], laidByText := true, laidKinds := [.data], laidTests := true, laidLooks := .later }
def IntervalInverseUptoCardSaid : Prop := Claim7.holds Tryd.pinned (.plain (OpenSpec.upto intervalInverseSpec)) intervalInverseUptoCard
end Rows
end Go.Proofs.YtdmecaojlbkclaaDoor
