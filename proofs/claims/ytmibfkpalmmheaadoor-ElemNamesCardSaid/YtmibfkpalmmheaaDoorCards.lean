/-
  DERIVED. GIVEN WITH THE SEED: THE CARDS: each row of YtmibfkpalmmheaaDoorRows.lean that lists a variable, with what it lists TIED to the program's text (the seventh form; the later family's looks); each row that meets fmt, with fmt's text TOLD by the authors' own Lean function (tested against real Go, not proved from fmt's source: count such statements apart). THE CARD IS WHAT COUNTS. Prove the row's statement (the work); the ties are given (YtmibfkpalmmheaaDoorTie.lean); close each card by the builder's one call (the guide's Derived/Test/ToyasCard.lean, 'card_holds'). Laid BY PROGRAM, IN A SANDBOX (cutbox-door.mjs). By AI agents, Wed Nov 11 2026. No macro, syntax, notation, axiom, sorry.
-/
import Derived.Test.YtmibfkpalmmheaaDoorRows
import GoSem.ClaimSeven
namespace Go.Proofs.YtmibfkpalmmheaaDoor
namespace Rows

/-- THE TIED CARD OF 'inequalitylaw02.ElemDomains'. -/
def elemDomainsCard : Claim7 := { stood := { row := elemDomainsRow, standIns := [], harness := (true, "51aa40f79f0247d14e0ac403c9a481f15ad2a53a9ae90ccb38b7feb2475d89a7"), looks := false }, kinds := [], alts := [], laidByText := true, laidKinds := [.data], laidTests := true, laidLooks := .later }
def ElemDomainsCardSaid : Prop := Claim7.holds Tryd.pinned (.plain (OpenSpec.ofChange elemDomainsSpec)) elemDomainsCard

/-- THE TIED CARD OF 'inequalitylaw02.ElemNames'. -/
def elemNamesCard : Claim7 := { stood := { row := elemNamesRow, standIns := [], harness := (true, "51aa40f79f0247d14e0ac403c9a481f15ad2a53a9ae90ccb38b7feb2475d89a7"), looks := false }, kinds := [], alts := [], laidByText := true, laidKinds := [.data], laidTests := true, laidLooks := .later }
def ElemNamesCardSaid : Prop := Claim7.holds Tryd.pinned (.plain (OpenSpec.ofChange elemNamesSpec)) elemNamesCard

/-- THE TIED CARD OF 'inequalitylaw02.ElemTurnsCover'. -/
def elemTurnsCoverCard : Claim7 := { stood := { row := elemTurnsCoverRow, standIns := [], harness := (true, "51aa40f79f0247d14e0ac403c9a481f15ad2a53a9ae90ccb38b7feb2475d89a7"), looks := false }, kinds := [], alts := [], laidByText := true, laidKinds := [.data], laidTests := true, laidLooks := .later }
def ElemTurnsCoverCardSaid : Prop := Claim7.holds Tryd.pinned (.plain (OpenSpec.ofChange elemTurnsCoverSpec)) elemTurnsCoverCard

/-- THE SECOND FORM's CARD OF 'inequalitylaw02.ElemDomains'. -/
def elemDomainsUptoCard : Claim7 := { stood := { row := elemDomainsUptoRow, standIns := [], harness := (true, "51aa40f79f0247d14e0ac403c9a481f15ad2a53a9ae90ccb38b7feb2475d89a7"), looks := false }, kinds := [], alts := [], laidByText := true, laidKinds := [.data], laidTests := true, laidLooks := .later }
def ElemDomainsUptoCardSaid : Prop := Claim7.holds Tryd.pinned (.plain (OpenSpec.upto elemDomainsSpec)) elemDomainsUptoCard

/-- THE SECOND FORM's CARD OF 'inequalitylaw02.ElemNames'. -/
def elemNamesUptoCard : Claim7 := { stood := { row := elemNamesUptoRow, standIns := [], harness := (true, "51aa40f79f0247d14e0ac403c9a481f15ad2a53a9ae90ccb38b7feb2475d89a7"), looks := false }, kinds := [], alts := [], laidByText := true, laidKinds := [.data], laidTests := true, laidLooks := .later }
def ElemNamesUptoCardSaid : Prop := Claim7.holds Tryd.pinned (.plain (OpenSpec.upto elemNamesSpec)) elemNamesUptoCard

/-- THE SECOND FORM's CARD OF 'inequalitylaw02.ElemTurnsCover'. -/
def elemTurnsCoverUptoCard : Claim7 := { stood := { row := elemTurnsCoverUptoRow, standIns := [], harness := (true, "51aa40f79f0247d14e0ac403c9a481f15ad2a53a9ae90ccb38b7feb2475d89a7"), looks := false }, kinds := [], alts := [], laidByText := true, laidKinds := [.data], laidTests := true, laidLooks := .later }
def ElemTurnsCoverUptoCardSaid : Prop := Claim7.holds Tryd.pinned (.plain (OpenSpec.upto elemTurnsCoverSpec)) elemTurnsCoverUptoCard
end Rows
end Go.Proofs.YtmibfkpalmmheaaDoor
