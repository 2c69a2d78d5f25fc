/-
  NARROWER THAN 'FOR EVERY INPUT', by the rows' own cells (each row's printed sentence says how): ElemDomains: laid · ElemNames: laid · ElemTurnsCover: laid.
  DERIVED. THE GIVEN ROWS OF THIS SEAT. 3 by the template 'for every input the law returns true; each argument reads behind the call as it read before'; 0 by the template 'total and deterministic' (their statements: YtmibfkpalmmheaaDoorTotals.lean).
  GIVEN WITH THE SEED: the statements are not yours to turn. If you find one false, say at which input.
  Laid BY PROGRAM, IN A SANDBOX (cutbox-rows.mjs): the forced cells as the released guide's own fill.sh prints them over the translation c554d09ecbeed94b… (all of the seat's roots in one cut). By AI agents, Wed Nov 11 2026. No macro, syntax, notation, axiom, sorry.
-/
import Derived.Test.YtmibfkpalmmheaaDoorChecked
import GoSem.Claim
import GoSem.ClaimJoined
import GoSem.ClaimMapViews
import Derived.JoinedTies
import Derived.KernelRfl
namespace Go.Proofs.YtmibfkpalmmheaaDoor
/- THE CELL 'sum', in the pinned program and in every row, IS THE sha256 OF THE DUMP (.gsa) THAT YtmibfkpalmmheaaDoorProg.lean LOADS. Nothing in Lean hashes anything: it is a label: what it is worth is what the hold of that sum in a sandbox is worth. -/
noncomputable def Tryd.pinned : Pinned := { name := "ytmibfkpalmmheaadoor", sum := "c554d09ecbeed94b04f2850399fc10ba2324f71a680b9c95a8d80db162b867ce", checked := Tryd.checked }
namespace Rows
def none {H : Type} : Left H := { results := [], args := [] }

/- WHAT THE LISTED PACKAGE-LEVEL VARIABLES READ AS WHEN THE CALL BEGINS. Each datum BY PROGRAM (the guide's laid-datum.mjs) off the statement by which the dump's own 'gosem.cut.vars' lays the variable. In a bare row this is a premise. The card (YtmibfkpalmmheaaDoorCards.lean) ties it to the program's text. -/
def laid_math_bits_deBruijn32tab {H : Type} : DataW H := .agg [.lit (.int .u8 0), .lit (.int .u8 1), .lit (.int .u8 28), .lit (.int .u8 2), .lit (.int .u8 29), .lit (.int .u8 14), .lit (.int .u8 24), .lit (.int .u8 3), .lit (.int .u8 30), .lit (.int .u8 22), .lit (.int .u8 20), .lit (.int .u8 15), .lit (.int .u8 25), .lit (.int .u8 17), .lit (.int .u8 4), .lit (.int .u8 8), .lit (.int .u8 31), .lit (.int .u8 27), .lit (.int .u8 13), .lit (.int .u8 23), .lit (.int .u8 21), .lit (.int .u8 19), .lit (.int .u8 16), .lit (.int .u8 7), .lit (.int .u8 26), .lit (.int .u8 12), .lit (.int .u8 18), .lit (.int .u8 6), .lit (.int .u8 11), .lit (.int .u8 5), .lit (.int .u8 10), .lit (.int .u8 9)]

/-- 'inequalitylaw02.ElemDomains': WHATEVER THE INPUT: true; the input reads as it did. -/
def elemDomainsSpec : ChangeSpec := { name := "elemDomains", fn := fun _ => fun
  | [d1, d2] => { results := [.lit (.bool true)], args := [d1, d2] }
  | _ => none }
def elemDomainsRow : OpenClaim := { program := "ytmibfkpalmmheaadoor", sum := "c554d09ecbeed94b04f2850399fc10ba2324f71a680b9c95a8d80db162b867ce", func := "inequality/inequalitylaw02.ElemDomains", spec := "elemDomains", unfollowed := true, recurses := true, named := ["math/bits.deBruijn32tab"], apart := false, laid := [("math/bits.deBruijn32tab", laid_math_bits_deBruijn32tab)] }
def ElemDomainsSaid : Prop := elemDomainsRow.holds Tryd.pinned (OpenSpec.ofChange elemDomainsSpec)

/-- ITS FALSE NEIGHBOUR: 'it returns false'. Refute it at one input. -/
def elemDomainsWrong : ChangeSpec := { name := "elemDomains", fn := fun _ => fun
  | [d1, d2] => { results := [.lit (.bool false)], args := [d1, d2] }
  | _ => none }
def ElemDomainsWrongFalsely : Prop := elemDomainsRow.holds Tryd.pinned (OpenSpec.ofChange elemDomainsWrong)

/-- 'inequalitylaw02.ElemNames': WHATEVER THE INPUT: true; the input reads as it did. -/
def elemNamesSpec : ChangeSpec := { name := "elemNames", fn := fun _ => fun
  | [d1, d2] => { results := [.lit (.bool true)], args := [d1, d2] }
  | _ => none }
def elemNamesRow : OpenClaim := { program := "ytmibfkpalmmheaadoor", sum := "c554d09ecbeed94b04f2850399fc10ba2324f71a680b9c95a8d80db162b867ce", func := "inequality/inequalitylaw02.ElemNames", spec := "elemNames", unfollowed := true, recurses := true, named := ["math/bits.deBruijn32tab"], apart := false, laid := [("math/bits.deBruijn32tab", laid_math_bits_deBruijn32tab)] }
def ElemNamesSaid : Prop := elemNamesRow.holds Tryd.pinned (OpenSpec.ofChange elemNamesSpec)

/-- ITS FALSE NEIGHBOUR: 'it returns false'. Refute it at one input. -/
def elemNamesWrong : ChangeSpec := { name := "elemNames", fn := fun _ => fun
  | [d1, d2] => { results := [.lit (.bool false)], args := [d1, d2] }
  | _ => none }
def ElemNamesWrongFalsely : Prop := elemNamesRow.holds Tryd.pinned (OpenSpec.ofChange elemNamesWrong)

/-- 'inequalitylaw02.ElemTurnsCover': WHATEVER THE INPUT: true; the input reads as it did. -/
def elemTurnsCoverSpec : ChangeSpec := { name := "elemTurnsCover", fn := fun _ => fun
  | [d1, d2, d3] => { results := [.lit (.bool true)], args := [d1, d2, d3] }
  | _ => none }
def elemTurnsCoverRow : OpenClaim := { program := "ytmibfkpalmmheaadoor", sum := "c554d09ecbeed94b04f2850399fc10ba2324f71a680b9c95a8d80db162b867ce", func := "inequality/inequalitylaw02.ElemTurnsCover", spec := "elemTurnsCover", unfollowed := true, recurses := true, named := ["math/bits.deBruijn32tab"], apart := false, laid := [("math/bits.deBruijn32tab", laid_math_bits_deBruijn32tab)] }
def ElemTurnsCoverSaid : Prop := elemTurnsCoverRow.holds Tryd.pinned (OpenSpec.ofChange elemTurnsCoverSpec)

/-- ITS FALSE NEIGHBOUR: 'it returns false'. Refute it at one input. -/
def elemTurnsCoverWrong : ChangeSpec := { name := "elemTurnsCover", fn := fun _ => fun
  | [d1, d2, d3] => { results := [.lit (.bool false)], args := [d1, d2, d3] }
  | _ => none }
def ElemTurnsCoverWrongFalsely : Prop := elemTurnsCoverRow.holds Tryd.pinned (OpenSpec.ofChange elemTurnsCoverWrong)

/- THE SECOND FORM. 'bulk': how many values and letters a reading holds, each counted each time it is reached (what is shared counts as often as it is met; a slice's spare places count too). A statement '..UptoSaid' is the law's where the arguments, and the package variables that the reading takes, are together of bulk at most 1048576: NARROWER than '..Said'. Prove '..Said' where nothing that the law and all that it calls make is longer than what came in: it says more and counts as full. Else prove '..UptoSaid'. A law counts once. -/
mutual
def uptoBulk {H : Type} : DataW H → Nat
  | .lit (.string bytes) => bytes.length + 1
  | .lit _ => 1
  | .nil => 1
  | .ptr d => uptoBulk d + 1
  | .slice elems spare => uptoBulkAll elems + uptoBulkAll spare + 1
  | .agg parts => uptoBulkAll parts + 1
  | .iface _ d => uptoBulk d + 1
  | .map entries => uptoBulkEntries entries + 1
  | .held _ => 1
def uptoBulkAll {H : Type} : List (DataW H) → Nat
  | [] => 0
  | d :: r => uptoBulk d + uptoBulkAll r
def uptoBulkEntries {H : Type} : List (Lit × DataW H) → Nat
  | [] => 0
  | x :: r => uptoBulkEntry x + uptoBulkEntries r
def uptoBulkEntry {H : Type} : Lit × DataW H → Nat
  | (.string bytes, d) => bytes.length + uptoBulk d + 1
  | (_, d) => uptoBulk d + 1
 end
def uptoSmall : (H : Type) → List (DataW H) → Bool := fun _ ds => decide (uptoBulkAll ds ≤ 1048576)
def OpenSpec.upto (s : _root_.Go.ChangeSpec) : _root_.Go.OpenSpec := { _root_.Go.OpenSpec.ofChange s with cond := some uptoSmall }

/-- 'inequalitylaw02.ElemDomains', WHERE WHAT IT READS IS OF BULK AT MOST 1048576: true; the input reads as it did. -/
def elemDomainsUptoRow : OpenClaim := { program := "ytmibfkpalmmheaadoor", sum := "c554d09ecbeed94b04f2850399fc10ba2324f71a680b9c95a8d80db162b867ce", func := "inequality/inequalitylaw02.ElemDomains", spec := "elemDomains", unfollowed := true, recurses := true, named := ["math/bits.deBruijn32tab"], apart := false, laid := [("math/bits.deBruijn32tab", laid_math_bits_deBruijn32tab)], narrowed := true }
def ElemDomainsUptoSaid : Prop := elemDomainsUptoRow.holds Tryd.pinned (OpenSpec.upto elemDomainsSpec)

/-- 'inequalitylaw02.ElemNames', WHERE WHAT IT READS IS OF BULK AT MOST 1048576: true; the input reads as it did. -/
def elemNamesUptoRow : OpenClaim := { program := "ytmibfkpalmmheaadoor", sum := "c554d09ecbeed94b04f2850399fc10ba2324f71a680b9c95a8d80db162b867ce", func := "inequality/inequalitylaw02.ElemNames", spec := "elemNames", unfollowed := true, recurses := true, named := ["math/bits.deBruijn32tab"], apart := false, laid := [("math/bits.deBruijn32tab", laid_math_bits_deBruijn32tab)], narrowed := true }
def ElemNamesUptoSaid : Prop := elemNamesUptoRow.holds Tryd.pinned (OpenSpec.upto elemNamesSpec)

/-- 'inequalitylaw02.ElemTurnsCover', WHERE WHAT IT READS IS OF BULK AT MOST 1048576: true; the input reads as it did. -/
def elemTurnsCoverUptoRow : OpenClaim := { program := "ytmibfkpalmmheaadoor", sum := "c554d09ecbeed94b04f2850399fc10ba2324f71a680b9c95a8d80db162b867ce", func := "inequality/inequalitylaw02.ElemTurnsCover", spec := "elemTurnsCover", unfollowed := true, recurses := true, named := ["math/bits.deBruijn32tab"], apart := false, laid := [("math/bits.deBruijn32tab", laid_math_bits_deBruijn32tab)], narrowed := true }
def ElemTurnsCoverUptoSaid : Prop := elemTurnsCoverUptoRow.holds Tryd.pinned (OpenSpec.upto elemTurnsCoverSpec)

end Rows
end Go.Proofs.YtmibfkpalmmheaaDoor
