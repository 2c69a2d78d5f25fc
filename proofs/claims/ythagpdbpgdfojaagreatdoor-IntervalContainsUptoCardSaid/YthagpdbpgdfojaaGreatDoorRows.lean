/-
  NARROWER THAN 'FOR EVERY INPUT', by the rows' own cells (each row's printed sentence says how): IntervalIsotone: laid · IntervalParts: laid · IntervalContains: laid.
  DERIVED. THE GIVEN ROWS OF THIS SEAT. 3 by the template 'for every input the law returns true; each argument reads behind the call as it read before'; 0 by the template 'total and deterministic' (their statements: YthagpdbpgdfojaaGreatDoorTotals.lean).
  GIVEN WITH THE SEED: the statements are not yours to turn. If you find one false, say at which input.
  Laid BY PROGRAM, IN A SANDBOX (cutbox-rows.mjs): the forced cells as the released guide's own fill.sh prints them over the translation bb618bbf1107c60f… (all of the seat's roots in one cut). By AI agents, Wed Nov 11 2026. No macro, syntax, notation, axiom, sorry.
-/
import Derived.Test.YthagpdbpgdfojaaGreatDoorChecked
import GoSem.Claim
import GoSem.ClaimJoined
import GoSem.ClaimMapViews
import Derived.JoinedTies
import Derived.KernelRfl
namespace Go.Proofs.YthagpdbpgdfojaaGreatDoor
/- THE CELL 'sum', in the pinned program and in every row, IS THE sha256 OF THE DUMP (.gsa) THAT YthagpdbpgdfojaaGreatDoorProg.lean LOADS. Nothing in Lean hashes anything: it is a label: what it is worth is what the hold of that sum in a sandbox is worth. -/
noncomputable def Tryz.pinned : Pinned := { name := "ythagpdbpgdfojaagreatdoor", sum := "bb618bbf1107c60fa2b5b2c3ce18a880108941bff9312ef436c13366bd225fd0", checked := Tryz.checked }
namespace Rows
def none {H : Type} : Left H := { results := [], args := [] }

/- WHAT THE LISTED PACKAGE-LEVEL VARIABLES READ AS WHEN THE CALL BEGINS. Each datum BY PROGRAM (the guide's laid-datum.mjs) off the statement by which the dump's own 'gosem.cut.vars' lays the variable. In a bare row this is a premise. The card (YthagpdbpgdfojaaGreatDoorCards.lean) ties it to the program's text. -/
def laid_math_bits_deBruijn32tab {H : Type} : DataW H := .agg [.lit (.int .u8 0), .lit (.int .u8 1), .lit (.int .u8 28), .lit (.int .u8 2), .lit (.int .u8 29), .lit (.int .u8 14), .lit (.int .u8 24), .lit (.int .u8 3), .lit (.int .u8 30), .lit (.int .u8 22), .lit (.int .u8 20), .lit (.int .u8 15), .lit (.int .u8 25), .lit (.int .u8 17), .lit (.int .u8 4), .lit (.int .u8 8), .lit (.int .u8 31), .lit (.int .u8 27), .lit (.int .u8 13), .lit (.int .u8 23), .lit (.int .u8 21), .lit (.int .u8 19), .lit (.int .u8 16), .lit (.int .u8 7), .lit (.int .u8 26), .lit (.int .u8 12), .lit (.int .u8 18), .lit (.int .u8 6), .lit (.int .u8 11), .lit (.int .u8 5), .lit (.int .u8 10), .lit (.int .u8 9)]

/-- 'inequalitylaw03.IntervalIsotone': WHATEVER THE INPUT: true; the input reads as it did. -/
def intervalIsotoneSpec : ChangeSpec := { name := "intervalIsotone", fn := fun _ => fun
  | [d1, d2, d3, d4, d5, d6, d7] => { results := [.lit (.bool true)], args := [d1, d2, d3, d4, d5, d6, d7] }
  | _ => none }
def intervalIsotoneRow : OpenClaim := { program := "ythagpdbpgdfojaagreatdoor", sum := "bb618bbf1107c60fa2b5b2c3ce18a880108941bff9312ef436c13366bd225fd0", func := "inequality/inequalitylaw03.IntervalIsotone", spec := "intervalIsotone", unfollowed := true, recurses := true, named := ["math/bits.deBruijn32tab"], apart := false, laid := [("math/bits.deBruijn32tab", laid_math_bits_deBruijn32tab)] }
def IntervalIsotoneSaid : Prop := intervalIsotoneRow.holds Tryz.pinned (OpenSpec.ofChange intervalIsotoneSpec)

/-- ITS FALSE NEIGHBOUR: 'it returns false'. Refute it at one input. -/
def intervalIsotoneWrong : ChangeSpec := { name := "intervalIsotone", fn := fun _ => fun
  | [d1, d2, d3, d4, d5, d6, d7] => { results := [.lit (.bool false)], args := [d1, d2, d3, d4, d5, d6, d7] }
  | _ => none }
def IntervalIsotoneWrongFalsely : Prop := intervalIsotoneRow.holds Tryz.pinned (OpenSpec.ofChange intervalIsotoneWrong)

/-- 'inequalitylaw03.IntervalParts': WHATEVER THE INPUT: true; the input reads as it did. -/
def intervalPartsSpec : ChangeSpec := { name := "intervalParts", fn := fun _ => fun
  | [d1, d2, d3, d4, d5, d6] => { results := [.lit (.bool true)], args := [d1, d2, d3, d4, d5, d6] }
  | _ => none }
def intervalPartsRow : OpenClaim := { program := "ythagpdbpgdfojaagreatdoor", sum := "bb618bbf1107c60fa2b5b2c3ce18a880108941bff9312ef436c13366bd225fd0", func := "inequality/inequalitylaw03.IntervalParts", spec := "intervalParts", unfollowed := true, recurses := true, named := ["math/bits.deBruijn32tab"], apart := false, laid := [("math/bits.deBruijn32tab", laid_math_bits_deBruijn32tab)] }
def IntervalPartsSaid : Prop := intervalPartsRow.holds Tryz.pinned (OpenSpec.ofChange intervalPartsSpec)

/-- ITS FALSE NEIGHBOUR: 'it returns false'. Refute it at one input. -/
def intervalPartsWrong : ChangeSpec := { name := "intervalParts", fn := fun _ => fun
  | [d1, d2, d3, d4, d5, d6] => { results := [.lit (.bool false)], args := [d1, d2, d3, d4, d5, d6] }
  | _ => none }
def IntervalPartsWrongFalsely : Prop := intervalPartsRow.holds Tryz.pinned (OpenSpec.ofChange intervalPartsWrong)

/-- 'inequalitylaw03.IntervalContains': WHATEVER THE INPUT: true; the input reads as it did. -/
def intervalContainsSpec : ChangeSpec := { name := "intervalContains", fn := fun _ => fun
  | [d1, d2, d3, d4, d5, d6, d7] => { results := [.lit (.bool true)], args := [d1, d2, d3, d4, d5, d6, d7] }
  | _ => none }
def intervalContainsRow : OpenClaim := { program := "ythagpdbpgdfojaagreatdoor", sum := "bb618bbf1107c60fa2b5b2c3ce18a880108941bff9312ef436c13366bd225fd0", func := "inequality/inequalitylaw03.IntervalContains", spec := "intervalContains", unfollowed := true, recurses := true, named := ["math/bits.deBruijn32tab"], apart := false, laid := [("math/bits.deBruijn32tab", laid_math_bits_deBruijn32tab)] }
def IntervalContainsSaid : Prop := intervalContainsRow.holds Tryz.pinned (OpenSpec.ofChange intervalContainsSpec)

/-- ITS FALSE NEIGHBOUR: 'it returns false'. Refute it at one input. -/
def intervalContainsWrong : ChangeSpec := { name := "intervalContains", fn := fun _ => fun
  | [d1, d2, d3, d4, d5, d6, d7] => { results := [.lit (.bool false)], args := [d1, d2, d3, d4, d5, d6, d7] }
  | _ => none }
def IntervalContainsWrongFalsely : Prop := intervalContainsRow.holds Tryz.pinned (OpenSpec.ofChange intervalContainsWrong)

/- THE SECOND FORM. 'bulk': how many values and letters a reading holds, each counted each time it is reached (what is shared counts as often as it is met; a slice's spare places count too). A statement '..UptoSaid' is the law's where the arguments, and the package variables that the reading takes, are together of bulk at most 1048576: NARROWER than '..Said'. Prove '..Said' where nothing that the law and all that it calls make is longer than what came in: it says more and counts as full. Else prove '..UptoSaid'. A law counts once. -/
mutual
def uptoBulk {H : Type} : DataW H → Nat
  | .lit (.string bytes) => bytes.length + 1
  | .lit _ => 1
  | .nil => 1
  | .ptr d => uptoBulk d + 1
  | .slice elems spare => uptoBulkAll elems + uptoBulkAll spare + 1
  | .agg parts => uptoBulkAll parts + 1
  | .iface _ d => uptoBulk d + 1
  | .map entries => uptoBulkEntries entries + 1
  | .held _ => 1
def uptoBulkAll {H : Type} : List (DataW H) → Nat
  | [] => 0
  | d :: r => uptoBulk d + uptoBulkAll r
def uptoBulkEntries {H : Type} : List (Lit × DataW H) → Nat
  | [] => 0
  | x :: r => uptoBulkEntry x + uptoBulkEntries r
def uptoBulkEntry {H : Type} : Lit × DataW H → Nat
  | (.string bytes, d) => bytes.length + uptoBulk d + 1
  | (_, d) => uptoBulk d + 1
 end
def uptoSmall : (H : Type) → List (DataW H) → Bool := fun _ ds => decide (uptoBulkAll ds ≤ 1048576)
def OpenSpec.upto (s : _root_.Go.ChangeSpec) : _root_.Go.OpenSpec := { _root_.Go.OpenSpec.ofChange s with cond := some uptoSmall }

/-- 'inequalitylaw03.IntervalIsotone', WHERE WHAT IT READS IS OF BULK AT MOST 1048576: true; the input reads as it did. -/
def intervalIsotoneUptoRow : OpenClaim := { program := "ythagpdbpgdfojaagreatdoor", sum := "bb618bbf1107c60fa2b5b2c3ce18a880108941bff9312ef436c13366bd225fd0", func := "inequality/inequalitylaw03.IntervalIsotone", spec := "intervalIsotone", unfollowed := true, recurses := true, named := ["math/bits.deBruijn32tab"], apart := false, laid := [("math/bits.deBruijn32tab", laid_math_bits_deBruijn32tab)], narrowed := true }
def IntervalIsotoneUptoSaid : Prop := intervalIsotoneUptoRow.holds Tryz.pinned (OpenSpec.upto intervalIsotoneSpec)

/-- 'inequalitylaw03.IntervalParts', WHERE WHAT IT READS IS OF BULK AT MOST 1048576: true; the input reads as it did. -/
def intervalPartsUptoRow : OpenClaim := { program := "ythagpdbpgdfojaagreatdoor", sum := "bb618bbf1107c60fa2b5b2c3ce18a880108941bff9312ef436c13366bd225fd0", func := "inequality/inequalitylaw03.IntervalParts", spec := "intervalParts", unfollowed := true, recurses := true, named := ["math/bits.deBruijn32tab"], apart := false, laid := [("math/bits.deBruijn32tab", laid_math_bits_deBruijn32tab)], narrowed := true }
def IntervalPartsUptoSaid : Prop := intervalPartsUptoRow.holds Tryz.pinned (OpenSpec.upto intervalPartsSpec)

/-- 'inequalitylaw03.IntervalContains', WHERE WHAT IT READS IS OF BULK AT MOST 1048576: true; the input reads as it did. -/
def intervalContainsUptoRow : OpenClaim := { program := "ythagpdbpgdfojaagreatdoor", sum := "bb618bbf1107c60fa2b5b2c3ce18a880108941bff9312ef436c13366bd225fd0", func := "inequality/inequalitylaw03.IntervalContains", spec := "intervalContains", unfollowed := true, recurses := true, named := ["math/bits.deBruijn32tab"], apart := false, laid := [("math/bits.deBruijn32tab", laid_math_bits_deBruijn32tab)], narrowed := true }
def IntervalContainsUptoSaid : Prop := intervalContainsUptoRow.holds Tryz.pinned (OpenSpec.upto intervalContainsSpec)

end Rows
end Go.Proofs.YthagpdbpgdfojaaGreatDoor
