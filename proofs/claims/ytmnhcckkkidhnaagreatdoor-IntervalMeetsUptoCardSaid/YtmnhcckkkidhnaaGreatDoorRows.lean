/-
  NARROWER THAN 'FOR EVERY INPUT', by the rows' own cells (each row's printed sentence says how): IntervalAdds: laid · IntervalSides: laid · IntervalCanons: laid · IntervalMeets: laid.
  DERIVED. THE GIVEN ROWS OF THIS SEAT. 4 by the template 'for every input the law returns true; each argument reads behind the call as it read before'; 0 by the template 'total and deterministic' (their statements: YtmnhcckkkidhnaaGreatDoorTotals.lean).
  GIVEN WITH THE SEED: the statements are not yours to turn. If you find one false, say at which input.
  Laid BY PROGRAM, IN A SANDBOX (cutbox-rows.mjs): the forced cells as the released guide's own fill.sh prints them over the translation 5d1e502c5021d956… (all of the seat's roots in one cut). By AI agents, Wed Nov 11 2026. No macro, syntax, notation, axiom, sorry.
-/
import Derived.Test.YtmnhcckkkidhnaaGreatDoorChecked
import GoSem.Claim
import GoSem.ClaimJoined
import GoSem.ClaimMapViews
import Derived.JoinedTies
import Derived.KernelRfl
namespace Go.Proofs.YtmnhcckkkidhnaaGreatDoor
/- THE CELL 'sum', in the pinned program and in every row, IS THE sha256 OF THE DUMP (.gsa) THAT YtmnhcckkkidhnaaGreatDoorProg.lean LOADS. Nothing in Lean hashes anything: it is a label: what it is worth is what the hold of that sum in a sandbox is worth. -/
noncomputable def Tryz.pinned : Pinned := { name := "ytmnhcckkkidhnaagreatdoor", sum := "5d1e502c5021d9562ebac7c747ee0f77bef56c788d0fb6ba5c0b0d57079341a5", checked := Tryz.checked }
namespace Rows
def none {H : Type} : Left H := { results := [], args := [] }

/- WHAT THE LISTED PACKAGE-LEVEL VARIABLES READ AS WHEN THE CALL BEGINS. Each datum BY PROGRAM (the guide's laid-datum.mjs) off the statement by which the dump's own 'gosem.cut.vars' lays the variable. In a bare row this is a premise. The card (YtmnhcckkkidhnaaGreatDoorCards.lean) ties it to the program's text. -/
def laid_math_bits_deBruijn32tab {H : Type} : DataW H := .agg [.lit (.int .u8 0), .lit (.int .u8 1), .lit (.int .u8 28), .lit (.int .u8 2), .lit (.int .u8 29), .lit (.int .u8 14), .lit (.int .u8 24), .lit (.int .u8 3), .lit (.int .u8 30), .lit (.int .u8 22), .lit (.int .u8 20), .lit (.int .u8 15), .lit (.int .u8 25), .lit (.int .u8 17), .lit (.int .u8 4), .lit (.int .u8 8), .lit (.int .u8 31), .lit (.int .u8 27), .lit (.int .u8 13), .lit (.int .u8 23), .lit (.int .u8 21), .lit (.int .u8 19), .lit (.int .u8 16), .lit (.int .u8 7), .lit (.int .u8 26), .lit (.int .u8 12), .lit (.int .u8 18), .lit (.int .u8 6), .lit (.int .u8 11), .lit (.int .u8 5), .lit (.int .u8 10), .lit (.int .u8 9)]

/-- 'inequalitylaw03.IntervalAdds': WHATEVER THE INPUT: true; the input reads as it did. -/
def intervalAddsSpec : ChangeSpec := { name := "intervalAdds", fn := fun _ => fun
  | [d1, d2, d3] => { results := [.lit (.bool true)], args := [d1, d2, d3] }
  | _ => none }
def intervalAddsRow : OpenClaim := { program := "ytmnhcckkkidhnaagreatdoor", sum := "5d1e502c5021d9562ebac7c747ee0f77bef56c788d0fb6ba5c0b0d57079341a5", func := "inequality/inequalitylaw03.IntervalAdds", spec := "intervalAdds", unfollowed := true, recurses := true, named := ["math/bits.deBruijn32tab"], apart := false, laid := [("math/bits.deBruijn32tab", laid_math_bits_deBruijn32tab)] }
def IntervalAddsSaid : Prop := intervalAddsRow.holds Tryz.pinned (OpenSpec.ofChange intervalAddsSpec)

/-- ITS FALSE NEIGHBOUR: 'it returns false'. Refute it at one input. -/
def intervalAddsWrong : ChangeSpec := { name := "intervalAdds", fn := fun _ => fun
  | [d1, d2, d3] => { results := [.lit (.bool false)], args := [d1, d2, d3] }
  | _ => none }
def IntervalAddsWrongFalsely : Prop := intervalAddsRow.holds Tryz.pinned (OpenSpec.ofChange intervalAddsWrong)

/-- 'inequalitylaw03.IntervalSides': WHATEVER THE INPUT: true; the input reads as it did. -/
def intervalSidesSpec : ChangeSpec := { name := "intervalSides", fn := fun _ => fun
  | [d] => { results := [.lit (.bool true)], args := [d] }
  | _ => none }
def intervalSidesRow : OpenClaim := { program := "ytmnhcckkkidhnaagreatdoor", sum := "5d1e502c5021d9562ebac7c747ee0f77bef56c788d0fb6ba5c0b0d57079341a5", func := "inequality/inequalitylaw03.IntervalSides", spec := "intervalSides", unfollowed := true, recurses := true, named := ["math/bits.deBruijn32tab"], apart := false, laid := [("math/bits.deBruijn32tab", laid_math_bits_deBruijn32tab)] }
def IntervalSidesSaid : Prop := intervalSidesRow.holds Tryz.pinned (OpenSpec.ofChange intervalSidesSpec)

/-- ITS FALSE NEIGHBOUR: 'it returns false'. Refute it at one input. -/
def intervalSidesWrong : ChangeSpec := { name := "intervalSides", fn := fun _ => fun
  | [d] => { results := [.lit (.bool false)], args := [d] }
  | _ => none }
def IntervalSidesWrongFalsely : Prop := intervalSidesRow.holds Tryz.pinned (OpenSpec.ofChange intervalSidesWrong)

/-- 'inequalitylaw03.IntervalCanons': WHATEVER THE INPUT: true; the input reads as it did. -/
def intervalCanonsSpec : ChangeSpec := { name := "intervalCanons", fn := fun _ => fun
  | [d] => { results := [.lit (.bool true)], args := [d] }
  | _ => none }
def intervalCanonsRow : OpenClaim := { program := "ytmnhcckkkidhnaagreatdoor", sum := "5d1e502c5021d9562ebac7c747ee0f77bef56c788d0fb6ba5c0b0d57079341a5", func := "inequality/inequalitylaw03.IntervalCanons", spec := "intervalCanons", unfollowed := true, recurses := true, named := ["math/bits.deBruijn32tab"], apart := false, laid := [("math/bits.deBruijn32tab", laid_math_bits_deBruijn32tab)] }
def IntervalCanonsSaid : Prop := intervalCanonsRow.holds Tryz.pinned (OpenSpec.ofChange intervalCanonsSpec)

/-- ITS FALSE NEIGHBOUR: 'it returns false'. Refute it at one input. -/
def intervalCanonsWrong : ChangeSpec := { name := "intervalCanons", fn := fun _ => fun
  | [d] => { results := [.lit (.bool false)], args := [d] }
  | _ => none }
def IntervalCanonsWrongFalsely : Prop := intervalCanonsRow.holds Tryz.pinned (OpenSpec.ofChange intervalCanonsWrong)

/-- 'inequalitylaw03.IntervalMeets': WHATEVER THE INPUT: true; the input reads as it did. -/
def intervalMeetsSpec : ChangeSpec := { name := "intervalMeets", fn := fun _ => fun
  | [d1, d2] => { results := [.lit (.bool true)], args := [d1, d2] }
  | _ => none }
def intervalMeetsRow : OpenClaim := { program := "ytmnhcckkkidhnaagreatdoor", sum := "5d1e502c5021d9562ebac7c747ee0f77bef56c788d0fb6ba5c0b0d57079341a5", func := "inequality/inequalitylaw03.IntervalMeets", spec := "intervalMeets", unfollowed := true, recurses := true, named := ["math/bits.deBruijn32tab"], apart := false, laid := [("math/bits.deBruijn32tab", laid_math_bits_deBruijn32tab)] }
def IntervalMeetsSaid : Prop := intervalMeetsRow.holds Tryz.pinned (OpenSpec.ofChange intervalMeetsSpec)

/-- ITS FALSE NEIGHBOUR: 'it returns false'. Refute it at one input. -/
def intervalMeetsWrong : ChangeSpec := { name := "intervalMeets", fn := fun _ => fun
  | [d1, d2] => { results := [.lit (.bool false)], args := [d1, d2] }
  | _ => none }
def IntervalMeetsWrongFalsely : Prop := intervalMeetsRow.holds Tryz.pinned (OpenSpec.ofChange intervalMeetsWrong)

/- THE SECOND FORM. 'bulk': how many values and letters a reading holds, each counted each time it is reached (what is shared counts as often as it is met; a slice's spare places count too). A statement '..UptoSaid' is the law's where the arguments, and the package variables that the reading takes, are together of bulk at most 1048576: NARROWER than '..Said'. Prove '..Said' where nothing that the law and all that it calls make is longer than what came in: it says more and counts as full. Else prove '..UptoSaid'. A law counts once. -/
mutual
def uptoBulk {H : Type} : DataW H → Nat
  | .lit (.string bytes) => bytes.length + 1
  | .lit _ => 1
  | .nil => 1
  | .ptr d => uptoBulk d + 1
  | .slice elems spare => uptoBulkAll elems + uptoBulkAll spare + 1
  | .agg parts => uptoBulkAll parts + 1
  | .iface _ d => uptoBulk d + 1
  | .map entries => uptoBulkEntries entries + 1
  | .held _ => 1
def uptoBulkAll {H : Type} : List (DataW H) → Nat
  | [] => 0
  | d :: r => uptoBulk d + uptoBulkAll r
def uptoBulkEntries {H : Type} : List (Lit × DataW H) → Nat
  | [] => 0
  | x :: r => uptoBulkEntry x + uptoBulkEntries r
def uptoBulkEntry {H : Type} : Lit × DataW H → Nat
  | (.string bytes, d) => bytes.length + uptoBulk d + 1
  | (_, d) => uptoBulk d + 1
 end
def uptoSmall : (H : Type) → List (DataW H) → Bool := fun _ ds => decide (uptoBulkAll ds ≤ 1048576)
def OpenSpec.upto (s : _root_.Go.ChangeSpec) : _root_.Go.OpenSpec := { _root_.Go.OpenSpec.ofChange s with cond := some uptoSmall }

/-- 'inequalitylaw03.IntervalAdds', WHERE WHAT IT READS IS OF BULK AT MOST 1048576: true; the input reads as it did. -/
def intervalAddsUptoRow : OpenClaim := { program := "ytmnhcckkkidhnaagreatdoor", sum := "5d1e502c5021d9562ebac7c747ee0f77bef56c788d0fb6ba5c0b0d57079341a5", func := "inequality/inequalitylaw03.IntervalAdds", spec := "intervalAdds", unfollowed := true, recurses := true, named := ["math/bits.deBruijn32tab"], apart := false, laid := [("math/bits.deBruijn32tab", laid_math_bits_deBruijn32tab)], narrowed := true }
def IntervalAddsUptoSaid : Prop := intervalAddsUptoRow.holds Tryz.pinned (OpenSpec.upto intervalAddsSpec)

/-- 'inequalitylaw03.IntervalSides', WHERE WHAT IT READS IS OF BULK AT MOST 1048576: true; the input reads as it did. -/
def intervalSidesUptoRow : OpenClaim := { program := "ytmnhcckkkidhnaagreatdoor", sum := "5d1e502c5021d9562ebac7c747ee0f77bef56c788d0fb6ba5c0b0d57079341a5", func := "inequality/inequalitylaw03.IntervalSides", spec := "intervalSides", unfollowed := true, recurses := true, named := ["math/bits.deBruijn32tab"], apart := false, laid := [("math/bits.deBruijn32tab", laid_math_bits_deBruijn32tab)], narrowed := true }
def IntervalSidesUptoSaid : Prop := intervalSidesUptoRow.holds Tryz.pinned (OpenSpec.upto intervalSidesSpec)

/-- 'inequalitylaw03.IntervalCanons', WHERE WHAT IT READS IS OF BULK AT MOST 1048576: true; the input reads as it did. -/
def intervalCanonsUptoRow : OpenClaim := { program := "ytmnhcckkkidhnaagreatdoor", sum := "5d1e502c5021d9562ebac7c747ee0f77bef56c788d0fb6ba5c0b0d57079341a5", func := "inequality/inequalitylaw03.IntervalCanons", spec := "intervalCanons", unfollowed := true, recurses := true, named := ["math/bits.deBruijn32tab"], apart := false, laid := [("math/bits.deBruijn32tab", laid_math_bits_deBruijn32tab)], narrowed := true }
def IntervalCanonsUptoSaid : Prop := intervalCanonsUptoRow.holds Tryz.pinned (OpenSpec.upto intervalCanonsSpec)

/-- 'inequalitylaw03.IntervalMeets', WHERE WHAT IT READS IS OF BULK AT MOST 1048576: true; the input reads as it did. -/
def intervalMeetsUptoRow : OpenClaim := { program := "ytmnhcckkkidhnaagreatdoor", sum := "5d1e502c5021d9562ebac7c747ee0f77bef56c788d0fb6ba5c0b0d57079341a5", func := "inequality/inequalitylaw03.IntervalMeets", spec := "intervalMeets", unfollowed := true, recurses := true, named := ["math/bits.deBruijn32tab"], apart := false, laid := [("math/bits.deBruijn32tab", laid_math_bits_deBruijn32tab)], narrowed := true }
def IntervalMeetsUptoSaid : Prop := intervalMeetsUptoRow.holds Tryz.pinned (OpenSpec.upto intervalMeetsSpec)

end Rows
end Go.Proofs.YtmnhcckkkidhnaaGreatDoor
