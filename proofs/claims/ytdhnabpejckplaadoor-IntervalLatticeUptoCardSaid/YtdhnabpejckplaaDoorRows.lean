/-
  NARROWER THAN 'FOR EVERY INPUT', by the rows' own cells (each row's printed sentence says how): IntervalRounds: laid · IntervalMakes: laid · IntervalLeast: laid · IntervalLimits: laid · IntervalHas: laid · IntervalMiddles: laid · IntervalLattice: laid · IntervalGuess: laid · IntervalOpposite: laid · IntervalInverse: laid.
  DERIVED. THE GIVEN ROWS OF THIS SEAT. 10 by the template 'for every input the law returns true; each argument reads behind the call as it read before'; 0 by the template 'total and deterministic' (their statements: YtdhnabpejckplaaDoorTotals.lean).
  GIVEN WITH THE SEED: the statements are not yours to turn. If you find one false, say at which input.
  Laid BY PROGRAM, IN A SANDBOX (cutbox-rows.mjs): the forced cells as the released guide's own fill.sh prints them over the translation e49c57e8b9332da1… (all of the seat's roots in one cut). By AI agents, Wed Nov 11 2026. No macro, syntax, notation, axiom, sorry.
-/
import Derived.Test.YtdhnabpejckplaaDoorChecked
import GoSem.Claim
import GoSem.ClaimJoined
import GoSem.ClaimMapViews
import Derived.JoinedTies
import Derived.KernelRfl
namespace Go.Proofs.YtdhnabpejckplaaDoor
/- THE CELL 'sum', in the pinned program and in every row, IS THE sha256 OF THE DUMP (.gsa) THAT YtdhnabpejckplaaDoorProg.lean LOADS. Nothing in Lean hashes anything: it is a label: what it is worth is what the hold of that sum in a sandbox is worth. -/
noncomputable def Tryd.pinned : Pinned := { name := "ytdhnabpejckplaadoor", sum := "e49c57e8b9332da1d16edfb2b0e62a75b1489cbc7b471fd779d2a8124ed2210e", checked := Tryd.checked }
namespace Rows
def none {H : Type} : Left H := { results := [], args := [] }

/- WHAT THE LISTED PACKAGE-LEVEL VARIABLES READ AS WHEN THE CALL BEGINS. Each datum BY PROGRAM (the guide's laid-datum.mjs) off the statement by which the dump's own 'gosem.cut.vars' lays the variable. In a bare row this is a premise. The card (YtdhnabpejckplaaDoorCards.lean) ties it to the program's text. -/
def laid_math_bits_deBruijn32tab {H : Type} : DataW H := .agg [.lit (.int .u8 0), .lit (.int .u8 1), .lit (.int .u8 28), .lit (.int .u8 2), .lit (.int .u8 29), .lit (.int .u8 14), .lit (.int .u8 24), .lit (.int .u8 3), .lit (.int .u8 30), .lit (.int .u8 22), .lit (.int .u8 20), .lit (.int .u8 15), .lit (.int .u8 25), .lit (.int .u8 17), .lit (.int .u8 4), .lit (.int .u8 8), .lit (.int .u8 31), .lit (.int .u8 27), .lit (.int .u8 13), .lit (.int .u8 23), .lit (.int .u8 21), .lit (.int .u8 19), .lit (.int .u8 16), .lit (.int .u8 7), .lit (.int .u8 26), .lit (.int .u8 12), .lit (.int .u8 18), .lit (.int .u8 6), .lit (.int .u8 11), .lit (.int .u8 5), .lit (.int .u8 10), .lit (.int .u8 9)]

/-- 'inequalitylaw03.IntervalRounds': WHATEVER THE INPUT: true; the input reads as it did. -/
def intervalRoundsSpec : ChangeSpec := { name := "intervalRounds", fn := fun _ => fun
  | [d1, d2] => { results := [.lit (.bool true)], args := [d1, d2] }
  | _ => none }
def intervalRoundsRow : OpenClaim := { program := "ytdhnabpejckplaadoor", sum := "e49c57e8b9332da1d16edfb2b0e62a75b1489cbc7b471fd779d2a8124ed2210e", func := "inequality/inequalitylaw03.IntervalRounds", spec := "intervalRounds", unfollowed := true, recurses := true, named := ["math/bits.deBruijn32tab"], apart := false, laid := [("math/bits.deBruijn32tab", laid_math_bits_deBruijn32tab)] }
def IntervalRoundsSaid : Prop := intervalRoundsRow.holds Tryd.pinned (OpenSpec.ofChange intervalRoundsSpec)

/-- ITS FALSE NEIGHBOUR: 'it returns false'. Refute it at one input. -/
def intervalRoundsWrong : ChangeSpec := { name := "intervalRounds", fn := fun _ => fun
  | [d1, d2] => { results := [.lit (.bool false)], args := [d1, d2] }
  | _ => none }
def IntervalRoundsWrongFalsely : Prop := intervalRoundsRow.holds Tryd.pinned (OpenSpec.ofChange intervalRoundsWrong)

/-- 'inequalitylaw03.IntervalMakes': WHATEVER THE INPUT: true; the input reads as it did. -/
def intervalMakesSpec : ChangeSpec := { name := "intervalMakes", fn := fun _ => fun
  | [d1, d2] => { results := [.lit (.bool true)], args := [d1, d2] }
  | _ => none }
def intervalMakesRow : OpenClaim := { program := "ytdhnabpejckplaadoor", sum := "e49c57e8b9332da1d16edfb2b0e62a75b1489cbc7b471fd779d2a8124ed2210e", func := "inequality/inequalitylaw03.IntervalMakes", spec := "intervalMakes", unfollowed := true, recurses := true, named := ["math/bits.deBruijn32tab"], apart := false, laid := [("math/bits.deBruijn32tab", laid_math_bits_deBruijn32tab)] }
def IntervalMakesSaid : Prop := intervalMakesRow.holds Tryd.pinned (OpenSpec.ofChange intervalMakesSpec)

/-- ITS FALSE NEIGHBOUR: 'it returns false'. Refute it at one input. -/
def intervalMakesWrong : ChangeSpec := { name := "intervalMakes", fn := fun _ => fun
  | [d1, d2] => { results := [.lit (.bool false)], args := [d1, d2] }
  | _ => none }
def IntervalMakesWrongFalsely : Prop := intervalMakesRow.holds Tryd.pinned (OpenSpec.ofChange intervalMakesWrong)

/-- 'inequalitylaw03.IntervalLeast': WHATEVER THE INPUT: true; the input reads as it did. -/
def intervalLeastSpec : ChangeSpec := { name := "intervalLeast", fn := fun _ => fun
  | [d1, d2, d3] => { results := [.lit (.bool true)], args := [d1, d2, d3] }
  | _ => none }
def intervalLeastRow : OpenClaim := { program := "ytdhnabpejckplaadoor", sum := "e49c57e8b9332da1d16edfb2b0e62a75b1489cbc7b471fd779d2a8124ed2210e", func := "inequality/inequalitylaw03.IntervalLeast", spec := "intervalLeast", unfollowed := true, recurses := true, named := ["math/bits.deBruijn32tab"], apart := false, laid := [("math/bits.deBruijn32tab", laid_math_bits_deBruijn32tab)] }
def IntervalLeastSaid : Prop := intervalLeastRow.holds Tryd.pinned (OpenSpec.ofChange intervalLeastSpec)

/-- ITS FALSE NEIGHBOUR: 'it returns false'. Refute it at one input. -/
def intervalLeastWrong : ChangeSpec := { name := "intervalLeast", fn := fun _ => fun
  | [d1, d2, d3] => { results := [.lit (.bool false)], args := [d1, d2, d3] }
  | _ => none }
def IntervalLeastWrongFalsely : Prop := intervalLeastRow.holds Tryd.pinned (OpenSpec.ofChange intervalLeastWrong)

/-- 'inequalitylaw03.IntervalLimits': WHATEVER THE INPUT: true; the input reads as it did. -/
def intervalLimitsSpec : ChangeSpec := { name := "intervalLimits", fn := fun _ => fun
  | [d1, d2] => { results := [.lit (.bool true)], args := [d1, d2] }
  | _ => none }
def intervalLimitsRow : OpenClaim := { program := "ytdhnabpejckplaadoor", sum := "e49c57e8b9332da1d16edfb2b0e62a75b1489cbc7b471fd779d2a8124ed2210e", func := "inequality/inequalitylaw03.IntervalLimits", spec := "intervalLimits", unfollowed := true, recurses := true, named := ["math/bits.deBruijn32tab"], apart := false, laid := [("math/bits.deBruijn32tab", laid_math_bits_deBruijn32tab)] }
def IntervalLimitsSaid : Prop := intervalLimitsRow.holds Tryd.pinned (OpenSpec.ofChange intervalLimitsSpec)

/-- ITS FALSE NEIGHBOUR: 'it returns false'. Refute it at one input. -/
def intervalLimitsWrong : ChangeSpec := { name := "intervalLimits", fn := fun _ => fun
  | [d1, d2] => { results := [.lit (.bool false)], args := [d1, d2] }
  | _ => none }
def IntervalLimitsWrongFalsely : Prop := intervalLimitsRow.holds Tryd.pinned (OpenSpec.ofChange intervalLimitsWrong)

/-- 'inequalitylaw03.IntervalHas': WHATEVER THE INPUT: true; the input reads as it did. -/
def intervalHasSpec : ChangeSpec := { name := "intervalHas", fn := fun _ => fun
  | [d1, d2] => { results := [.lit (.bool true)], args := [d1, d2] }
  | _ => none }
def intervalHasRow : OpenClaim := { program := "ytdhnabpejckplaadoor", sum := "e49c57e8b9332da1d16edfb2b0e62a75b1489cbc7b471fd779d2a8124ed2210e", func := "inequality/inequalitylaw03.IntervalHas", spec := "intervalHas", unfollowed := true, recurses := true, named := ["math/bits.deBruijn32tab"], apart := false, laid := [("math/bits.deBruijn32tab", laid_math_bits_deBruijn32tab)] }
def IntervalHasSaid : Prop := intervalHasRow.holds Tryd.pinned (OpenSpec.ofChange intervalHasSpec)

/-- ITS FALSE NEIGHBOUR: 'it returns false'. Refute it at one input. -/
def intervalHasWrong : ChangeSpec := { name := "intervalHas", fn := fun _ => fun
  | [d1, d2] => { results := [.lit (.bool false)], args := [d1, d2] }
  | _ => none }
def IntervalHasWrongFalsely : Prop := intervalHasRow.holds Tryd.pinned (OpenSpec.ofChange intervalHasWrong)

/-- 'inequalitylaw03.IntervalMiddles': WHATEVER THE INPUT: true; the input reads as it did. -/
def intervalMiddlesSpec : ChangeSpec := { name := "intervalMiddles", fn := fun _ => fun
  | [d] => { results := [.lit (.bool true)], args := [d] }
  | _ => none }
def intervalMiddlesRow : OpenClaim := { program := "ytdhnabpejckplaadoor", sum := "e49c57e8b9332da1d16edfb2b0e62a75b1489cbc7b471fd779d2a8124ed2210e", func := "inequality/inequalitylaw03.IntervalMiddles", spec := "intervalMiddles", unfollowed := true, recurses := true, named := ["math/bits.deBruijn32tab"], apart := false, laid := [("math/bits.deBruijn32tab", laid_math_bits_deBruijn32tab)] }
def IntervalMiddlesSaid : Prop := intervalMiddlesRow.holds Tryd.pinned (OpenSpec.ofChange intervalMiddlesSpec)

/-- ITS FALSE NEIGHBOUR: 'it returns false'. Refute it at one input. -/
def intervalMiddlesWrong : ChangeSpec := { name := "intervalMiddles", fn := fun _ => fun
  | [d] => { results := [.lit (.bool false)], args := [d] }
  | _ => none }
def IntervalMiddlesWrongFalsely : Prop := intervalMiddlesRow.holds Tryd.pinned (OpenSpec.ofChange intervalMiddlesWrong)

/-- 'inequalitylaw03.IntervalLattice': WHATEVER THE INPUT: true; the input reads as it did. -/
def intervalLatticeSpec : ChangeSpec := { name := "intervalLattice", fn := fun _ => fun
  | [d1, d2, d3] => { results := [.lit (.bool true)], args := [d1, d2, d3] }
  | _ => none }
def intervalLatticeRow : OpenClaim := { program := "ytdhnabpejckplaadoor", sum := "e49c57e8b9332da1d16edfb2b0e62a75b1489cbc7b471fd779d2a8124ed2210e", func := "inequality/inequalitylaw03.IntervalLattice", spec := "intervalLattice", unfollowed := true, recurses := true, named := ["math/bits.deBruijn32tab"], apart := false, laid := [("math/bits.deBruijn32tab", laid_math_bits_deBruijn32tab)] }
def IntervalLatticeSaid : Prop := intervalLatticeRow.holds Tryd.pinned (OpenSpec.ofChange intervalLatticeSpec)

/-- ITS FALSE NEIGHBOUR: 'it returns false'. Refute it at one input. -/
def intervalLatticeWrong : ChangeSpec := { name := "intervalLattice", fn := fun _ => fun
  | [d1, d2, d3] => { results := [.lit (.bool false)], args := [d1, d2, d3] }
  | _ => none }
def IntervalLatticeWrongFalsely : Prop := intervalLatticeRow.holds Tryd.pinned (OpenSpec.ofChange intervalLatticeWrong)

/-- 'inequalitylaw03.IntervalGuess': WHATEVER THE INPUT: true; the input reads as it did. -/
def intervalGuessSpec : ChangeSpec := { name := "intervalGuess", fn := fun _ => fun
  | [d1, d2] => { results := [.lit (.bool true)], args := [d1, d2] }
  | _ => none }
def intervalGuessRow : OpenClaim := { program := "ytdhnabpejckplaadoor", sum := "e49c57e8b9332da1d16edfb2b0e62a75b1489cbc7b471fd779d2a8124ed2210e", func := "inequality/inequalitylaw03.IntervalGuess", spec := "intervalGuess", unfollowed := true, recurses := true, named := ["math/bits.deBruijn32tab"], apart := false, laid := [("math/bits.deBruijn32tab", laid_math_bits_deBruijn32tab)] }
def IntervalGuessSaid : Prop := intervalGuessRow.holds Tryd.pinned (OpenSpec.ofChange intervalGuessSpec)

/-- ITS FALSE NEIGHBOUR: 'it returns false'. Refute it at one input. -/
def intervalGuessWrong : ChangeSpec := { name := "intervalGuess", fn := fun _ => fun
  | [d1, d2] => { results := [.lit (.bool false)], args := [d1, d2] }
  | _ => none }
def IntervalGuessWrongFalsely : Prop := intervalGuessRow.holds Tryd.pinned (OpenSpec.ofChange intervalGuessWrong)

/-- 'inequalitylaw03.IntervalOpposite': WHATEVER THE INPUT: true; the input reads as it did. -/
def intervalOppositeSpec : ChangeSpec := { name := "intervalOpposite", fn := fun _ => fun
  | [d1, d2, d3] => { results := [.lit (.bool true)], args := [d1, d2, d3] }
  | _ => none }
def intervalOppositeRow : OpenClaim := { program := "ytdhnabpejckplaadoor", sum := "e49c57e8b9332da1d16edfb2b0e62a75b1489cbc7b471fd779d2a8124ed2210e", func := "inequality/inequalitylaw03.IntervalOpposite", spec := "intervalOpposite", unfollowed := true, recurses := true, named := ["math/bits.deBruijn32tab"], apart := false, laid := [("math/bits.deBruijn32tab", laid_math_bits_deBruijn32tab)] }
def IntervalOppositeSaid : Prop := intervalOppositeRow.holds Tryd.pinned (OpenSpec.ofChange intervalOppositeSpec)

/-- ITS FALSE NEIGHBOUR: 'it returns false'. Refute it at one input. -/
def intervalOppositeWrong : ChangeSpec := { name := "intervalOpposite", fn := fun _ => fun
  | [d1, d2, d3] => { results := [.lit (.bool false)], args := [d1, d2, d3] }
  | _ => none }
def IntervalOppositeWrongFalsely : Prop := intervalOppositeRow.holds Tryd.pinned (OpenSpec.ofChange intervalOppositeWrong)

/-- 'inequalitylaw03.IntervalInverse': WHATEVER THE INPUT: true; the input reads as it did. -/
def intervalInverseSpec : ChangeSpec := { name := "intervalInverse", fn := fun _ => fun
  | [d1, d2, d3] => { results := [.lit (.bool true)], args := [d1, d2, d3] }
  | _ => none }
def intervalInverseRow : OpenClaim := { program := "ytdhnabpejckplaadoor", sum := "e49c57e8b9332da1d16edfb2b0e62a75b1489cbc7b471fd779d2a8124ed2210e", func := "inequality/inequalitylaw03.IntervalInverse", spec := "intervalInverse", unfollowed := true, recurses := true, named := ["math/bits.deBruijn32tab"], apart := false, laid := [("math/bits.deBruijn32tab", laid_math_bits_deBruijn32tab)] }
def IntervalInverseSaid : Prop := intervalInverseRow.holds Tryd.pinned (OpenSpec.ofChange intervalInverseSpec)

/-- ITS FALSE NEIGHBOUR: 'it returns false'. Refute it at one input. -/
def intervalInverseWrong : ChangeSpec := { name := "intervalInverse", fn := fun _ => fun
  | [d1, d2, d3] => { results := [.lit (.bool false)], args := [d1, d2, d3] }
  | _ => none }
def IntervalInverseWrongFalsely : Prop := intervalInverseRow.holds Tryd.pinned (OpenSpec.ofChange intervalInverseWrong)

/- THE SECOND FORM. 'bulk': how many values and letters a reading holds, each counted each time it is reached (what is shared counts as often as it is met; a slice's spare places count too). A statement '..UptoSaid' is the law's where the arguments, and the package variables that the reading takes, are together of bulk at most 1048576: NARROWER than '..Said'. Prove '..Said' where nothing that the law and all that it calls make is longer than what came in: it says more and counts as full. Else prove '..UptoSaid'. A law counts once. -/
mutual
def uptoBulk {H : Type} : DataW H → Nat
  | .lit (.string bytes) => bytes.length + 1
  | .lit _ => 1
  | .nil => 1
  | .ptr d => uptoBulk d + 1
  | .slice elems spare => uptoBulkAll elems + uptoBulkAll spare + 1
  | .agg parts => uptoBulkAll parts + 1
  | .iface _ d => uptoBulk d + 1
  | .map entries => uptoBulkEntries entries + 1
  | .held _ => 1
def uptoBulkAll {H : Type} : List (DataW H) → Nat
  | [] => 0
  | d :: r => uptoBulk d + uptoBulkAll r
def uptoBulkEntries {H : Type} : List (Lit × DataW H) → Nat
  | [] => 0
  | x :: r => uptoBulkEntry x + uptoBulkEntries r
def uptoBulkEntry {H : Type} : Lit × DataW H → Nat
  | (.string bytes, d) => bytes.length + uptoBulk d + 1
  | (_, d) => uptoBulk d + 1
 end
def uptoSmall : (H : Type) → List (DataW H) → Bool := fun _ ds => decide (uptoBulkAll ds ≤ 1048576)
def OpenSpec.upto (s : _root_.Go.ChangeSpec) : _root_.Go.OpenSpec := { _root_.Go.OpenSpec.ofChange s with cond := some uptoSmall }

/-- 'inequalitylaw03.IntervalRounds', WHERE WHAT IT READS IS OF BULK AT MOST 1048576: true; the input reads as it did. -/
def intervalRoundsUptoRow : OpenClaim := { program := "ytdhnabpejckplaadoor", sum := "e49c57e8b9332da1d16edfb2b0e62a75b1489cbc7b471fd779d2a8124ed2210e", func := "inequality/inequalitylaw03.IntervalRounds", spec := "intervalRounds", unfollowed := true, recurses := true, named := ["math/bits.deBruijn32tab"], apart := false, laid := [("math/bits.deBruijn32tab", laid_math_bits_deBruijn32tab)], narrowed := true }
def IntervalRoundsUptoSaid : Prop := intervalRoundsUptoRow.holds Tryd.pinned (OpenSpec.upto intervalRoundsSpec)

/-- 'inequalitylaw03.IntervalMakes', WHERE WHAT IT READS IS OF BULK AT MOST 1048576: true; the input reads as it did. -/
def intervalMakesUptoRow : OpenClaim := { program := "ytdhnabpejckplaadoor", sum := "e49c57e8b9332da1d16edfb2b0e62a75b1489cbc7b471fd779d2a8124ed2210e", func := "inequality/inequalitylaw03.IntervalMakes", spec := "intervalMakes", unfollowed := true, recurses := true, named := ["math/bits.deBruijn32tab"], apart := false, laid := [("math/bits.deBruijn32tab", laid_math_bits_deBruijn32tab)], narrowed := true }
def IntervalMakesUptoSaid : Prop := intervalMakesUptoRow.holds Tryd.pinned (OpenSpec.upto intervalMakesSpec)

/-- 'inequalitylaw03.IntervalLeast', WHERE WHAT IT READS IS OF BULK AT MOST 1048576: true; the input reads as it did. -/
def intervalLeastUptoRow : OpenClaim := { program := "ytdhnabpejckplaadoor", sum := "e49c57e8b9332da1d16edfb2b0e62a75b1489cbc7b471fd779d2a8124ed2210e", func := "inequality/inequalitylaw03.IntervalLeast", spec := "intervalLeast", unfollowed := true, recurses := true, named := ["math/bits.deBruijn32tab"], apart := false, laid := [("math/bits.deBruijn32tab", laid_math_bits_deBruijn32tab)], narrowed := true }
def IntervalLeastUptoSaid : Prop := intervalLeastUptoRow.holds Tryd.pinned (OpenSpec.upto intervalLeastSpec)

/-- 'inequalitylaw03.IntervalLimits', WHERE WHAT IT READS IS OF BULK AT MOST 1048576: true; the input reads as it did. -/
def intervalLimitsUptoRow : OpenClaim := { program := "ytdhnabpejckplaadoor", sum := "e49c57e8b9332da1d16edfb2b0e62a75b1489cbc7b471fd779d2a8124ed2210e", func := "inequality/inequalitylaw03.IntervalLimits", spec := "intervalLimits", unfollowed := true, recurses := true, named := ["math/bits.deBruijn32tab"], apart := false, laid := [("math/bits.deBruijn32tab", laid_math_bits_deBruijn32tab)], narrowed := true }
def IntervalLimitsUptoSaid : Prop := intervalLimitsUptoRow.holds Tryd.pinned (OpenSpec.upto intervalLimitsSpec)

/-- 'inequalitylaw03.IntervalHas', WHERE WHAT IT READS IS OF BULK AT MOST 1048576: true; the input reads as it did. -/
def intervalHasUptoRow : OpenClaim := { program := "ytdhnabpejckplaadoor", sum := "e49c57e8b9332da1d16edfb2b0e62a75b1489cbc7b471fd779d2a8124ed2210e", func := "inequality/inequalitylaw03.IntervalHas", spec := "intervalHas", unfollowed := true, recurses := true, named := ["math/bits.deBruijn32tab"], apart := false, laid := [("math/bits.deBruijn32tab", laid_math_bits_deBruijn32tab)], narrowed := true }
def IntervalHasUptoSaid : Prop := intervalHasUptoRow.holds Tryd.pinned (OpenSpec.upto intervalHasSpec)

/-- 'inequalitylaw03.IntervalMiddles', WHERE WHAT IT READS IS OF BULK AT MOST 1048576: true; the input reads as it did. -/
def intervalMiddlesUptoRow : OpenClaim := { program := "ytdhnabpejckplaadoor", sum := "e49c57e8b9332da1d16edfb2b0e62a75b1489cbc7b471fd779d2a8124ed2210e", func := "inequality/inequalitylaw03.IntervalMiddles", spec := "intervalMiddles", unfollowed := true, recurses := true, named := ["math/bits.deBruijn32tab"], apart := false, laid := [("math/bits.deBruijn32tab", laid_math_bits_deBruijn32tab)], narrowed := true }
def IntervalMiddlesUptoSaid : Prop := intervalMiddlesUptoRow.holds Tryd.pinned (OpenSpec.upto intervalMiddlesSpec)

/-- 'inequalitylaw03.IntervalLattice', WHERE WHAT IT READS IS OF BULK AT MOST 1048576: true; the input reads as it did. -/
def intervalLatticeUptoRow : OpenClaim := { program := "ytdhnabpejckplaadoor", sum := "e49c57e8b9332da1d16edfb2b0e62a75b1489cbc7b471fd779d2a8124ed2210e", func := "inequality/inequalitylaw03.IntervalLattice", spec := "intervalLattice", unfollowed := true, recurses := true, named := ["math/bits.deBruijn32tab"], apart := false, laid := [("math/bits.deBruijn32tab", laid_math_bits_deBruijn32tab)], narrowed := true }
def IntervalLatticeUptoSaid : Prop := intervalLatticeUptoRow.holds Tryd.pinned (OpenSpec.upto intervalLatticeSpec)

/-- 'inequalitylaw03.IntervalGuess', WHERE WHAT IT READS IS OF BULK AT MOST 1048576: true; the input reads as it did. -/
def intervalGuessUptoRow : OpenClaim := { program := "ytdhnabpejckplaadoor", sum := "e49c57e8b9332da1d16edfb2b0e62a75b1489cbc7b471fd779d2a8124ed2210e", func := "inequality/inequalitylaw03.IntervalGuess", spec := "intervalGuess", unfollowed := true, recurses := true, named := ["math/bits.deBruijn32tab"], apart := false, laid := [("math/bits.deBruijn32tab", laid_math_bits_deBruijn32tab)], narrowed := true }
def IntervalGuessUptoSaid : Prop := intervalGuessUptoRow.holds Tryd.pinned (OpenSpec.upto intervalGuessSpec)

/-- 'inequalitylaw03.IntervalOpposite', WHERE WHAT IT READS IS OF BULK AT MOST 1048576: true; the input reads as it did. -/
def intervalOppositeUptoRow : OpenClaim := { program := "ytdhnabpejckplaadoor", sum := "e49c57e8b9332da1d16edfb2b0e62a75b1489cbc7b471fd779d2a8124ed2210e", func := "inequality/inequalitylaw03.IntervalOpposite", spec := "intervalOpposite", unfollowed := true, recurses := true, named := ["math/bits.deBruijn32tab"], apart := false, laid := [("math/bits.deBruijn32tab", laid_math_bits_deBruijn32tab)], narrowed := true }
def IntervalOppositeUptoSaid : Prop := intervalOppositeUptoRow.holds Tryd.pinned (OpenSpec.upto intervalOppositeSpec)

/-- 'inequalitylaw03.IntervalInverse', WHERE WHAT IT READS IS OF BULK AT MOST 1048576: true; the input reads as it did. -/
def intervalInverseUptoRow : OpenClaim := { program := "ytdhnabpejckplaadoor", sum := "e49c57e8b9332da1d16edfb2b0e62a75b1489cbc7b471fd779d2a8124ed2210e", func := "inequality/inequalitylaw03.IntervalInverse", spec := "intervalInverse", unfollowed := true, recurses := true, named := ["math/bits.deBruijn32tab"], apart := false, laid := [("math/bits.deBruijn32tab", laid_math_bits_deBruijn32tab)], narrowed := true }
def IntervalInverseUptoSaid : Prop := intervalInverseUptoRow.holds Tryd.pinned (OpenSpec.upto intervalInverseSpec)

end Rows
end Go.Proofs.YtdhnabpejckplaaDoor
