/-
  Contracts of package interval: ends of sets, products of ends. Conditions: the values denote the ends named, numbers of at most 2^30 binary digits.
-/
import Derived.Test.YtdmecaojlbkclaaGreatDoorK6a9eb5Ig
set_option linter.unusedVariables false
set_option linter.unusedSimpArgs false
namespace Go.Q
open Go.Proofs
set_option maxRecDepth 100000
set_option maxHeartbeats 4000000
inductive Pt where
  | fin (q : Rat)
  | inf (up : Bool)
def Pt.mul : Pt → Pt → Pt
  | .fin p, .fin q => .fin (p * q)
  | .inf u, .fin q => if q = 0 then .fin 0 else .inf (u == decide (0 < q))
  | .fin p, .inf u => if p = 0 then .fin 0 else .inf (u == decide (0 < p))
  | .inf u, .inf w => .inf (u == w)
def Pt.le (k : Nat) : Pt → Prop
  | .fin q => sz q ≤ k
  | .inf _ => True
@[reducible] def Pt.num : Pt → Option Rat
  | .fin q => some q
  | .inf _ => none
theorem sgn3_zero {q : Rat} : sgn3 q = 0 ↔ q = 0 := by unfold sgn3; grind
attribute [go_sem] Int.toNat_one Nat.zero_mul Nat.one_mul Nat.zero_add List.set_cons_zero List.set_cons_succ
end Go.Q
