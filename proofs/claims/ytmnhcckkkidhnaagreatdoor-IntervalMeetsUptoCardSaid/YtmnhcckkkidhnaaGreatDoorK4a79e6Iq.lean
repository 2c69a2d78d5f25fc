/-
  Contracts of package interval: absolute values; whether a set is empty, bounded. Conditions: the values are intervals.
-/
import Derived.Test.YtmnhcckkkidhnaaGreatDoorKdedd53In
set_option linter.unusedVariables false
set_option linter.unusedSimpArgs false
namespace Go.Q
open Go.Proofs
set_option maxRecDepth 100000
set_option maxHeartbeats 4000000
def NS.size : NS → NS
  | .e => .e
  | .i a b => if 0 ≤ (NS.i a b).slo then .i a b else if (NS.i a b).shi ≤ 0 then (NS.i a b).minus else .i (some ((0 : Int) : Rat)) (jmax (a.map (-·)) b)
theorem NS.size_i {a b : Option Rat} : (NS.i a b).size = if 0 ≤ (NS.i a b).slo then .i a b else if (NS.i a b).shi ≤ 0 then (NS.i a b).minus else .i (some ((0 : Int) : Rat)) (jmax (a.map (-·)) b) := rfl
theorem NS.le.size {x : NS} {k : Nat} (hk : 1 ≤ k) (h : x.le k) : x.size.le k := by
  cases x with
  | e => exact h
  | i a b =>
    rw [NS.size_i]
    split
    · exact h
    · split
      · exact h.minus
      · rw [NS.le_i] at h ⊢
        refine ⟨fun q e => ?_, fun q e => ?_⟩
        · cases e; exact Nat.le_trans (by decide) hk
        · cases a with
          | none => cases e
          | some a =>
            cases b with
            | none => cases e
            | some b => cases e; exact sz_max (by rw [sz_neg]; exact h.1 _ rfl) (h.2 _ rfl)
def NS.fin : NS → Bool
  | .e => true
  | .i a b => !a.isNone && !b.isNone
end Go.Q
