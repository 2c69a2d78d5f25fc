/-
  Contracts of package interval: absolute values; whether a set is empty, bounded. Conditions: the values are intervals.
-/
import Derived.Test.YtdmecaojlbkclaaGreatDoorK1d5cb4In
set_option linter.unusedVariables false
set_option linter.unusedSimpArgs false
namespace Go.Q
open Go.Proofs
set_option maxRecDepth 100000
set_option maxHeartbeats 4000000
def NS.size : NS → NS
  | .e => .e
  | .i a b => if 0 ≤ (NS.i a b).slo then .i a b else if (NS.i a b).shi ≤ 0 then (NS.i a b).minus else .i (some ((0 : Int) : Rat)) (jmax (a.map (-·)) b)
theorem NS.size_i {a b : Option Rat} : (NS.i a b).size = if 0 ≤ (NS.i a b).slo then .i a b else if (NS.i a b).shi ≤ 0 then (NS.i a b).minus else .i (some ((0 : Int) : Rat)) (jmax (a.map (-·)) b) := rfl
theorem NS.le.size {x : NS} {k : Nat} (hk : 1 ≤ k) (h : x.le k) : x.size.le k := by
  cases x with
  | e => exact h
  | i a b =>
    rw [NS.size_i]
    split
    · exact h
    · split
      · exact h.minus
      · rw [NS.le_i] at h ⊢
        refine ⟨fun q e => ?_, fun q e => ?_⟩
        · cases e; exact Nat.le_trans (by decide) hk
        · cases a with
          | none => cases e
          | some a =>
            cases b with
            | none => cases e
            | some b => cases e; exact sz_max (by rw [sz_neg]; exact h.1 _ rfl) (h.2 _ rfl)
theorem sgn3_bd {q : Rat} : sgn3 q = -1 ∨ sgn3 q = 0 ∨ sgn3 q = 1 := by unfold sgn3; grind
theorem sgn3_mono {a b : Rat} (h : ¬ b < a) : sgn3 a ≤ sgn3 b := by unfold sgn3; grind
theorem sgN_i {a b : Option Rat} : sgN (.i a b) = if 0 < (NS.i a b).slo then 2 else if (NS.i a b).shi < 0 then -2 else if (NS.i a b).slo = 0 ∧ (NS.i a b).shi = 0 then 0 else if (NS.i a b).slo = 0 then 1 else if (NS.i a b).shi = 0 then -1 else 3 := by
  unfold sgN; rw [if_neg (by simp [NS.void])]
theorem NS.ok_size {x : NS} (hx : x.ok) : x.size.ok := by
  cases x with
  | e => exact hx
  | i a b =>
    rw [NS.size_i]
    split
    · exact hx
    · split
      · exact NS.ok_minus hx
      · rename_i h1 h2
        cases a with
        | none => rfl
        | some a =>
          cases b with
          | none => rfl
          | some b =>
            have h3 : 0 < b := by
              have h2 : ¬ sgn3 b ≤ 0 := h2
              unfold sgn3 at h2; grind
            have h4 : ¬ max (-a) b < ((0 : Int) : Rat) := by
              have : ((0 : Int) : Rat) = 0 := rfl
              rw [this]; grind
            show (!decide (max (-a) b < ((0 : Int) : Rat))) = true
            rw [decide_eq_false h4]; rfl
def NS.fin : NS → Bool
  | .e => true
  | .i a b => !a.isNone && !b.isNone
end Go.Q
