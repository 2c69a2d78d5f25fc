/-
  Powers of sets, plain. Conditions: ends in order (ok) where named.
-/
import Derived.Test.YtdmecaojlbkclaaGreatDoorK5b7fdbPr
import Derived.Test.YtdmecaojlbkclaaGreatDoorKb1f5aaIq
import Derived.Test.YtdmecaojlbkclaaGreatDoorKc142caBunM
set_option linter.unusedVariables false
set_option linter.unusedSimpArgs false
namespace Go.Q
def NS.powr (n : Nat) : NS → NS
  | .e => .e
  | .i a b => .i (a.map (· ^ n)) (b.map (· ^ n))
def NS.pow (n : Nat) : NS → NS
  | .e => .e
  | .i a b => if n = 0 then .i (some ((1 : Int) : Rat)) (some ((1 : Int) : Rat)) else if n % 2 = 0 then (NS.i a b).size.powr n else (NS.i a b).powr n
theorem NS.powr_le {x : NS} {n k : Nat} (h : x.le k) : (x.powr n).le (n * k + 1) := by
  cases x with
  | e => exact h
  | i a b =>
    rw [NS.le_i] at h
    show NS.le _ (.i _ _)
    rw [NS.le_i]
    refine ⟨fun q e => ?_, fun q e => ?_⟩
    · cases a with
      | none => cases e
      | some a =>
        cases e
        have h1 := sz_pow a n
        have := Nat.mul_le_mul_left n (h.1 a rfl)
        exact Nat.le_trans h1 (by omega)
    · cases b with
      | none => cases e
      | some b =>
        cases e
        have h1 := sz_pow b n
        have := Nat.mul_le_mul_left n (h.2 b rfl)
        exact Nat.le_trans h1 (by omega)
theorem NS.pow_le {x : NS} {n k : Nat} (h : x.le k) (hk : 1 ≤ k) : (x.pow n).le (n * k + 1) := by
  cases x with
  | e => exact h
  | i a b =>
    show NS.le _ (if n = 0 then _ else if n % 2 = 0 then _ else _)
    split
    · rw [NS.le_i]
      have : sz ((1 : Int) : Rat) ≤ n * k + 1 := Nat.le_trans (by decide) (Nat.le_add_left 1 _)
      exact ⟨fun q e => by cases e; exact this, fun q e => by cases e; exact this⟩
    · split
      · exact NS.powr_le (NS.le.size hk h)
      · exact NS.powr_le h
theorem NS.size_low {x : NS} {a b : Option Rat} (hx : x.ok) (h : x.size = .i a b) : ∃ p, a = some p ∧ 0 ≤ p := by
  have sg : ∀ {q : Rat}, 0 ≤ sgn3 q → 0 ≤ q := fun {q} k => by unfold sgn3 at k; grind
  have sg' : ∀ {q : Rat}, sgn3 q ≤ 0 → q ≤ 0 := fun {q} k => by unfold sgn3 at k; grind
  cases x with
  | e => cases h
  | i c d =>
    rw [NS.size_i] at h
    split at h
    · rename_i h1
      cases h
      cases a with
      | none => exact absurd h1 (by show ¬ (0 : Int) ≤ -1; decide)
      | some a => exact ⟨a, rfl, sg h1⟩
    · split at h
      · rename_i h1
        cases d with
        | none => exact absurd h1 (by show ¬ (1 : Int) ≤ 0; decide)
        | some d =>
          have h2 := sg' (show sgn3 d ≤ 0 from h1)
          cases h
          exact ⟨-d, rfl, by grind⟩
      · cases h
        exact ⟨_, rfl, by decide⟩
theorem NS.ok_powr {x : NS} {n : Nat} (hx : x.ok) (hn : n % 2 = 1 ∨ ∀ a b, x = .i a b → ∃ p, a = some p ∧ 0 ≤ p) : (x.powr n).ok := by
  cases x with
  | e => trivial
  | i a b =>
    show ordO _ _ = true
    cases a with
    | none => rfl
    | some a => cases b with
      | none => rfl
      | some b =>
        have h0 : ¬ b < a := by simpa [NS.ok, ordO] using hx
        have h1 : a ^ n ≤ b ^ n := by
          rcases hn with k | k
          · exact rpow_odd k (by grind)
          · obtain ⟨p, e, hp⟩ := k _ _ rfl
            cases e
            exact rpow_mono n hp (by grind)
        have h2 : ¬ b ^ n < a ^ n := by grind
        simp [ordO, h2]
theorem NS.ok_pow {x : NS} {n : Nat} (hx : x.ok) : (x.pow n).ok := by
  cases x with
  | e => trivial
  | i a b =>
    show NS.ok (if n = 0 then _ else if n % 2 = 0 then _ else _)
    split
    · show ordO _ _ = true
      simp [ordO]
    · split
      · exact NS.ok_powr (NS.ok_size hx) (.inr fun c d e => NS.size_low hx e)
      · exact NS.ok_powr hx (.inl (by omega))
end Go.Q
