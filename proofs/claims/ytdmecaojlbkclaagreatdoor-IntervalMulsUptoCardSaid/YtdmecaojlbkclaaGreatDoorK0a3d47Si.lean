/-
  Contracts of the reference's intervals: sums and differences. Conditions: the values are intervals (Iv) and sets (Rr).
-/
import Derived.Test.YtdmecaojlbkclaaGreatDoorK7384a1Se
import Derived.Test.YtdmecaojlbkclaaGreatDoorK248d6aBunP
set_option linter.unusedVariables false
set_option linter.unusedSimpArgs false
namespace Go.Q
open Go.Proofs
set_option maxRecDepth 100000
set_option maxHeartbeats 4000000
theorem rnd_eq {x y z : NS} {p : Int} (h : x.void = true ∨ y.void = true → z = .e) : rnd p x y (.ok z) = Out.prec p (.ok (z.hull p.toNat)) := by
  unfold rnd
  cases hx : x.void with
  | true => rw [h (.inl hx)]; rfl
  | false =>
    cases hy : y.void with
    | true => rw [h (.inr hy)]; rfl
    | false => rfl
end Go.Q
