/-
  Contracts of package interval: what Has and Inside answer. Conditions: the values are intervals and numbers.
-/
import Derived.Test.YtdmecaojlbkclaaGreatDoorKa7296bTb
import Derived.Test.YtdmecaojlbkclaaGreatDoorK9812eeIh
import Derived.Test.YtdmecaojlbkclaaGreatDoorK319dbaBunP
import Derived.Test.YtdmecaojlbkclaaGreatDoorKec1f03BunM
set_option linter.unusedVariables false
set_option linter.unusedSimpArgs false
namespace Go.Q
open Go.Proofs
set_option maxRecDepth 100000
set_option maxHeartbeats 4000000
theorem Sf.sa {h : PH} {v : Value} {s : PS} (r : Sf h v s) : ∃ b1 a1 m1 c1 a2 m2 c2 b2 a3 m3 c3 a4 m4 c4, v = .agg #[.bool b1, .slice a1 m1 c1, .slice a2 m2 c2, .bool b2, .slice a3 m3 c3, .slice a4 m4 c4, .bool s.l, .bool s.u, .bool s.e] ∧
    Fr h (.agg #[.bool b1, .slice a1 m1 c1, .slice a2 m2 c2]) s.lo ∧ Fr h (.agg #[.bool b2, .slice a3 m3 c3, .slice a4 m4 c4]) s.hi := by
  obtain ⟨b1, x1, y1, b2, x2, y2, rfl, h1, h2⟩ := r
  obtain ⟨_, _, _, _, _, _, _, e1, _⟩ := h1.sa
  obtain ⟨_, _, _, _, _, _, _, e2, _⟩ := h2.sa
  simp only [Value.agg.injEq, Array.mk.injEq, List.cons.injEq, and_true] at e1 e2
  obtain ⟨_, rfl, rfl⟩ := e1
  obtain ⟨_, rfl, rfl⟩ := e2
  exact ⟨_, _, _, _, _, _, _, _, _, _, _, _, _, _, rfl, h1, h2⟩
end Go.Q
