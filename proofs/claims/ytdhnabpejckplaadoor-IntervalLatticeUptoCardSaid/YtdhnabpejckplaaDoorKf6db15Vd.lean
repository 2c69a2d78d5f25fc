/-
  Round is the least interval on the grid; rounded results stay as they are. Conditions: the arguments are intervals.
-/
import Derived.Test.YtdhnabpejckplaaDoorK8273c1Va
import Derived.Test.YtdhnabpejckplaaDoorK6b3eccIm
set_option linter.unusedVariables false
set_option linter.unusedSimpArgs false
namespace Go.Q
open Go.Proofs
set_option maxRecDepth 100000
set_option maxHeartbeats 4000000
theorem Ir.oa {h : PH} {r : Value} {x : NS} (k : Ir h r (.ok x)) : ∃ b1 a1 m1 c1 a2 m2 c2 b2 a3 m3 c3 a4 m4 c4 l u, r = .tuple #[.agg #[.bool b1, .slice a1 m1 c1, .slice a2 m2 c2, .bool b2, .slice a3 m3 c3, .slice a4 m4 c4, .bool l, .bool u], .int .i64 0] ∧
    Cv h (.agg #[.bool b1, .slice a1 m1 c1, .slice a2 m2 c2, .bool b2, .slice a3 m3 c3, .slice a4 m4 c4, .bool l, .bool u]) x := by
  obtain ⟨u, rfl, c⟩ := k
  obtain ⟨_, _, _, _, _, _, _, _, _, _, _, _, _, _, _, _, rfl, c⟩ := c.sa
  exact ⟨_, _, _, _, _, _, _, _, _, _, _, _, _, _, _, _, rfl, c⟩
theorem Cv.ir {h : PH} {v : Value} {x : NS} (c : Cv h v x) : Ir h (.tuple #[v, .int .i64 0]) (.ok x) := ⟨v, rfl, c⟩
theorem Fit.ok {x : NS} (h1 : x.ok) (h2 : x.le 2048) : Fit (.ok x) := ⟨fun z k => (by cases k; exact ⟨h1, h2⟩), fun e k => (by cases k)⟩
end Go.Q
