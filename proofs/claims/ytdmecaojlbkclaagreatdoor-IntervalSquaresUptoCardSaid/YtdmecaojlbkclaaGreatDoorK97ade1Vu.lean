/-
  Outcomes of operations on intervals: what is given back, opened. Conditions: none.
-/
import Derived.Test.YtdmecaojlbkclaaGreatDoorKe3819bVa
set_option linter.unusedVariables false
set_option linter.unusedSimpArgs false
namespace Go.Q
open Go.Proofs
set_option maxRecDepth 100000
set_option maxHeartbeats 4000000
theorem Ir.ea {h : PH} {r : Value} {e : Int} (k : Ir h r (.error e)) : r = .tuple #[.agg #[.bool false, .slice none 0 0, .slice none 0 0, .bool false, .slice none 0 0, .slice none 0 0, .bool false, .bool false], .int .i64 e] := k
theorem Ir.oa {h : PH} {r : Value} {x : NS} (k : Ir h r (.ok x)) : ∃ b1 a1 m1 c1 a2 m2 c2 b2 a3 m3 c3 a4 m4 c4 l u, r = .tuple #[.agg #[.bool b1, .slice a1 m1 c1, .slice a2 m2 c2, .bool b2, .slice a3 m3 c3, .slice a4 m4 c4, .bool l, .bool u], .int .i64 0] ∧
    Cv h (.agg #[.bool b1, .slice a1 m1 c1, .slice a2 m2 c2, .bool b2, .slice a3 m3 c3, .slice a4 m4 c4, .bool l, .bool u]) x := by
  obtain ⟨u, rfl, c⟩ := k
  obtain ⟨_, _, _, _, _, _, _, _, _, _, _, _, _, _, _, _, rfl, c⟩ := c.sa
  exact ⟨_, _, _, _, _, _, _, _, _, _, _, _, _, _, _, _, rfl, c⟩
theorem Cv.ir {h : PH} {v : Value} {x : NS} (c : Cv h v x) : Ir h (.tuple #[v, .int .i64 0]) (.ok x) := ⟨v, rfl, c⟩
theorem Fit.ok {x : NS} (h1 : x.ok) (h2 : x.le 2048) : Fit (.ok x) := ⟨fun z k => (by cases k; exact ⟨h1, h2⟩), fun e k => (by cases k)⟩
theorem Out.fin_le {z : NS} (h : z.le 2048) : Out.fin (.ok z) = .ok z := by
  unfold Out.fin
  simp only [h, decide_true, cond_true]
end Go.Q
