/-
  Contracts of package interval: what Has and Inside answer. Conditions: the values are intervals and numbers.
-/
import Derived.Test.YtdmecaojlbkclaaGreatDoorK372e14Tb
import Derived.Test.YtdmecaojlbkclaaGreatDoorK920a51Ih
import Derived.Test.YtdmecaojlbkclaaGreatDoorK22bd1dBunP
import Derived.Test.YtdmecaojlbkclaaGreatDoorKc142caBunM
set_option linter.unusedVariables false
set_option linter.unusedSimpArgs false
namespace Go.Q
open Go.Proofs
set_option maxRecDepth 100000
set_option maxHeartbeats 4000000
def Bd (f : FuncId) (args : Array Value) (h : PH) : Except Int Bool → Prop
  | .ok b => Spec mach f args h (fun v _ => v = .bool b) NP
  | .error e => Spec mach f args h NR (fail e)
def Br (r : Value) : Except Int Bool → Prop
  | .ok b => r = .tuple #[.bool b, .int .i64 0]
  | .error e => r = .tuple #[.bool false, .int .i64 e]
theorem Br.sa {r : Value} {o : Except Int Bool} (k : Br r o) : ∃ b e, r = .tuple #[.bool b, .int .i64 e] ∧ Br (.tuple #[.bool b, .int .i64 e]) o := by
  cases o with
  | ok b => exact ⟨_, _, k, rfl⟩
  | error e => exact ⟨_, _, k, rfl⟩
theorem tryB_any {h : PH} {f : FuncId} {cap : Array Value} {o : Except Int Bool} (g : Bd f cap h o) : Spec mach 113 #[.func (.func f) #[] cap] h (fun r _ => Br r o) NP := by
  cases o with
  | ok b => exact tryBo_ok g (fun v h' _ r => by subst r; exact ⟨⟨b, rfl, rfl⟩, rfl⟩)
  | error e => exact tryBo_fail g (fun _ _ => rfl)
theorem Sf.sa {h : PH} {v : Value} {s : PS} (r : Sf h v s) : ∃ b1 a1 m1 c1 a2 m2 c2 b2 a3 m3 c3 a4 m4 c4, v = .agg #[.bool b1, .slice a1 m1 c1, .slice a2 m2 c2, .bool b2, .slice a3 m3 c3, .slice a4 m4 c4, .bool s.l, .bool s.u, .bool s.e] ∧
    Fr h (.agg #[.bool b1, .slice a1 m1 c1, .slice a2 m2 c2]) s.lo ∧ Fr h (.agg #[.bool b2, .slice a3 m3 c3, .slice a4 m4 c4]) s.hi := by
  obtain ⟨b1, x1, y1, b2, x2, y2, rfl, h1, h2⟩ := r
  obtain ⟨_, _, _, _, _, _, _, e1, _⟩ := h1.sa
  obtain ⟨_, _, _, _, _, _, _, e2, _⟩ := h2.sa
  simp only [Value.agg.injEq, Array.mk.injEq, List.cons.injEq, and_true] at e1 e2
  obtain ⟨_, rfl, rfl⟩ := e1
  obtain ⟨_, rfl, rfl⟩ := e2
  exact ⟨_, _, _, _, _, _, _, _, _, _, _, _, _, _, rfl, h1, h2⟩
theorem Sf.sb {h : PH} {v : Value} {p q : Rat} {l u e : Bool} (r : Sf h v ⟨p, q, l, u, e⟩) : ∃ b1 a1 m1 c1 a2 m2 c2 b2 a3 m3 c3 a4 m4 c4, v = .agg #[.bool b1, .slice a1 m1 c1, .slice a2 m2 c2, .bool b2, .slice a3 m3 c3, .slice a4 m4 c4, .bool l, .bool u, .bool e] ∧
    Fr h (.agg #[.bool b1, .slice a1 m1 c1, .slice a2 m2 c2]) p ∧ Fr h (.agg #[.bool b2, .slice a3 m3 c3, .slice a4 m4 c4]) q := r.sa
end Go.Q
