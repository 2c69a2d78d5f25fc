/-
  The statements' own comparisons: canonical intervals, equal intervals, results as they are asked for. Conditions: the values are canonical intervals (Cv) of sets in order.
-/
import Derived.Test.YtdmecaojlbkclaaDoorK1af2a8Sb
import Derived.Test.YtdmecaojlbkclaaDoorK3ededbBunM
import Derived.Test.YtdmecaojlbkclaaDoorRaBunC
set_option linter.unusedVariables false
set_option linter.unusedSimpArgs false
namespace Go.Q
open Go.Proofs
set_option maxRecDepth 100000
set_option maxHeartbeats 4000000
namespace NS
def clo : NS → Rat
  | .e => 1
  | .i a _ => a.getD 0
def chi : NS → Rat
  | .e => 0
  | .i _ b => b.getD 0
theorem le_c {k : Nat} {x : NS} (hk : 1 ≤ k) (h : x.le k) : sz x.clo ≤ k ∧ sz x.chi ≤ k := by
  have h0 : sz 0 ≤ k := Nat.le_trans sz_zero hk
  have h1 : sz 1 ≤ k := Nat.le_trans (by decide) hk
  cases x with
  | e => exact ⟨h1, h0⟩
  | i a b =>
    rw [le_i] at h
    refine ⟨?_, ?_⟩
    · cases a with
      | none => exact h0
      | some a => exact h.1 _ rfl
    · cases b with
      | none => exact h0
      | some b => exact h.2 _ rfl
end NS
theorem Cv.fl {h : PH} {v : Value} {x : NS} (r : Cv h v x) : ∃ b1 a1 m1 c1 a2 m2 c2 b2 a3 m3 c3 a4 m4 c4, v = .agg #[.bool b1, .slice a1 m1 c1, .slice a2 m2 c2, .bool b2, .slice a3 m3 c3, .slice a4 m4 c4, .bool x.loN, .bool x.hiN] ∧
    Cn h (.agg #[.bool b1, .slice a1 m1 c1, .slice a2 m2 c2]) x.clo ∧ Cn h (.agg #[.bool b2, .slice a3 m3 c3, .slice a4 m4 c4]) x.chi := by
  have r0 := r
  obtain ⟨b1, x1, y1, b2, x2, y2, rfl, h1, h2⟩ := r
  obtain ⟨_, _, _, _, _, _, _, e1, _⟩ := h1.sa
  obtain ⟨_, _, _, _, _, _, _, e2, _⟩ := h2.sa
  simp only [Value.agg.injEq, Array.mk.injEq, List.cons.injEq, and_true] at e1 e2
  obtain ⟨_, rfl, rfl⟩ := e1
  obtain ⟨_, rfl, rfl⟩ := e2
  cases x with
  | e => exact ⟨_, _, _, _, _, _, _, _, _, _, _, _, _, _, rfl, h1, h2⟩
  | i a b => exact ⟨_, _, _, _, _, _, _, _, _, _, _, _, _, _, rfl, h1, h2⟩
def NS.ri (x : NS) : RI := ⟨decide (x.clo.num < 0), x.clo.num.natAbs, if x.clo.den = 1 then 0 else x.clo.den, decide (x.chi.num < 0), x.chi.num.natAbs, if x.chi.den = 1 then 0 else x.chi.den, x.loN, x.hiN⟩
theorem Cv.iv {h : PH} {v : Value} {x : NS} (r : Cv h v x) (hf : x.le 2048) : Iv h v x.ri := by
  obtain ⟨b1, a1, m1, c1, a2, m2, c2, b2, a3, m3, c3, a4, m4, c4, rfl, h1, h2⟩ := r.fl
  have hs := NS.le_c (by decide) hf
  exact Iv.mk (h1.rw (Nat.le_trans hs.1 (by decide))) (h2.rw (Nat.le_trans hs.2 (by decide))) _ _
theorem NS.ri_big {x : NS} (hf : x.le 2048) : x.ri.big = false := by
  have hs := NS.le_c (by decide) hf
  unfold RI.big NS.ri
  dsimp only
  have h1 : ¬ lg (decide (x.clo.num < 0)) x.clo.num.natAbs (if x.clo.den = 1 then 0 else x.clo.den) := by rw [lg_cn]; omega
  have h2 : ¬ lg (decide (x.chi.num < 0)) x.chi.num.natAbs (if x.chi.den = 1 then 0 else x.chi.den) := by rw [lg_cn]; omega
  simp only [h1, h2, decide_false, Bool.or_self]
theorem NS.ri_set {x : NS} (hx : x.ok) : x.ri.set = x := by
  unfold RI.set RI.lo RI.hi NS.ri
  dsimp only
  rw [qof_cn, qof_cn]
  cases x with
  | e => simp [NS.loN, NS.hiN, NS.clo, NS.chi, NS.mk', ordO, show decide ((0 : Rat) < 1) = true by decide]
  | i a b => cases a <;> cases b <;> simp [NS.loN, NS.hiN, NS.clo, NS.chi, NS.mk'] <;> simp [NS.ok] at hx <;> simp [hx] <;> rfl
end Go.Q
