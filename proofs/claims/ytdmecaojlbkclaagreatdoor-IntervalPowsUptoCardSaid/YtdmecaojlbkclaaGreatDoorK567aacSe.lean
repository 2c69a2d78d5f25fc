/-
  Contracts of the reference's intervals: two arguments; opposite, lesser and greater intervals. Conditions: the values are intervals (Iv) and sets (Rr).
-/
import Derived.Test.YtdmecaojlbkclaaGreatDoorKb3bc60Sd
set_option linter.unusedVariables false
set_option linter.unusedSimpArgs false
namespace Go.Q
open Go.Proofs
set_option maxRecDepth 100000
set_option maxHeartbeats 4000000
theorem RefMinus {h0 h : PH} [Le h0 h] {v : Value} {x : NS} (hv : Rr h0 v x) : Spec mach 96 #[v] h (fun r h' => Rr h' r x.minus) NP := by
  obtain ⟨_, _, _, _, _, _, _, _, _, _, _, _, _, _, rfl, t1, t2⟩ := hv.sa
  cases x with
  | e =>
    dsimp only [NS.void]
    refine Spec.enter (args := [_]) (n := 17) Tryz.func96 rfl (by kernel_rfl) rfl (by simp) [.cell 2 58] rfl (fun C _ => ?_)
    repeat (first | (refine wo rfl (fun k hk => ?_); simp (disch := omega) only [go_sem, Nat.reduceBEq, Nat.reduceAdd]; refine hk _ _ ?_; clear hk k) | refine wkt rfl ?_ | refine wk0 ?_ | refine rg rfl rfl (fun K hK => ?_) | refine rd [.o 0, .o 1, .o 3, .o 4, .o 6, .o 7, .o 8, .o 9, .o 2, .o 5, .o 10, .o 11] rfl (by decide +kernel) rfl (fun K hK => ?_) | ((first | refine AWP_exit ?_ | refine AWP_skip ?_); simp (disch := decide) only [qs, qb, if_true, if_false, reduceIte]) | refine AWP_sq rfl (fun K hK => ?_) | refine ct rfl ?_ | ((try simp (disch := omega) only [go_sem, Nat.reduceBEq, Nat.reduceAdd]); (first | apply hK | (clear hK; apply hK) | (clear hK; clear hK; apply hK)); clear hK; (try clear K); (try dsimp only [behind, qs, qb])))
    refine AWP_ret ?_; simp (disch := omega) only [go_sem, Nat.reduceBEq, Nat.reduceAdd]
    exact ⟨_, _, _, _, _, _, rfl, t1.to, t2.to⟩
  | i a b =>
    dsimp only [NS.void, NS.loN, NS.hiN, NS.lo0, NS.hi0] at *
    refine Spec.enter (args := [_]) (n := 17) Tryz.func96 rfl (by kernel_rfl) rfl (by simp) [.cell 2 58] rfl (fun C _ => ?_)
    repeat (first | (refine wo rfl (fun k hk => ?_); simp (disch := omega) only [go_sem, Nat.reduceBEq, Nat.reduceAdd]; refine hk _ _ ?_; clear hk k) | refine wkt rfl ?_ | refine wk0 ?_ | refine rg rfl rfl (fun K hK => ?_) | refine rd [.o 0, .o 1, .o 3, .o 4, .o 6, .o 7, .o 8, .o 9, .o 2, .o 5, .o 10, .o 11] rfl (by decide +kernel) rfl (fun K hK => ?_) | ((first | refine AWP_exit ?_ | refine AWP_skip ?_); simp (disch := decide) only [qs, qb, if_true, if_false, reduceIte]) | refine AWP_sq rfl (fun K hK => ?_) | refine ct rfl ?_ | ((try simp (disch := omega) only [go_sem, Nat.reduceBEq, Nat.reduceAdd]); (first | apply hK | (clear hK; apply hK) | (clear hK; clear hK; apply hK)); clear hK; (try clear K); (try dsimp only [behind, qs, qb])))
    refine cN rfl rfl rfl rfl (by exact Opp_spec t2) ?_; rintro v1 h1 _ f1; obtain ⟨v1_0, v1_1, v1_2, v1_3, v1_4, v1_5, v1_6, rfl, f1⟩ := f1.sa; (repeat (first | (refine wo rfl (fun k hk => ?_); simp (disch := omega) only [go_sem, Nat.reduceBEq, Nat.reduceAdd]; refine hk _ _ ?_; clear hk k) | refine wkt rfl ?_)); (try refine wk0 ?_)
    refine cN rfl rfl rfl rfl (by exact Opp_spec t1) ?_; rintro v2 h2 _ f2; obtain ⟨v2_0, v2_1, v2_2, v2_3, v2_4, v2_5, v2_6, rfl, f2⟩ := f2.sa
    repeat (first | (refine wo rfl (fun k hk => ?_); simp (disch := omega) only [go_sem, Nat.reduceBEq, Nat.reduceAdd]; refine hk _ _ ?_; clear hk k) | refine wkt rfl ?_ | refine wk0 ?_ | refine rg rfl rfl (fun K hK => ?_) | refine rd [.o 0, .o 1, .o 3, .o 4, .o 6, .o 7, .o 8, .o 9, .o 2, .o 5, .o 10, .o 11] rfl (by decide +kernel) rfl (fun K hK => ?_) | ((first | refine AWP_exit ?_ | refine AWP_skip ?_); simp (disch := decide) only [qs, qb, if_true, if_false, reduceIte]) | refine AWP_sq rfl (fun K hK => ?_) | refine ct rfl ?_ | ((try simp (disch := omega) only [go_sem, Nat.reduceBEq, Nat.reduceAdd]); (first | apply hK | (clear hK; apply hK) | (clear hK; clear hK; apply hK)); clear hK; (try clear K); (try dsimp only [behind, qs, qb])))
    refine AWP_ret ?_; simp (disch := omega) only [go_sem, Nat.reduceBEq, Nat.reduceAdd]
    have e3 : (NS.i a b).minus.loN = b.isNone := by cases b <;> rfl
    have e4 : (NS.i a b).minus.hiN = a.isNone := by cases a <;> rfl
    refine ⟨_, _, _, _, _, _, by rw [e3, e4]; rfl, ?_, ?_⟩
    · have e1 : (NS.i a b).minus.lo0 = -(b.getD 0) := by cases b <;> simp [NS.minus, NS.lo0]
      rw [e1]; exact f1.to
    · have e1 : (NS.i a b).minus.hi0 = -(a.getD 0) := by cases a <;> simp [NS.minus, NS.hi0]
      rw [e1]; exact f2
end Go.Q
