/-
  Contracts of the reference's intervals: beginning, giving, rounding. Conditions: the values are intervals (Iv).
-/
import Derived.Test.YtdmecaojlbkclaaGreatDoorKbf0a14Sa
import Derived.Test.YtdmecaojlbkclaaGreatDoorK22bd1dBunP
set_option linter.unusedVariables false
set_option linter.unusedSimpArgs false
namespace Go.Q
open Go.Proofs
set_option maxRecDepth 100000
set_option maxHeartbeats 4000000
theorem RefApi {h0 h : PH} [Le h0 h] {v : Value} {x : NS} (hv : Rr h0 v x) (hf : x.le (2 ^ 36)) : Spec mach 30 #[v] h (fun v h' => Cv h' v x) NP := by
  rw [NS.le_ends (by decide)] at hf
  obtain ⟨_, _, _, _, _, _, _, _, _, _, _, _, _, _, rfl, t1, t2⟩ := hv.sa
  cases x with
  | e =>
    dsimp only [NS.void]
    refine Spec.enter (args := [_]) (n := 19) Tryz.func30 rfl (by kernel_rfl) rfl (by simp) [.cell 2 26] rfl (fun C _ => ?_)
    repeat (first | (refine wo rfl (fun k hk => ?_); simp (disch := omega) only [go_sem, Nat.reduceBEq, Nat.reduceAdd]; refine hk _ _ ?_; clear hk k) | refine wkt rfl ?_ | refine wk0 ?_ | refine rg rfl rfl (fun K hK => ?_) | refine rd [.o 0, .o 1, .o 3, .o 4, .o 6, .o 7, .o 8, .o 9, .o 2, .o 5, .o 10, .o 11] rfl (by decide +kernel) rfl (fun K hK => ?_) | ((first | refine AWP_exit ?_ | refine AWP_skip ?_); simp (disch := decide) only [qs, qb, if_true, if_false, reduceIte]) | refine AWP_sq rfl (fun K hK => ?_) | refine ct rfl ?_ | ((try simp (disch := omega) only [go_sem, Nat.reduceBEq, Nat.reduceAdd]); (first | apply hK | (clear hK; apply hK) | (clear hK; clear hK; apply hK)); clear hK; (try clear K); (try dsimp only [behind, qs, qb])))
    refine cN rfl rfl rfl rfl (by exact QInt_spec (n := 1) (by decide) (by decide)) ?_; rintro v1 h1 _ f1; obtain ⟨v1_0, v1_1, v1_2, v1_3, v1_4, v1_5, v1_6, rfl, f1⟩ := f1.sa; (repeat (first | (refine wo rfl (fun k hk => ?_); simp (disch := omega) only [go_sem, Nat.reduceBEq, Nat.reduceAdd]; refine hk _ _ ?_; clear hk k) | refine wkt rfl ?_)); (try refine wk0 ?_)
    refine cN rfl rfl rfl rfl (by exact QRat_spec f1 (by decide)) ?_; rintro v2 h2 _ f2; obtain ⟨v2_0, v2_1, v2_2, v2_3, v2_4, v2_5, v2_6, rfl, f2⟩ := f2.sa
    repeat (first | (refine wo rfl (fun k hk => ?_); simp (disch := omega) only [go_sem, Nat.reduceBEq, Nat.reduceAdd]; refine hk _ _ ?_; clear hk k) | refine wkt rfl ?_ | refine wk0 ?_ | refine rg rfl rfl (fun K hK => ?_) | refine rd [.o 0, .o 1, .o 3, .o 4, .o 6, .o 7, .o 8, .o 9, .o 2, .o 5, .o 10, .o 11] rfl (by decide +kernel) rfl (fun K hK => ?_) | ((first | refine AWP_exit ?_ | refine AWP_skip ?_); simp (disch := decide) only [qs, qb, if_true, if_false, reduceIte]) | refine AWP_sq rfl (fun K hK => ?_) | refine ct rfl ?_ | ((try simp (disch := omega) only [go_sem, Nat.reduceBEq, Nat.reduceAdd]); (first | apply hK | (clear hK; apply hK) | (clear hK; clear hK; apply hK)); clear hK; (try clear K); (try dsimp only [behind, qs, qb])))
    refine AWP_ret ?_; simp (disch := omega) only [go_sem, Nat.reduceBEq, Nat.reduceAdd]
    exact ⟨_, _, _, _, _, _, rfl, f2.to, Cn.zero _⟩
  | i a b =>
    dsimp only [NS.void, NS.loN, NS.hiN, NS.lo0, NS.hi0] at *
    refine Spec.enter (args := [_]) (n := 19) Tryz.func30 rfl (by kernel_rfl) rfl (by simp) [.cell 2 26] rfl (fun C _ => ?_)
    repeat (first | (refine wo rfl (fun k hk => ?_); simp (disch := omega) only [go_sem, Nat.reduceBEq, Nat.reduceAdd]; refine hk _ _ ?_; clear hk k) | refine wkt rfl ?_ | refine wk0 ?_ | refine rg rfl rfl (fun K hK => ?_) | refine rd [.o 0, .o 1, .o 3, .o 4, .o 6, .o 7, .o 8, .o 9, .o 2, .o 5, .o 10, .o 11] rfl (by decide +kernel) rfl (fun K hK => ?_) | ((first | refine AWP_exit ?_ | refine AWP_skip ?_); simp (disch := decide) only [qs, qb, if_true, if_false, reduceIte]) | refine AWP_sq rfl (fun K hK => ?_) | refine ct rfl ?_ | ((try simp (disch := omega) only [go_sem, Nat.reduceBEq, Nat.reduceAdd]); (first | apply hK | (clear hK; apply hK) | (clear hK; clear hK; apply hK)); clear hK; (try clear K); (try dsimp only [behind, qs, qb])))
    refine cN rfl rfl rfl rfl (by exact QRat_spec t1 hf.1) ?_; rintro v1 h1 _ f1; obtain ⟨v1_0, v1_1, v1_2, v1_3, v1_4, v1_5, v1_6, rfl, f1⟩ := f1.sa; (repeat (first | (refine wo rfl (fun k hk => ?_); simp (disch := omega) only [go_sem, Nat.reduceBEq, Nat.reduceAdd]; refine hk _ _ ?_; clear hk k) | refine wkt rfl ?_)); (try refine wk0 ?_)
    refine cN rfl rfl rfl rfl (by exact QRat_spec t2 hf.2) ?_; rintro v2 h2 _ f2; obtain ⟨v2_0, v2_1, v2_2, v2_3, v2_4, v2_5, v2_6, rfl, f2⟩ := f2.sa; (repeat (first | (refine wo rfl (fun k hk => ?_); simp (disch := omega) only [go_sem, Nat.reduceBEq, Nat.reduceAdd]; refine hk _ _ ?_; clear hk k) | refine wkt rfl ?_)); (try refine wk0 ?_)
    (try (simp (disch := omega) only [go_sem, Nat.reduceBEq, Nat.reduceAdd])); refine hK _ _ ?_; clear hK; (try clear K); (try dsimp only [behind, qs])
    refine AWP_ret ?_; simp (disch := omega) only [go_sem, Nat.reduceBEq, Nat.reduceAdd]
    exact ⟨_, _, _, _, _, _, rfl, f1.to, f2.to⟩
end Go.Q
