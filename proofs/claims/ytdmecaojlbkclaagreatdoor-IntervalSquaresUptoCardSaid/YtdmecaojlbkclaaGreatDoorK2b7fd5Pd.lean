/-
  Contracts of package interval: inverses of sets; what Div returns. Conditions: the values are intervals.
-/
import Derived.Test.YtdmecaojlbkclaaGreatDoorKf48e03Pc
set_option linter.unusedVariables false
set_option linter.unusedSimpArgs false
namespace Go.Q
open Go.Proofs
set_option maxRecDepth 100000
set_option maxHeartbeats 8000000
def invO : Option Rat → Rat
  | none => ((0 : Int) : Rat)
  | some q => q⁻¹
def NS.inv : NS → NS
  | .e => .e
  | .i a b => .i (some (invO b)) (some (invO a))
theorem zero_ends {a b : Option Rat} (h : (NS.i a b).zero = false) (ho : (NS.i a b).ok) : (∀ q, a = some q → q ≠ 0) ∧ ∀ q, b = some q → q ≠ 0 := by
  have h1 : ¬ ((NS.i a b).slo ≤ 0 ∧ 0 ≤ (NS.i a b).shi) := by
    intro k
    simp [NS.zero, NS.void, k.1, k.2] at h
  refine ⟨fun q e k => h1 ?_, fun q e k => h1 ?_⟩
  · subst e k
    refine ⟨by show sgn3 0 ≤ 0; decide, ?_⟩
    cases b with
    | none => show (0 : Int) ≤ 1; decide
    | some b =>
      have : ¬ b < 0 := by simpa [NS.ok, ordO] using ho
      show 0 ≤ sgn3 b
      unfold sgn3; grind
  · subst e k
    refine ⟨?_, by show 0 ≤ sgn3 0; decide⟩
    cases a with
    | none => show (-1 : Int) ≤ 0; decide
    | some a =>
      have : ¬ (0 : Rat) < a := by simpa [NS.ok, ordO] using ho
      show sgn3 a ≤ 0
      unfold sgn3; grind
theorem InverseS_spec {h0 h : PH} [Le h0 h] {v : Value} {a b : Option Rat} (hv : Sn h0 v (.i a b)) (ha : ∀ q, a = some q → q ≠ 0) (hb : ∀ q, b = some q → q ≠ 0) : Spec mach 44 #[v] h (fun v h' => Sn h' v (NS.i a b).inv) NP := by
  obtain ⟨b1, a1, m1, c1, a2, m2, c2, b2, a3, m3, c3, a4, m4, c4, rfl, e1, e2⟩ := hv.ie
  cases a <;> cases b <;>
  · dsimp only [Option.isNone]
    refine Spec.enter (args := [_]) (n := 22) Tryz.func44 rfl (by kernel_rfl) rfl (by simp) [.cell 2 43] rfl (fun C _ => ?_)
    repeat (first | (refine wo rfl (fun k hk => ?_); simp (disch := omega) only [go_sem, Nat.reduceBEq, Nat.reduceAdd]; refine hk _ _ ?_; clear hk k) | refine wkt rfl ?_ | refine wk0 ?_ | refine rg rfl rfl (fun K hK => ?_) | ((first | refine AWP_exit ?_ | refine AWP_skip ?_); simp (disch := decide) only [qs, qb, if_true, if_false, reduceIte]) | refine AWP_sq rfl (fun K hK => ?_) | refine ct rfl ?_ | ((try simp (disch := omega) only [go_sem, Nat.reduceBEq, Nat.reduceAdd]); (first | apply hK | (clear hK; apply hK) | (clear hK; clear hK; apply hK)); clear hK; (try clear K); (try dsimp only [behind, qs, qb])))
    refine cN rfl rfl rfl rfl (by exact Int_spec (n := 0) (by decide) (by decide)) ?_; rintro v1 h1 _ f1; obtain ⟨v1_0, v1_1, v1_2, v1_3, v1_4, v1_5, v1_6, rfl, f1⟩ := f1.sa; (repeat (first | (refine wo rfl (fun k hk => ?_); simp (disch := omega) only [go_sem, Nat.reduceBEq, Nat.reduceAdd]; refine hk _ _ ?_; clear hk k) | refine wkt rfl ?_)); (try refine wk0 ?_)
    refine cN rfl rfl rfl rfl (by exact Int_spec (n := 0) (by decide) (by decide)) ?_; rintro v2 h2 _ f2; obtain ⟨v2_0, v2_1, v2_2, v2_3, v2_4, v2_5, v2_6, rfl, f2⟩ := f2.sa
    repeat (first | (refine wo rfl (fun k hk => ?_); simp (disch := omega) only [go_sem, Nat.reduceBEq, Nat.reduceAdd]; refine hk _ _ ?_; clear hk k) | refine wkt rfl ?_ | refine wk0 ?_ | ((first | refine rg rfl rfl (fun K hK => ?_)); (repeat (first | (refine wo rfl (fun k hk => ?_); simp (disch := omega) only [go_sem, Nat.reduceBEq, Nat.reduceAdd]; refine hk _ _ ?_; clear hk k) | refine wkt rfl ?_ | refine wk0 ?_)); (first | apply hK | (clear hK; apply hK) | (clear hK; clear hK; apply hK)); clear hK; (try clear K); (try dsimp only [behind, qs, qb])) | ((first | refine AWP_exit ?_ | refine AWP_skip ?_); simp (disch := decide) only [qs, qb, if_true, if_false, reduceIte]) | refine AWP_sq rfl (fun K hK => ?_) | refine ct rfl ?_ | ((try simp (disch := omega) only [go_sem, Nat.reduceBEq, Nat.reduceAdd]); (first | apply hK | (clear hK; apply hK) | (clear hK; clear hK; apply hK)); clear hK; (try clear K); (try dsimp only [behind, qs, qb])))
    try (refine rg rfl rfl (fun K hK => ?_); (repeat (first | (refine wo rfl (fun k hk => ?_); simp (disch := omega) only [go_sem, Nat.reduceBEq, Nat.reduceAdd]; refine hk _ _ ?_; clear hk k) | refine wkt rfl ?_)); (try refine wk0 ?_); refine cN rfl rfl rfl rfl (by exact Inverse_spec (e2.num.to (h' := h2)) (hb _ rfl)) ?_; rintro v3 h3 _ f3; obtain ⟨v3_0, v3_1, v3_2, v3_3, v3_4, v3_5, v3_6, rfl, f3⟩ := f3.sa; (repeat (first | (refine wo rfl (fun k hk => ?_); simp (disch := omega) only [go_sem, Nat.reduceBEq, Nat.reduceAdd]; refine hk _ _ ?_; clear hk k) | refine wkt rfl ?_)); (try refine wk0 ?_); (try (simp (disch := omega) only [go_sem, Nat.reduceBEq, Nat.reduceAdd])); refine hK _ _ ?_; clear hK; (try clear K); (try dsimp only [behind, qs]); repeat (first | (refine rg rfl rfl (fun K hK => ?_); (repeat (first | (refine wo rfl (fun k hk => ?_); simp (disch := omega) only [go_sem, Nat.reduceBEq, Nat.reduceAdd]; refine hk _ _ ?_; clear hk k) | refine wkt rfl ?_)); (try refine wk0 ?_); refine hK _ _ ?_; clear hK K; (try dsimp only [behind, qs, qb])) | ((first | refine AWP_exit ?_ | refine AWP_skip ?_); simp (disch := decide) only [qs, qb, if_true, if_false, reduceIte]) | refine AWP_sq rfl (fun K hK => ?_) | refine ct rfl ?_ | ((first | refine hK _ _ ?_ | (clear hK; refine hK _ _ ?_) | (clear hK; clear hK; refine hK _ _ ?_)); clear hK; (try clear K))))
    try (refine rg rfl rfl (fun K hK => ?_); (repeat (first | (refine wo rfl (fun k hk => ?_); simp (disch := omega) only [go_sem, Nat.reduceBEq, Nat.reduceAdd]; refine hk _ _ ?_; clear hk k) | refine wkt rfl ?_)); (try refine wk0 ?_); refine cN rfl rfl rfl rfl (by exact Inverse_spec e1.num (ha _ rfl)) ?_; rintro v4 h4 _ f4; obtain ⟨v4_0, v4_1, v4_2, v4_3, v4_4, v4_5, v4_6, rfl, f4⟩ := f4.sa; (repeat (first | (refine wo rfl (fun k hk => ?_); simp (disch := omega) only [go_sem, Nat.reduceBEq, Nat.reduceAdd]; refine hk _ _ ?_; clear hk k) | refine wkt rfl ?_)); (try refine wk0 ?_); (try (simp (disch := omega) only [go_sem, Nat.reduceBEq, Nat.reduceAdd])); refine hK _ _ ?_; clear hK; (try clear K); (try dsimp only [behind, qs]); repeat (first | (refine rg rfl rfl (fun K hK => ?_); (repeat (first | (refine wo rfl (fun k hk => ?_); simp (disch := omega) only [go_sem, Nat.reduceBEq, Nat.reduceAdd]; refine hk _ _ ?_; clear hk k) | refine wkt rfl ?_)); (try refine wk0 ?_); refine hK _ _ ?_; clear hK K; (try dsimp only [behind, qs, qb])) | ((first | refine AWP_exit ?_ | refine AWP_skip ?_); simp (disch := decide) only [qs, qb, if_true, if_false, reduceIte]) | refine AWP_sq rfl (fun K hK => ?_) | refine ct rfl ?_ | ((first | refine hK _ _ ?_ | (clear hK; refine hK _ _ ?_) | (clear hK; clear hK; refine hK _ _ ?_)); clear hK; (try clear K))))
    refine AWP_ret ?_; simp (disch := omega) only [go_sem, Nat.reduceBEq, Nat.reduceAdd]
    exact ⟨_, _, _, _, _, _, rfl, by first | exact En.of f3.to | exact En.of f1.to, by first | exact En.of f4.to | exact En.of f2.to⟩
theorem inv_le {x : NS} {k : Nat} (h : x.le k) (hk : 1 ≤ k) : x.inv.le k := by
  cases x with
  | e => exact h
  | i a b =>
    rw [NS.le_i] at h
    show NS.le k (.i (some (invO b)) (some (invO a)))
    rw [NS.le_i]
    have h0 : sz ((0 : Int) : Rat) ≤ k := Nat.le_trans (by decide) hk
    refine ⟨fun q e => ?_, fun q e => ?_⟩
    · cases e
      cases b with
      | none => exact h0
      | some b => exact Nat.le_trans (sz_inv b) (h.2 _ rfl)
    · cases e
      cases a with
      | none => exact h0
      | some a => exact Nat.le_trans (sz_inv a) (h.1 _ rfl)
end Go.Q
