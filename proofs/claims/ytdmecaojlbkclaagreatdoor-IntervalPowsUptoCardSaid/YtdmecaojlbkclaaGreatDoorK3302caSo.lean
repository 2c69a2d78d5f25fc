/-
  Contracts of the reference's intervals: inverses, products, quotients. Conditions: the values are intervals (Iv) and sets (Rr).
-/
import Derived.Test.YtdmecaojlbkclaaGreatDoorKa9a836Sn
import Derived.Test.YtdmecaojlbkclaaGreatDoorKaba094Si
import Derived.Test.YtdmecaojlbkclaaGreatDoorKc003a0Sf
import Derived.Test.YtdmecaojlbkclaaGreatDoorKbc25b3Pd
set_option linter.unusedVariables false
set_option linter.unusedSimpArgs false
namespace Go.Q
open Go.Proofs
set_option maxRecDepth 100000
set_option maxHeartbeats 8000000
theorem invO_neg (a : Option Rat) : -invO (a.map (-·)) = invO a := by
  cases a with
  | none => show -((0 : Int) : Rat) = ((0 : Int) : Rat); rfl
  | some q =>
    show -(-q)⁻¹ = q⁻¹
    by_cases hq : q = 0
    · subst hq; simp
    · have h1 : q * q⁻¹ = 1 := Rat.mul_inv_cancel q hq
      have h2 : -q * -q⁻¹ = 1 := by grind
      have h3 := Rat.inv_eq_of_mul_eq_one h2
      rw [h3, Rat.neg_neg]
theorem inv_minus (x : NS) : x.minus.inv.minus = x.inv := by
  cases x with
  | e => rfl
  | i a b =>
    show NS.i (some (-invO (b.map (-·)))) (some (-invO (a.map (-·)))) = .i (some (invO b)) (some (invO a))
    rw [invO_neg, invO_neg]
theorem has_zero {x : NS} : x.has ((0 : Int) : Rat) = x.zero := by
  have z0 : ((0 : Int) : Rat) = 0 := rfl
  rw [z0]
  have k1 : ∀ q : Rat, (!decide ((0 : Rat) < q)) = decide (sgn3 q ≤ 0) := fun q => by unfold sgn3; by_cases h : (0 : Rat) < q <;> simp [h] <;> grind
  have k2 : ∀ q : Rat, (!decide (q < (0 : Rat))) = decide (0 ≤ sgn3 q) := fun q => by unfold sgn3; by_cases h : q < (0 : Rat) <;> simp [h] <;> grind
  cases x with
  | e => rfl
  | i a b =>
    cases a <;> cases b <;> simp [NS.has, NS.zero, NS.void, NS.slo, NS.shi, k1, k2] <;> rfl
theorem RefInv_pos {h0 h : PH} [Le h0 h] {v : Value} {a : Rat} {b : Option Rat} (hv : Rr h0 v (.i (some a) b)) (ha : 0 < a) (hf : (NS.i (some a) b).le (2 ^ 30)) : Spec mach 47 #[v] h (fun r h' => Rr h' r (NS.i (some a) b).inv) NP := by
  rw [NS.le_ends (by decide)] at hf
  obtain ⟨B1, A1, M1, C1, A2, M2, C2, B2, A3, M3, C3, A4, M4, C4, rfl, t1, t2⟩ := hv.sa
  have e1 : sgn3 a = 1 := by unfold sgn3; grind
  have kS := fun {h} [Le h0 h] => Sgn_spec (h := h) t1
  dsimp only [NS.void, NS.loN, NS.hiN, NS.lo0, NS.hi0, Option.isNone_some, Option.getD_some] at *
  rw [e1] at kS
  have hi1 : ∀ q : Rat, ((1 : Int) : Rat) / q = q⁻¹ := fun q => by have : ((1 : Int) : Rat) = 1 := rfl; rw [this, Rat.div_def, Rat.one_mul]
  have s1 : sz ((1 : Int) : Rat) ≤ 2 := by decide
  cases b with
  | none =>
    dsimp only [Option.isNone_none, Option.getD_none] at *
    refine Spec.enter (args := [_]) (n := 33) Tryz.func47 rfl (by kernel_rfl) rfl (by simp) [.cell 2 58] rfl (fun C _ => ?_)
    (repeat (first | ((first | refine rg rfl rfl (fun K hK => ?_) | refine rd [.o 1, .o 2, .o 0, .o 3, .o 4, .o 5] rfl (by decide +kernel) rfl (fun K hK => ?_)); (repeat (first | (refine wo rfl (fun k hk => ?_); simp (disch := omega) only [go_sem, Nat.reduceBEq, Nat.reduceAdd]; refine hk _ _ ?_; clear hk k) | refine wkt rfl ?_)); (try refine wk0 ?_); refine hK _ _ ?_; clear hK K; (try dsimp only [behind, qs, qb])) | ((first | refine AWP_exit ?_ | refine AWP_skip ?_); simp (disch := decide) only [qs, qb, if_true, if_false, reduceIte]) | refine AWP_sq rfl (fun K hK => ?_) | refine ct rfl ?_ | ((first | refine hK _ _ ?_ | (clear hK; refine hK _ _ ?_) | (clear hK; clear hK; refine hK _ _ ?_)); clear hK; (try clear K)))); ((first | refine rg rfl rfl (fun K hK => ?_) | refine rd [.o 1, .o 2, .o 0, .o 3, .o 4, .o 5] rfl (by decide +kernel) rfl (fun K hK => ?_)); (repeat (first | (refine wo rfl (fun k hk => ?_); simp (disch := omega) only [go_sem, Nat.reduceBEq, Nat.reduceAdd]; refine hk _ _ ?_; clear hk k) | refine wkt rfl ?_ | with_reducible refine wk0 ?_ | with_reducible refine wt_seg ?_ | with_reducible refine wt_alt ?_ wt_no | with_reducible refine wt_done ?_)))
    refine cN rfl rfl rfl rfl (by exact kS) ?_; rintro v1 h1 g1 rfl; (repeat (first | (refine wo rfl (fun k hk => ?_); simp (disch := omega) only [go_sem, Nat.reduceBEq, Nat.reduceAdd]; refine hk _ _ ?_; clear hk k) | refine wkt rfl ?_ | with_reducible refine wk0 ?_ | with_reducible refine wt_seg ?_ | with_reducible refine wt_alt ?_ wt_no | with_reducible refine wt_done ?_))
    ((try (simp (disch := omega) only [go_sem, Nat.reduceBEq, Nat.reduceAdd])); refine hK _ _ ?_; clear hK; (try clear K); (try dsimp only [behind, qs])); (repeat (first | ((first | refine rg rfl rfl (fun K hK => ?_) | refine rd [.o 1, .o 2, .o 0, .o 3, .o 4, .o 5] rfl (by decide +kernel) rfl (fun K hK => ?_)); (repeat (first | (refine wo rfl (fun k hk => ?_); simp (disch := omega) only [go_sem, Nat.reduceBEq, Nat.reduceAdd]; refine hk _ _ ?_; clear hk k) | refine wkt rfl ?_)); (try refine wk0 ?_); refine hK _ _ ?_; clear hK K; (try dsimp only [behind, qs, qb])) | ((first | refine AWP_exit ?_ | refine AWP_skip ?_); simp (disch := decide) only [qs, qb, if_true, if_false, reduceIte]) | refine AWP_sq rfl (fun K hK => ?_) | refine ct rfl ?_ | ((first | refine hK _ _ ?_ | (clear hK; refine hK _ _ ?_) | (clear hK; clear hK; refine hK _ _ ?_)); clear hK; (try clear K))))
    (first | refine AWP_t (.seg [.o 1, .o 2] (.alt 0 (.alt 3 (.seg [.o 4] (.alt 5 (.alt 6 .done .no) .no)) (.alt 5 (.alt 3 (.seg [.o 4] (.alt 6 .done .no)) .no) .no)) (.alt 5 (.alt 0 (.alt 3 (.seg [.o 4] (.alt 6 .done .no)) .no) .no) .no))) (by decide +kernel) rfl (fun K hK => ?_) | refine AWP_tk (.seg [.o 1, .o 2] (.alt 0 (.alt 3 (.seg [.o 4] (.alt 5 (.alt 6 .done .no) .no)) (.alt 5 (.alt 3 (.seg [.o 4] (.alt 6 .done .no)) .no) .no)) (.alt 5 (.alt 0 (.alt 3 (.seg [.o 4] (.alt 6 .done .no)) .no) .no) .no))) (by decide +kernel) rfl (fun K hK => ?_))
    have rest : ∀ (b3 : Bool) (xa : Option Addr) (xl xc : Nat) (ya : Option Addr) (yl yc : Nat) (h' : PH) (S : AS) [Le h0 h'], Qr h' (.agg #[.bool b3, .slice xa xl xc, .slice ya yl yc]) (((1 : Int) : Rat) / a) →
        S.le ⟨[(1, .p 0 0), (2, .p 1 0), (3, .p 2 0)], [[.bool B1, .slice A1 M1 C1, .slice A2 M2 C2, .bool B2, .slice A3 M3 C3, .slice A4 M4 C4, .bool false, .bool true, .bool false], [.bool false, .slice none 0 0, .slice none 0 0, .bool false, .slice none 0 0, .slice none 0 0, .bool false, .bool false, .bool false], [.bool false, .slice none 0 0, .slice none 0 0, .bool b3, .slice xa xl xc, .slice ya yl yc, .bool false, .bool false, .bool false]]⟩ → K S h' := by
      intro b3 xa xl xc ya yl yc h' S _ f3 hS
      refine hK _ _ (AWP_le _ hS ?_); clear hK K
      repeat (first | ((first | refine rg rfl rfl (fun K hK => ?_) | refine rd [.o 1, .o 2, .o 0, .o 3, .o 4, .o 5] rfl (by decide +kernel) rfl (fun K hK => ?_)); (repeat (first | (refine wo rfl (fun k hk => ?_); simp (disch := omega) only [go_sem, Nat.reduceBEq, Nat.reduceAdd]; refine hk _ _ ?_; clear hk k) | refine wkt rfl ?_)); (try refine wk0 ?_); refine hK _ _ ?_; clear hK K; (try dsimp only [behind, qs, qb])) | ((first | refine AWP_exit ?_ | refine AWP_skip ?_); simp (disch := decide) only [qs, qb, if_true, if_false, reduceIte]) | refine AWP_sq rfl (fun K hK => ?_) | refine ct rfl ?_ | ((first | refine hK _ _ ?_ | (clear hK; refine hK _ _ ?_) | (clear hK; clear hK; refine hK _ _ ?_)); clear hK; (try clear K)))
      rw [hi1] at f3
      refine AWP_ret ?_; simp (disch := omega) only [go_sem, Nat.reduceBEq, Nat.reduceAdd]
      exact ⟨_, _, _, _, _, _, rfl, Qr.none _, f3.to⟩
    clear hK
    (repeat (first | (refine wo rfl (fun k hk => ?_); simp (disch := omega) only [go_sem, Nat.reduceBEq, Nat.reduceAdd]; refine hk _ _ ?_; clear hk k) | refine wkt rfl ?_ | with_reducible refine wk0 ?_ | with_reducible refine wt_seg ?_ | with_reducible refine wt_alt ?_ wt_no | with_reducible refine wt_done ?_))
    refine wt_alt ?_ (wt_alt ?_ wt_no)
    · refine cN rfl rfl rfl rfl (by exact QInt_spec (n := 1) (by decide) (by decide)) ?_; rintro v2 h2 _ f2; obtain ⟨v2_0, v2_1, v2_2, v2_3, v2_4, v2_5, v2_6, rfl, f2⟩ := f2.sa; (repeat (first | (refine wo rfl (fun k hk => ?_); simp (disch := omega) only [go_sem, Nat.reduceBEq, Nat.reduceAdd]; refine hk _ _ ?_; clear hk k) | refine wkt rfl ?_ | with_reducible refine wk0 ?_ | with_reducible refine wt_seg ?_ | with_reducible refine wt_alt ?_ wt_no | with_reducible refine wt_done ?_))
      refine wt_alt ?_ (wt_alt ?_ wt_no)
      · refine cN rfl rfl rfl rfl (by exact QDiv_spec f2 (t1.to (h' := h2)) (by omega) (by omega)) ?_; rintro v3 h3 _ f3; obtain ⟨v3_0, v3_1, v3_2, v3_3, v3_4, v3_5, v3_6, rfl, f3⟩ := f3.sa; (repeat (first | (refine wo rfl (fun k hk => ?_); simp (disch := omega) only [go_sem, Nat.reduceBEq, Nat.reduceAdd]; refine hk _ _ ?_; clear hk k) | refine wkt rfl ?_ | with_reducible refine wk0 ?_ | with_reducible refine wt_seg ?_ | with_reducible refine wt_alt ?_ wt_no | with_reducible refine wt_done ?_))
        refine rest _ _ _ _ _ _ _ _ _ f3 ?_
        simp (disch := omega) only [go_sem, Nat.reduceBEq, Nat.reduceAdd, true_or]
      · (repeat (first | (refine wo rfl (fun k hk => ?_); simp (disch := omega) only [go_sem, Nat.reduceBEq, Nat.reduceAdd]; refine hk _ _ ?_; clear hk k) | refine wkt rfl ?_ | with_reducible refine wk0 ?_ | with_reducible refine wt_seg ?_ | with_reducible refine wt_alt ?_ wt_no | with_reducible refine wt_done ?_))
        refine cN rfl rfl rfl rfl (by exact QDiv_spec f2 (t1.to (h' := h2)) (by omega) (by omega)) ?_; rintro v3 h3 _ f3; obtain ⟨v3_0, v3_1, v3_2, v3_3, v3_4, v3_5, v3_6, rfl, f3⟩ := f3.sa; (repeat (first | (refine wo rfl (fun k hk => ?_); simp (disch := omega) only [go_sem, Nat.reduceBEq, Nat.reduceAdd]; refine hk _ _ ?_; clear hk k) | refine wkt rfl ?_ | with_reducible refine wk0 ?_ | with_reducible refine wt_seg ?_ | with_reducible refine wt_alt ?_ wt_no | with_reducible refine wt_done ?_))
        refine rest _ _ _ _ _ _ _ _ _ f3 ?_
        simp (disch := omega) only [go_sem, Nat.reduceBEq, Nat.reduceAdd, true_or]
    · (repeat (first | (refine wo rfl (fun k hk => ?_); simp (disch := omega) only [go_sem, Nat.reduceBEq, Nat.reduceAdd]; refine hk _ _ ?_; clear hk k) | refine wkt rfl ?_ | with_reducible refine wk0 ?_ | with_reducible refine wt_seg ?_ | with_reducible refine wt_alt ?_ wt_no | with_reducible refine wt_done ?_))
      refine cN rfl rfl rfl rfl (by exact QInt_spec (n := 1) (by decide) (by decide)) ?_; rintro v2 h2 _ f2; obtain ⟨v2_0, v2_1, v2_2, v2_3, v2_4, v2_5, v2_6, rfl, f2⟩ := f2.sa; (repeat (first | (refine wo rfl (fun k hk => ?_); simp (disch := omega) only [go_sem, Nat.reduceBEq, Nat.reduceAdd]; refine hk _ _ ?_; clear hk k) | refine wkt rfl ?_ | with_reducible refine wk0 ?_ | with_reducible refine wt_seg ?_ | with_reducible refine wt_alt ?_ wt_no | with_reducible refine wt_done ?_))
      refine cN rfl rfl rfl rfl (by exact QDiv_spec f2 (t1.to (h' := h2)) (by omega) (by omega)) ?_; rintro v3 h3 _ f3; obtain ⟨v3_0, v3_1, v3_2, v3_3, v3_4, v3_5, v3_6, rfl, f3⟩ := f3.sa; (repeat (first | (refine wo rfl (fun k hk => ?_); simp (disch := omega) only [go_sem, Nat.reduceBEq, Nat.reduceAdd]; refine hk _ _ ?_; clear hk k) | refine wkt rfl ?_ | with_reducible refine wk0 ?_ | with_reducible refine wt_seg ?_ | with_reducible refine wt_alt ?_ wt_no | with_reducible refine wt_done ?_))
      refine rest _ _ _ _ _ _ _ _ _ f3 ?_
      simp (disch := omega) only [go_sem, Nat.reduceBEq, Nat.reduceAdd, true_or]
  | some b =>
    dsimp only [Option.isNone_some, Option.getD_some] at *
    refine Spec.enter (args := [_]) (n := 33) Tryz.func47 rfl (by kernel_rfl) rfl (by simp) [.cell 2 58] rfl (fun C _ => ?_)
    (repeat (first | ((first | refine rg rfl rfl (fun K hK => ?_) | refine rd [.o 1, .o 2, .o 0, .o 3, .o 4, .o 5] rfl (by decide +kernel) rfl (fun K hK => ?_)); (repeat (first | (refine wo rfl (fun k hk => ?_); simp (disch := omega) only [go_sem, Nat.reduceBEq, Nat.reduceAdd]; refine hk _ _ ?_; clear hk k) | refine wkt rfl ?_)); (try refine wk0 ?_); refine hK _ _ ?_; clear hK K; (try dsimp only [behind, qs, qb])) | ((first | refine AWP_exit ?_ | refine AWP_skip ?_); simp (disch := decide) only [qs, qb, if_true, if_false, reduceIte]) | refine AWP_sq rfl (fun K hK => ?_) | refine ct rfl ?_ | ((first | refine hK _ _ ?_ | (clear hK; refine hK _ _ ?_) | (clear hK; clear hK; refine hK _ _ ?_)); clear hK; (try clear K)))); ((first | refine rg rfl rfl (fun K hK => ?_) | refine rd [.o 1, .o 2, .o 0, .o 3, .o 4, .o 5] rfl (by decide +kernel) rfl (fun K hK => ?_)); (repeat (first | (refine wo rfl (fun k hk => ?_); simp (disch := omega) only [go_sem, Nat.reduceBEq, Nat.reduceAdd]; refine hk _ _ ?_; clear hk k) | refine wkt rfl ?_ | with_reducible refine wk0 ?_ | with_reducible refine wt_seg ?_ | with_reducible refine wt_alt ?_ wt_no | with_reducible refine wt_done ?_)))
    refine cN rfl rfl rfl rfl (by exact kS) ?_; rintro v1 h1 g1 rfl; (repeat (first | (refine wo rfl (fun k hk => ?_); simp (disch := omega) only [go_sem, Nat.reduceBEq, Nat.reduceAdd]; refine hk _ _ ?_; clear hk k) | refine wkt rfl ?_ | with_reducible refine wk0 ?_ | with_reducible refine wt_seg ?_ | with_reducible refine wt_alt ?_ wt_no | with_reducible refine wt_done ?_))
    ((try (simp (disch := omega) only [go_sem, Nat.reduceBEq, Nat.reduceAdd])); refine hK _ _ ?_; clear hK; (try clear K); (try dsimp only [behind, qs])); (repeat (first | ((first | refine rg rfl rfl (fun K hK => ?_) | refine rd [.o 1, .o 2, .o 0, .o 3, .o 4, .o 5] rfl (by decide +kernel) rfl (fun K hK => ?_)); (repeat (first | (refine wo rfl (fun k hk => ?_); simp (disch := omega) only [go_sem, Nat.reduceBEq, Nat.reduceAdd]; refine hk _ _ ?_; clear hk k) | refine wkt rfl ?_)); (try refine wk0 ?_); refine hK _ _ ?_; clear hK K; (try dsimp only [behind, qs, qb])) | ((first | refine AWP_exit ?_ | refine AWP_skip ?_); simp (disch := decide) only [qs, qb, if_true, if_false, reduceIte]) | refine AWP_sq rfl (fun K hK => ?_) | refine ct rfl ?_ | ((first | refine hK _ _ ?_ | (clear hK; refine hK _ _ ?_) | (clear hK; clear hK; refine hK _ _ ?_)); clear hK; (try clear K))))
    (first | refine AWP_t (.seg [.o 1, .o 2] (.alt 0 (.alt 3 (.seg [.o 4] (.alt 5 (.alt 6 .done .no) .no)) (.alt 5 (.alt 3 (.seg [.o 4] (.alt 6 .done .no)) .no) .no)) (.alt 5 (.alt 0 (.alt 3 (.seg [.o 4] (.alt 6 .done .no)) .no) .no) .no))) (by decide +kernel) rfl (fun K hK => ?_) | refine AWP_tk (.seg [.o 1, .o 2] (.alt 0 (.alt 3 (.seg [.o 4] (.alt 5 (.alt 6 .done .no) .no)) (.alt 5 (.alt 3 (.seg [.o 4] (.alt 6 .done .no)) .no) .no)) (.alt 5 (.alt 0 (.alt 3 (.seg [.o 4] (.alt 6 .done .no)) .no) .no) .no))) (by decide +kernel) rfl (fun K hK => ?_))
    have rest : ∀ (b3 : Bool) (xa : Option Addr) (xl xc : Nat) (ya : Option Addr) (yl yc : Nat) (h' : PH) (S : AS) [Le h0 h'], Qr h' (.agg #[.bool b3, .slice xa xl xc, .slice ya yl yc]) (((1 : Int) : Rat) / a) →
        S.le ⟨[(1, .p 0 0), (2, .p 1 0), (3, .p 2 0)], [[.bool B1, .slice A1 M1 C1, .slice A2 M2 C2, .bool B2, .slice A3 M3 C3, .slice A4 M4 C4, .bool false, .bool false, .bool false], [.bool false, .slice none 0 0, .slice none 0 0, .bool false, .slice none 0 0, .slice none 0 0, .bool false, .bool false, .bool false], [.bool false, .slice none 0 0, .slice none 0 0, .bool b3, .slice xa xl xc, .slice ya yl yc, .bool false, .bool false, .bool false]]⟩ → K S h' := by
      intro b3 xa xl xc ya yl yc h' S _ f3 hS
      refine hK _ _ (AWP_le _ hS ?_); clear hK K
      (repeat (first | ((first | refine rg rfl rfl (fun K hK => ?_) | refine rd [.o 1, .o 2, .o 0, .o 3, .o 4, .o 5] rfl (by decide +kernel) rfl (fun K hK => ?_)); (repeat (first | (refine wo rfl (fun k hk => ?_); simp (disch := omega) only [go_sem, Nat.reduceBEq, Nat.reduceAdd]; refine hk _ _ ?_; clear hk k) | refine wkt rfl ?_)); (try refine wk0 ?_); refine hK _ _ ?_; clear hK K; (try dsimp only [behind, qs, qb])) | ((first | refine AWP_exit ?_ | refine AWP_skip ?_); simp (disch := decide) only [qs, qb, if_true, if_false, reduceIte]) | refine AWP_sq rfl (fun K hK => ?_) | refine ct rfl ?_ | ((first | refine hK _ _ ?_ | (clear hK; refine hK _ _ ?_) | (clear hK; clear hK; refine hK _ _ ?_)); clear hK; (try clear K)))); ((first | refine rg rfl rfl (fun K hK => ?_) | refine rd [.o 1, .o 2, .o 0, .o 3, .o 4, .o 5] rfl (by decide +kernel) rfl (fun K hK => ?_)); (repeat (first | (refine wo rfl (fun k hk => ?_); simp (disch := omega) only [go_sem, Nat.reduceBEq, Nat.reduceAdd]; refine hk _ _ ?_; clear hk k) | refine wkt rfl ?_ | with_reducible refine wk0 ?_ | with_reducible refine wt_seg ?_ | with_reducible refine wt_alt ?_ wt_no | with_reducible refine wt_done ?_)))
      refine cN rfl rfl rfl rfl (by exact QInt_spec (n := 1) (by decide) (by decide)) ?_; rintro v4 h4 _ f4; obtain ⟨v4_0, v4_1, v4_2, v4_3, v4_4, v4_5, v4_6, rfl, f4⟩ := f4.sa; (repeat (first | (refine wo rfl (fun k hk => ?_); simp (disch := omega) only [go_sem, Nat.reduceBEq, Nat.reduceAdd]; refine hk _ _ ?_; clear hk k) | refine wkt rfl ?_ | with_reducible refine wk0 ?_ | with_reducible refine wt_seg ?_ | with_reducible refine wt_alt ?_ wt_no | with_reducible refine wt_done ?_))
      refine cN rfl rfl rfl rfl (by exact QDiv_spec f4 (t2.to (h' := h4)) (by omega) (by omega)) ?_; rintro v5 h5 _ f5; obtain ⟨v5_0, v5_1, v5_2, v5_3, v5_4, v5_5, v5_6, rfl, f5⟩ := f5.sa; (repeat (first | (refine wo rfl (fun k hk => ?_); simp (disch := omega) only [go_sem, Nat.reduceBEq, Nat.reduceAdd]; refine hk _ _ ?_; clear hk k) | refine wkt rfl ?_ | with_reducible refine wk0 ?_ | with_reducible refine wt_seg ?_ | with_reducible refine wt_alt ?_ wt_no | with_reducible refine wt_done ?_))
      ((try (simp (disch := omega) only [go_sem, Nat.reduceBEq, Nat.reduceAdd])); refine hK _ _ ?_; clear hK; (try clear K); (try dsimp only [behind, qs])); (repeat (first | ((first | refine rg rfl rfl (fun K hK => ?_) | refine rd [.o 1, .o 2, .o 0, .o 3, .o 4, .o 5] rfl (by decide +kernel) rfl (fun K hK => ?_)); (repeat (first | (refine wo rfl (fun k hk => ?_); simp (disch := omega) only [go_sem, Nat.reduceBEq, Nat.reduceAdd]; refine hk _ _ ?_; clear hk k) | refine wkt rfl ?_)); (try refine wk0 ?_); refine hK _ _ ?_; clear hK K; (try dsimp only [behind, qs, qb])) | ((first | refine AWP_exit ?_ | refine AWP_skip ?_); simp (disch := decide) only [qs, qb, if_true, if_false, reduceIte]) | refine AWP_sq rfl (fun K hK => ?_) | refine ct rfl ?_ | ((first | refine hK _ _ ?_ | (clear hK; refine hK _ _ ?_) | (clear hK; clear hK; refine hK _ _ ?_)); clear hK; (try clear K))))
      rw [hi1] at f3 f5
      refine AWP_ret ?_; simp (disch := omega) only [go_sem, Nat.reduceBEq, Nat.reduceAdd]
      exact ⟨_, _, _, _, _, _, rfl, f5.to, f3.to⟩
    clear hK
    (repeat (first | (refine wo rfl (fun k hk => ?_); simp (disch := omega) only [go_sem, Nat.reduceBEq, Nat.reduceAdd]; refine hk _ _ ?_; clear hk k) | refine wkt rfl ?_ | with_reducible refine wk0 ?_ | with_reducible refine wt_seg ?_ | with_reducible refine wt_alt ?_ wt_no | with_reducible refine wt_done ?_))
    refine wt_alt ?_ (wt_alt ?_ wt_no)
    · refine cN rfl rfl rfl rfl (by exact QInt_spec (n := 1) (by decide) (by decide)) ?_; rintro v2 h2 _ f2; obtain ⟨v2_0, v2_1, v2_2, v2_3, v2_4, v2_5, v2_6, rfl, f2⟩ := f2.sa; (repeat (first | (refine wo rfl (fun k hk => ?_); simp (disch := omega) only [go_sem, Nat.reduceBEq, Nat.reduceAdd]; refine hk _ _ ?_; clear hk k) | refine wkt rfl ?_ | with_reducible refine wk0 ?_ | with_reducible refine wt_seg ?_ | with_reducible refine wt_alt ?_ wt_no | with_reducible refine wt_done ?_))
      refine wt_alt ?_ (wt_alt ?_ wt_no)
      · refine cN rfl rfl rfl rfl (by exact QDiv_spec f2 (t1.to (h' := h2)) (by omega) (by omega)) ?_; rintro v3 h3 _ f3; obtain ⟨v3_0, v3_1, v3_2, v3_3, v3_4, v3_5, v3_6, rfl, f3⟩ := f3.sa; (repeat (first | (refine wo rfl (fun k hk => ?_); simp (disch := omega) only [go_sem, Nat.reduceBEq, Nat.reduceAdd]; refine hk _ _ ?_; clear hk k) | refine wkt rfl ?_ | with_reducible refine wk0 ?_ | with_reducible refine wt_seg ?_ | with_reducible refine wt_alt ?_ wt_no | with_reducible refine wt_done ?_))
        refine rest _ _ _ _ _ _ _ _ _ f3 ?_
        simp (disch := omega) only [go_sem, Nat.reduceBEq, Nat.reduceAdd, true_or]
      · (repeat (first | (refine wo rfl (fun k hk => ?_); simp (disch := omega) only [go_sem, Nat.reduceBEq, Nat.reduceAdd]; refine hk _ _ ?_; clear hk k) | refine wkt rfl ?_ | with_reducible refine wk0 ?_ | with_reducible refine wt_seg ?_ | with_reducible refine wt_alt ?_ wt_no | with_reducible refine wt_done ?_))
        refine cN rfl rfl rfl rfl (by exact QDiv_spec f2 (t1.to (h' := h2)) (by omega) (by omega)) ?_; rintro v3 h3 _ f3; obtain ⟨v3_0, v3_1, v3_2, v3_3, v3_4, v3_5, v3_6, rfl, f3⟩ := f3.sa; (repeat (first | (refine wo rfl (fun k hk => ?_); simp (disch := omega) only [go_sem, Nat.reduceBEq, Nat.reduceAdd]; refine hk _ _ ?_; clear hk k) | refine wkt rfl ?_ | with_reducible refine wk0 ?_ | with_reducible refine wt_seg ?_ | with_reducible refine wt_alt ?_ wt_no | with_reducible refine wt_done ?_))
        refine rest _ _ _ _ _ _ _ _ _ f3 ?_
        simp (disch := omega) only [go_sem, Nat.reduceBEq, Nat.reduceAdd, true_or]
    · (repeat (first | (refine wo rfl (fun k hk => ?_); simp (disch := omega) only [go_sem, Nat.reduceBEq, Nat.reduceAdd]; refine hk _ _ ?_; clear hk k) | refine wkt rfl ?_ | with_reducible refine wk0 ?_ | with_reducible refine wt_seg ?_ | with_reducible refine wt_alt ?_ wt_no | with_reducible refine wt_done ?_))
      refine cN rfl rfl rfl rfl (by exact QInt_spec (n := 1) (by decide) (by decide)) ?_; rintro v2 h2 _ f2; obtain ⟨v2_0, v2_1, v2_2, v2_3, v2_4, v2_5, v2_6, rfl, f2⟩ := f2.sa; (repeat (first | (refine wo rfl (fun k hk => ?_); simp (disch := omega) only [go_sem, Nat.reduceBEq, Nat.reduceAdd]; refine hk _ _ ?_; clear hk k) | refine wkt rfl ?_ | with_reducible refine wk0 ?_ | with_reducible refine wt_seg ?_ | with_reducible refine wt_alt ?_ wt_no | with_reducible refine wt_done ?_))
      refine cN rfl rfl rfl rfl (by exact QDiv_spec f2 (t1.to (h' := h2)) (by omega) (by omega)) ?_; rintro v3 h3 _ f3; obtain ⟨v3_0, v3_1, v3_2, v3_3, v3_4, v3_5, v3_6, rfl, f3⟩ := f3.sa; (repeat (first | (refine wo rfl (fun k hk => ?_); simp (disch := omega) only [go_sem, Nat.reduceBEq, Nat.reduceAdd]; refine hk _ _ ?_; clear hk k) | refine wkt rfl ?_ | with_reducible refine wk0 ?_ | with_reducible refine wt_seg ?_ | with_reducible refine wt_alt ?_ wt_no | with_reducible refine wt_done ?_))
      refine rest _ _ _ _ _ _ _ _ _ f3 ?_
      simp (disch := omega) only [go_sem, Nat.reduceBEq, Nat.reduceAdd, true_or]
theorem zero_not {a b : Option Rat} (h : (NS.i a b).zero = false) (ho : (NS.i a b).ok) : (∃ p, a = some p ∧ 0 < p) ∨ ((a = none ∨ ∃ p, a = some p ∧ p < 0) ∧ ∃ q, b = some q ∧ q < 0) := by
  have h1 : ¬ ((NS.i a b).slo ≤ 0 ∧ 0 ≤ (NS.i a b).shi) := by
    intro k
    simp [NS.zero, NS.void, k.1, k.2] at h
  have sg : ∀ {q : Rat}, ¬ sgn3 q ≤ 0 → 0 < q := fun {q} k => by unfold sgn3 at k; grind
  have sg' : ∀ {q : Rat}, ¬ 0 ≤ sgn3 q → q < 0 := fun {q} k => by unfold sgn3 at k; grind
  have key : ∀ q, b = some q → ¬ 0 ≤ (NS.i a b).shi → q < 0 := fun q e k => by subst e; exact sg' k
  cases a with
  | none =>
    right
    have h2 : ¬ 0 ≤ (NS.i none b).shi := fun k => h1 ⟨by show (-1 : Int) ≤ 0; decide, k⟩
    cases b with
    | none => exact (h2 (by show (0 : Int) ≤ 1; decide)).elim
    | some q => exact ⟨.inl rfl, q, rfl, sg' h2⟩
  | some p =>
    by_cases hp : 0 < p
    · exact .inl ⟨p, rfl, hp⟩
    · right
      have h3 : sgn3 p ≤ 0 := by unfold sgn3; grind
      have h2 : ¬ 0 ≤ (NS.i (some p) b).shi := fun k => h1 ⟨h3, k⟩
      cases b with
      | none => exact (h2 (by show (0 : Int) ≤ 1; decide)).elim
      | some q =>
        have h4 : ¬ q < p := by simpa [NS.ok, ordO] using ho
        have := sg' h2
        exact ⟨.inr ⟨p, rfl, by grind⟩, q, rfl, this⟩
theorem RefInverse {h0 h : PH} [Le h0 h] {v : Value} {a b : Option Rat} (hv : Rr h0 v (.i a b)) (hz : (NS.i a b).zero = false) (ho : (NS.i a b).ok) (hf : (NS.i a b).le (2 ^ 30)) : Spec mach 47 #[v] h (fun r h' => Rr h' r (NS.i a b).inv) NP := by
  rcases zero_not hz ho with ⟨p, rfl, hp⟩ | ⟨hl, q, rfl, hq⟩
  · exact RefInv_pos hv hp hf
  · have hv0 := hv
    have kM := fun {h} [Le h0 h] => RefMinus (h := h) hv
    have hf' := hf.minus
    have e0 := inv_minus (.i a (some q))
    have e2 : (NS.i a (some q)).minus = .i (some (-q)) (a.map (-·)) := rfl
    rw [e2] at kM hf' e0
    rw [NS.le_ends (by decide)] at hf
    obtain ⟨_, _, _, _, _, _, _, _, _, _, _, _, _, _, rfl, t1, t2⟩ := hv.sa
    have kS := fun {h} [Le h0 h] => Sgn_spec (h := h) t1
    dsimp only [NS.void, NS.loN, NS.hiN, NS.lo0, NS.hi0] at *
    rcases hl with rfl | ⟨p, rfl, hp⟩
    · dsimp only [Option.isNone_none, Option.getD_none] at *
      refine Spec.enter (args := [_]) (n := 33) Tryz.func47 rfl (by kernel_rfl) rfl (by simp) [.cell 2 58] rfl (fun C _ => ?_)
      (repeat (first | ((first | refine rg rfl rfl (fun K hK => ?_) | refine rd [.o 1, .o 2, .o 0, .o 3, .o 4, .o 5] rfl (by decide +kernel) rfl (fun K hK => ?_)); (repeat (first | (refine wo rfl (fun k hk => ?_); simp (disch := omega) only [go_sem, Nat.reduceBEq, Nat.reduceAdd]; refine hk _ _ ?_; clear hk k) | refine wkt rfl ?_)); (try refine wk0 ?_); refine hK _ _ ?_; clear hK K; (try dsimp only [behind, qs, qb])) | ((first | refine AWP_exit ?_ | refine AWP_skip ?_); simp (disch := decide) only [qs, qb, if_true, if_false, reduceIte]) | refine AWP_sq rfl (fun K hK => ?_) | refine ct rfl ?_ | ((first | refine hK _ _ ?_ | (clear hK; refine hK _ _ ?_) | (clear hK; clear hK; refine hK _ _ ?_)); clear hK; (try clear K)))); ((first | refine rg rfl rfl (fun K hK => ?_) | refine rd [.o 1, .o 2, .o 0, .o 3, .o 4, .o 5] rfl (by decide +kernel) rfl (fun K hK => ?_)); (repeat (first | (refine wo rfl (fun k hk => ?_); simp (disch := omega) only [go_sem, Nat.reduceBEq, Nat.reduceAdd]; refine hk _ _ ?_; clear hk k) | refine wkt rfl ?_ | with_reducible refine wk0 ?_ | with_reducible refine wt_seg ?_ | with_reducible refine wt_alt ?_ wt_no | with_reducible refine wt_done ?_)))
      refine cN rfl rfl rfl rfl (by exact kM) ?_; rintro v1 h1 st_h1 f1; obtain ⟨v1_0, v1_1, v1_2, v1_3, v1_4, v1_5, v1_6, v1_7, v1_8, v1_9, v1_10, v1_11, v1_12, v1_13, rfl, f1⟩ := f1.sa; (repeat (first | (refine wo rfl (fun k hk => ?_); simp (disch := omega) only [go_sem, Nat.reduceBEq, Nat.reduceAdd]; refine hk _ _ ?_; clear hk k) | refine wkt rfl ?_ | with_reducible refine wk0 ?_ | with_reducible refine wt_seg ?_ | with_reducible refine wt_alt ?_ wt_no | with_reducible refine wt_done ?_))
      refine cN rfl rfl rfl rfl (by exact RefInv_pos f1 (by grind) hf') ?_; rintro v2 h2 st_h2 f2; obtain ⟨v2_0, v2_1, v2_2, v2_3, v2_4, v2_5, v2_6, v2_7, v2_8, v2_9, v2_10, v2_11, v2_12, v2_13, rfl, f2⟩ := f2.sa; (repeat (first | (refine wo rfl (fun k hk => ?_); simp (disch := omega) only [go_sem, Nat.reduceBEq, Nat.reduceAdd]; refine hk _ _ ?_; clear hk k) | refine wkt rfl ?_ | with_reducible refine wk0 ?_ | with_reducible refine wt_seg ?_ | with_reducible refine wt_alt ?_ wt_no | with_reducible refine wt_done ?_))
      refine cN rfl rfl rfl rfl (by exact RefMinus f2) ?_; rintro v3 h3 st_h3 f3; obtain ⟨v3_0, v3_1, v3_2, v3_3, v3_4, v3_5, v3_6, v3_7, v3_8, v3_9, v3_10, v3_11, v3_12, v3_13, rfl, f3⟩ := f3.sa; (repeat (first | (refine wo rfl (fun k hk => ?_); simp (disch := omega) only [go_sem, Nat.reduceBEq, Nat.reduceAdd]; refine hk _ _ ?_; clear hk k) | refine wkt rfl ?_ | with_reducible refine wk0 ?_ | with_reducible refine wt_seg ?_ | with_reducible refine wt_alt ?_ wt_no | with_reducible refine wt_done ?_))
      ((try (simp (disch := omega) only [go_sem, Nat.reduceBEq, Nat.reduceAdd])); refine hK _ _ ?_; clear hK; (try clear K); (try dsimp only [behind, qs])); (repeat (first | ((first | refine rg rfl rfl (fun K hK => ?_) | refine rd [.o 1, .o 2, .o 0, .o 3, .o 4, .o 5] rfl (by decide +kernel) rfl (fun K hK => ?_)); (repeat (first | (refine wo rfl (fun k hk => ?_); simp (disch := omega) only [go_sem, Nat.reduceBEq, Nat.reduceAdd]; refine hk _ _ ?_; clear hk k) | refine wkt rfl ?_)); (try refine wk0 ?_); refine hK _ _ ?_; clear hK K; (try dsimp only [behind, qs, qb])) | ((first | refine AWP_exit ?_ | refine AWP_skip ?_); simp (disch := decide) only [qs, qb, if_true, if_false, reduceIte]) | refine AWP_sq rfl (fun K hK => ?_) | refine ct rfl ?_ | ((first | refine hK _ _ ?_ | (clear hK; refine hK _ _ ?_) | (clear hK; clear hK; refine hK _ _ ?_)); clear hK; (try clear K))))
      refine AWP_ret ?_; simp (disch := omega) only [go_sem, Nat.reduceBEq, Nat.reduceAdd]
      rw [e0] at f3
      exact f3
    · have e1 : sgn3 p = -1 := by unfold sgn3; grind
      dsimp only [Option.isNone_some, Option.getD_some] at *
      rw [e1] at kS
      refine Spec.enter (args := [_]) (n := 33) Tryz.func47 rfl (by kernel_rfl) rfl (by simp) [.cell 2 58] rfl (fun C _ => ?_)
      (repeat (first | ((first | refine rg rfl rfl (fun K hK => ?_) | refine rd [.o 1, .o 2, .o 0, .o 3, .o 4, .o 5] rfl (by decide +kernel) rfl (fun K hK => ?_)); (repeat (first | (refine wo rfl (fun k hk => ?_); simp (disch := omega) only [go_sem, Nat.reduceBEq, Nat.reduceAdd]; refine hk _ _ ?_; clear hk k) | refine wkt rfl ?_)); (try refine wk0 ?_); refine hK _ _ ?_; clear hK K; (try dsimp only [behind, qs, qb])) | ((first | refine AWP_exit ?_ | refine AWP_skip ?_); simp (disch := decide) only [qs, qb, if_true, if_false, reduceIte]) | refine AWP_sq rfl (fun K hK => ?_) | refine ct rfl ?_ | ((first | refine hK _ _ ?_ | (clear hK; refine hK _ _ ?_) | (clear hK; clear hK; refine hK _ _ ?_)); clear hK; (try clear K)))); ((first | refine rg rfl rfl (fun K hK => ?_) | refine rd [.o 1, .o 2, .o 0, .o 3, .o 4, .o 5] rfl (by decide +kernel) rfl (fun K hK => ?_)); (repeat (first | (refine wo rfl (fun k hk => ?_); simp (disch := omega) only [go_sem, Nat.reduceBEq, Nat.reduceAdd]; refine hk _ _ ?_; clear hk k) | refine wkt rfl ?_ | with_reducible refine wk0 ?_ | with_reducible refine wt_seg ?_ | with_reducible refine wt_alt ?_ wt_no | with_reducible refine wt_done ?_)))
      refine cN rfl rfl rfl rfl (by exact kS) ?_; rintro v9 h9 g9 rfl; (repeat (first | (refine wo rfl (fun k hk => ?_); simp (disch := omega) only [go_sem, Nat.reduceBEq, Nat.reduceAdd]; refine hk _ _ ?_; clear hk k) | refine wkt rfl ?_ | with_reducible refine wk0 ?_ | with_reducible refine wt_seg ?_ | with_reducible refine wt_alt ?_ wt_no | with_reducible refine wt_done ?_))
      ((try (simp (disch := omega) only [go_sem, Nat.reduceBEq, Nat.reduceAdd])); refine hK _ _ ?_; clear hK; (try clear K); (try dsimp only [behind, qs])); (repeat (first | ((first | refine rg rfl rfl (fun K hK => ?_) | refine rd [.o 1, .o 2, .o 0, .o 3, .o 4, .o 5] rfl (by decide +kernel) rfl (fun K hK => ?_)); (repeat (first | (refine wo rfl (fun k hk => ?_); simp (disch := omega) only [go_sem, Nat.reduceBEq, Nat.reduceAdd]; refine hk _ _ ?_; clear hk k) | refine wkt rfl ?_)); (try refine wk0 ?_); refine hK _ _ ?_; clear hK K; (try dsimp only [behind, qs, qb])) | ((first | refine AWP_exit ?_ | refine AWP_skip ?_); simp (disch := decide) only [qs, qb, if_true, if_false, reduceIte]) | refine AWP_sq rfl (fun K hK => ?_) | refine ct rfl ?_ | ((first | refine hK _ _ ?_ | (clear hK; refine hK _ _ ?_) | (clear hK; clear hK; refine hK _ _ ?_)); clear hK; (try clear K)))); ((first | refine rg rfl rfl (fun K hK => ?_) | refine rd [.o 1, .o 2, .o 0, .o 3, .o 4, .o 5] rfl (by decide +kernel) rfl (fun K hK => ?_)); (repeat (first | (refine wo rfl (fun k hk => ?_); simp (disch := omega) only [go_sem, Nat.reduceBEq, Nat.reduceAdd]; refine hk _ _ ?_; clear hk k) | refine wkt rfl ?_ | with_reducible refine wk0 ?_ | with_reducible refine wt_seg ?_ | with_reducible refine wt_alt ?_ wt_no | with_reducible refine wt_done ?_)))
      refine cN rfl rfl rfl rfl (by exact kM) ?_; rintro v1 h1 st_h1 f1; obtain ⟨v1_0, v1_1, v1_2, v1_3, v1_4, v1_5, v1_6, v1_7, v1_8, v1_9, v1_10, v1_11, v1_12, v1_13, rfl, f1⟩ := f1.sa; (repeat (first | (refine wo rfl (fun k hk => ?_); simp (disch := omega) only [go_sem, Nat.reduceBEq, Nat.reduceAdd]; refine hk _ _ ?_; clear hk k) | refine wkt rfl ?_ | with_reducible refine wk0 ?_ | with_reducible refine wt_seg ?_ | with_reducible refine wt_alt ?_ wt_no | with_reducible refine wt_done ?_))
      refine cN rfl rfl rfl rfl (by exact RefInv_pos f1 (by grind) hf') ?_; rintro v2 h2 st_h2 f2; obtain ⟨v2_0, v2_1, v2_2, v2_3, v2_4, v2_5, v2_6, v2_7, v2_8, v2_9, v2_10, v2_11, v2_12, v2_13, rfl, f2⟩ := f2.sa; (repeat (first | (refine wo rfl (fun k hk => ?_); simp (disch := omega) only [go_sem, Nat.reduceBEq, Nat.reduceAdd]; refine hk _ _ ?_; clear hk k) | refine wkt rfl ?_ | with_reducible refine wk0 ?_ | with_reducible refine wt_seg ?_ | with_reducible refine wt_alt ?_ wt_no | with_reducible refine wt_done ?_))
      refine cN rfl rfl rfl rfl (by exact RefMinus f2) ?_; rintro v3 h3 st_h3 f3; obtain ⟨v3_0, v3_1, v3_2, v3_3, v3_4, v3_5, v3_6, v3_7, v3_8, v3_9, v3_10, v3_11, v3_12, v3_13, rfl, f3⟩ := f3.sa; (repeat (first | (refine wo rfl (fun k hk => ?_); simp (disch := omega) only [go_sem, Nat.reduceBEq, Nat.reduceAdd]; refine hk _ _ ?_; clear hk k) | refine wkt rfl ?_ | with_reducible refine wk0 ?_ | with_reducible refine wt_seg ?_ | with_reducible refine wt_alt ?_ wt_no | with_reducible refine wt_done ?_))
      ((try (simp (disch := omega) only [go_sem, Nat.reduceBEq, Nat.reduceAdd])); refine hK _ _ ?_; clear hK; (try clear K); (try dsimp only [behind, qs])); (repeat (first | ((first | refine rg rfl rfl (fun K hK => ?_) | refine rd [.o 1, .o 2, .o 0, .o 3, .o 4, .o 5] rfl (by decide +kernel) rfl (fun K hK => ?_)); (repeat (first | (refine wo rfl (fun k hk => ?_); simp (disch := omega) only [go_sem, Nat.reduceBEq, Nat.reduceAdd]; refine hk _ _ ?_; clear hk k) | refine wkt rfl ?_)); (try refine wk0 ?_); refine hK _ _ ?_; clear hK K; (try dsimp only [behind, qs, qb])) | ((first | refine AWP_exit ?_ | refine AWP_skip ?_); simp (disch := decide) only [qs, qb, if_true, if_false, reduceIte]) | refine AWP_sq rfl (fun K hK => ?_) | refine ct rfl ?_ | ((first | refine hK _ _ ?_ | (clear hK; refine hK _ _ ?_) | (clear hK; clear hK; refine hK _ _ ?_)); clear hK; (try clear K))))
      refine AWP_ret ?_; simp (disch := omega) only [go_sem, Nat.reduceBEq, Nat.reduceAdd]
      rw [e0] at f3
      exact f3
end Go.Q
