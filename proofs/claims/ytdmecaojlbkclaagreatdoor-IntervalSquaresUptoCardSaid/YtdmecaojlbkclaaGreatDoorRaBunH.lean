/-
  Contracts of package word: grids, integers, reading and giving of numbers. Conditions: the values are rational numbers (Fr), of at most 2^36 binary digits.
  Contracts of package word: integers, copies, reading and giving of numbers. Conditions: the slices hold words (Arr, N32).
  Contract of package word: reading of numbers. Conditions: the slices hold words (Rw), of at most 2^39 binary digits.
-/
import Derived.Test.YtdmecaojlbkclaaGreatDoorRaBunG
set_option linter.unusedVariables false
set_option linter.unusedSimpArgs false
namespace Go.Q
open Go.Proofs
set_option maxRecDepth 100000
theorem neg_ediv (a : Nat) {d : Nat} (hd : d ≠ 0) : -(a : Int) / d = -((a / d + (if a % d = 0 then 0 else 1) : Nat) : Int) := by
  have h1 := Nat.div_add_mod a d
  have h2 := Nat.mod_lt a (Nat.pos_of_ne_zero hd)
  generalize a / d = q at *
  generalize a % d = r at *
  subst h1
  have hp : (0 : Int) < d := by omega
  by_cases hr : r = 0
  · subst hr
    rw [if_pos rfl]
    have : -((d * q + 0 : Nat) : Int) = (d : Int) * -(q : Int) := by push_cast; rw [Int.mul_neg]; omega
    rw [this, Int.mul_ediv_cancel_left _ (by omega)]; simp
  · rw [if_neg hr]
    refine ((Int.ediv_emod_unique (r := (d : Int) - r) hp).2 ⟨?_, by omega, by omega⟩).1
    push_cast
    rw [Int.mul_neg, Int.mul_add]; omega
theorem grid_val (x : Rat) (p : Nat) (u : Bool) : sgn (decide (x.num < 0)) (x.num.natAbs * 2 ^ p / x.den + (if (u != decide (x.num < 0)) = true ∧ x.num.natAbs * 2 ^ p % x.den ≠ 0 then 1 else 0)) (2 ^ p) = if u then gup x p else gdown x p := by
  have hd := x.den_nz
  unfold sgn gup gdown
  rw [scaled, floor_mkRat _ hd, ceil_mkRat _ hd, ← mkRat_two, ← mkRat_two]
  generalize x.num = a at *
  generalize x.den = d at *
  have e2 : ((2 : Int) ^ p) = ((2 ^ p : Nat) : Int) := by push_cast; rfl
  by_cases hneg : a < 0
  · obtain ⟨m, rfl⟩ : ∃ m : Nat, a = -(m : Int) := ⟨a.natAbs, by omega⟩
    have e3 : -(m : Int) * 2 ^ p = -((m * 2 ^ p : Nat) : Int) := by rw [e2, Int.neg_mul]; push_cast; rfl
    have h1 := neg_ediv (m * 2 ^ p) hd
    rw [decide_eq_true hneg, e3, Int.neg_neg]
    simp only [Int.natAbs_neg, Int.natAbs_natCast, if_true]
    cases u with
    | true => simp
    | false =>
      simp only [Bool.false_eq_true, if_false]
      rw [h1]
      by_cases hr : m * 2 ^ p % d = 0 <;> simp [hr]
  · obtain ⟨m, rfl⟩ : ∃ m : Nat, a = (m : Int) := ⟨a.natAbs, by omega⟩
    have e3 : (m : Int) * 2 ^ p = ((m * 2 ^ p : Nat) : Int) := by rw [e2]; push_cast; rfl
    have h1 := neg_ediv (m * 2 ^ p) hd
    rw [decide_eq_false hneg, e3]
    simp only [Int.natAbs_natCast, Bool.false_eq_true, if_false]
    cases u with
    | true =>
      simp only [if_true]
      rw [h1, Int.neg_neg]
      by_cases hr : m * 2 ^ p % d = 0 <;> simp [hr]
    | false => simp
theorem Grid_spec {h0 h : PH} [Le h0 h] {v : Value} {x : Rat} {p : Nat} {u : Bool} (hx : Fr h0 v x) (bx : sz x ≤ 2 ^ 36) (hp : p ≤ 2 ^ 36) :
    Spec mach 95 #[v, .int .i64 p, .bool u] h (fun v h' => Fr h' v (if u then gup x p else gdown x p)) NP := by
  obtain ⟨na, nl, nc, da, dl, dc, rfl, hn, hd⟩ := hx.sl
  have b1 := sz_num x; have b2 := sz_den x
  have b3 := bl_shl x.num.natAbs p
  have b4 := bl_div_le (x.num.natAbs * 2 ^ p) x.den
  have b5 := bl_add (x.num.natAbs * 2 ^ p / x.den) 1
  have b6 := bl_pow2 p
  have b7 := bl_one
  have hgv := grid_val x p u
  obtain ⟨neg, en⟩ : ∃ b, decide (x.num < 0) = b := ⟨_, rfl⟩
  rw [en] at hgv ⊢
  refine Spec.enter (args := [_, _, _]) (n := 38) Tryz.func95 rfl (by kernel_rfl) rfl (by simp) [.cell 6 41] rfl (fun C _ => ?_)
  repeat (first | (refine wo rfl (fun k hk => ?_); simp (disch := omega) only [go_sem, Nat.reduceBEq, Nat.reduceAdd]; refine hk _ _ ?_; clear hk k) | refine wkt rfl ?_ | refine wk0 ?_ | refine rg rfl rfl (fun K hK => ?_) | refine rd [.o 0, .o 1, .o 2, .o 4, .o 5, .o 3, .o 6, .o 7, .o 8, .o 9, .o 10, .o 11] rfl (by decide +kernel) rfl (fun K hK => ?_) | refine rd [.o 0, .o 1, .o 2, .o 4, .o 3, .o 5, .o 6, .o 7] rfl (by decide +kernel) rfl (fun K hK => ?_) | ((first | refine AWP_exit ?_ | refine AWP_skip ?_); simp (disch := decide) only [qs, qb, if_true, if_false, reduceIte]) | refine AWP_sq rfl (fun K hK => ?_) | refine ct rfl ?_ | ((try simp (disch := omega) only [go_sem, Nat.reduceBEq, Nat.reduceAdd]); (first | apply hK | (clear hK; apply hK) | (clear hK; clear hK; apply hK)); clear hK; (try clear K); (try dsimp only [behind, qs, qb])))
  refine cN rfl rfl rfl rfl (by exact Shl_spec (n := p) hn (by omega)) ?_; rintro v1 h1 _ hv1; obtain ⟨v1, v1_l, v1_c, rfl, hv1⟩ := hv1.sl; (repeat (first | (refine wo rfl (fun k hk => ?_); simp (disch := omega) only [go_sem, Nat.reduceBEq, Nat.reduceAdd]; refine hk _ _ ?_; clear hk k) | refine wkt rfl ?_)); (try refine wk0 ?_)
  refine cN rfl rfl rfl rfl (by exact Div_spec hv1 (hd.to (h' := h1)) x.den_nz (by omega) (by omega)) ?_; rintro v2 h2 s2 ⟨q, r, rfl, hq, hr⟩; (repeat (first | (refine wo rfl (fun k hk => ?_); simp (disch := omega) only [go_sem, Nat.reduceBEq, Nat.reduceAdd]; refine hk _ _ ?_; clear hk k) | refine wkt rfl ?_)); (try refine wk0 ?_)
  obtain ⟨qa, ql, qc, rfl, hq⟩ := hq.sl
  obtain ⟨ra, rl, rc, rfl, hr⟩ := hr.sl
  (try (simp (disch := omega) only [go_sem, Nat.reduceBEq, Nat.reduceAdd])); refine hK _ _ ?_; clear hK; (try clear K); (try dsimp only [behind, qs])
  refine AWP_sqs (fun K hK => ?_)
  have rest : ∀ (v : Value) (q' : Nat) (S : AS) (h : PH), Le h0 h → N32 h v q' → bl q' ≤ 2 ^ 38 → sgn neg q' (2 ^ p) = (if u then gup x p else gdown x p) → S.le ⟨[(1, .v (.int .i64 p)), (3, .p 0 0), (6, .p 1 0), (7, .v v)], [[.bool neg, .slice na nl nc, .slice da dl dc], [.bool false, .slice none 0 0, .slice none 0 0]]⟩ → K S h := by
    intro v q' S h _ hv bq hs hS
    refine hK _ _ (AWP_le _ hS ?_); clear hK K
    obtain ⟨va, vl, vc, rfl, hv⟩ := hv.sl
    repeat (first | (refine wo rfl (fun k hk => ?_); simp (disch := omega) only [go_sem, Nat.reduceBEq, Nat.reduceAdd]; refine hk _ _ ?_; clear hk k) | refine wkt rfl ?_ | refine wk0 ?_ | refine rg rfl rfl (fun K hK => ?_) | refine rd [.o 0, .o 1, .o 2, .o 4, .o 5, .o 3, .o 6, .o 7, .o 8, .o 9, .o 10, .o 11] rfl (by decide +kernel) rfl (fun K hK => ?_) | refine rd [.o 0, .o 1, .o 2, .o 4, .o 3, .o 5, .o 6, .o 7] rfl (by decide +kernel) rfl (fun K hK => ?_) | ((first | refine AWP_exit ?_ | refine AWP_skip ?_); simp (disch := decide) only [qs, qb, if_true, if_false, reduceIte]) | refine AWP_sq rfl (fun K hK => ?_) | refine ct rfl ?_ | ((try simp (disch := omega) only [go_sem, Nat.reduceBEq, Nat.reduceAdd]); (first | apply hK | (clear hK; apply hK) | (clear hK; clear hK; apply hK)); clear hK; (try clear K); (try dsimp only [behind, qs, qb])))
    refine cN rfl rfl rfl rfl (by exact Small_spec (n := 1) (by decide)) ?_; rintro w1 h3 _ hw1; obtain ⟨w1, w1_l, w1_c, rfl, hw1⟩ := hw1.sl; (repeat (first | (refine wo rfl (fun k hk => ?_); simp (disch := omega) only [go_sem, Nat.reduceBEq, Nat.reduceAdd]; refine hk _ _ ?_; clear hk k) | refine wkt rfl ?_)); (try refine wk0 ?_)
    refine cN rfl rfl rfl rfl (by exact Shl_spec (n := p) hw1 (by omega)) ?_; rintro w2 h4 _ hw2; obtain ⟨w2, w2_l, w2_c, rfl, hw2⟩ := hw2.sl; (repeat (first | (refine wo rfl (fun k hk => ?_); simp (disch := omega) only [go_sem, Nat.reduceBEq, Nat.reduceAdd]; refine hk _ _ ?_; clear hk k) | refine wkt rfl ?_)); (try refine wk0 ?_)
    rw [Nat.one_mul] at hw2
    refine cN rfl rfl rfl rfl (by exact Reduce_spec (neg := neg) (hv.to (h' := h4)) hw2 (Nat.ne_of_gt (Nat.pow_pos (by decide))) (by omega) (by omega)) ?_; rintro w3 h5 _ hw3; obtain ⟨w3_0, w3_1, w3_2, w3_3, w3_4, w3_5, w3_6, rfl, hw3⟩ := hw3.sa; (repeat (first | (refine wo rfl (fun k hk => ?_); simp (disch := omega) only [go_sem, Nat.reduceBEq, Nat.reduceAdd]; refine hk _ _ ?_; clear hk k) | refine wkt rfl ?_)); (try refine wk0 ?_)
    (try (simp (disch := omega) only [go_sem, Nat.reduceBEq, Nat.reduceAdd])); refine hK _ _ ?_; clear hK; (try clear K); (try dsimp only [behind, qs])
    refine AWP_ret ?_; simp (disch := omega) only [go_sem, Nat.reduceBEq, Nat.reduceAdd]
    rw [hs] at hw3
    exact hw3
  by_cases hun : u = neg
  · rw [if_neg (by rw [hun]; simp), Nat.add_zero] at hgv
    have e1 : (u == neg) = true := by rw [hun]; simp
    (first | refine rg rfl rfl (fun K hK => ?_) | refine rd [.o 0, .o 1, .o 2, .o 4, .o 5, .o 3, .o 6, .o 7, .o 8, .o 9, .o 10, .o 11] rfl (by decide +kernel) rfl (fun K hK => ?_) | refine rd [.o 0, .o 1, .o 2, .o 4, .o 3, .o 5, .o 6, .o 7] rfl (by decide +kernel) rfl (fun K hK => ?_)); (repeat (first | (refine wo rfl (fun k hk => ?_); simp (disch := omega) only [go_sem, Nat.reduceBEq, Nat.reduceAdd, e1]; refine hk _ _ ?_; clear hk k) | refine wkt rfl ?_)); (try refine wk0 ?_)
    (try (simp (disch := omega) only [go_sem, Nat.reduceBEq, Nat.reduceAdd])); refine hK _ _ ?_; clear hK; (try clear K); (try dsimp only [behind, qs])
    refine AWP_condF rfl ?_
    refine AWP_skip ?_; simp only [qs, qb, if_true, if_false, reduceIte]
    refine rest _ _ _ _ inferInstance hq (by omega) hgv ?_
    simp (disch := omega) only [go_sem, Nat.reduceBEq, Nat.reduceAdd]
  · have hun' : (u != neg) = true := by simpa using hun
    have e1 : (u == neg) = false := by simpa using hun
    (first | refine rg rfl rfl (fun K hK => ?_) | refine rd [.o 0, .o 1, .o 2, .o 4, .o 5, .o 3, .o 6, .o 7, .o 8, .o 9, .o 10, .o 11] rfl (by decide +kernel) rfl (fun K hK => ?_) | refine rd [.o 0, .o 1, .o 2, .o 4, .o 3, .o 5, .o 6, .o 7] rfl (by decide +kernel) rfl (fun K hK => ?_)); (repeat (first | (refine wo rfl (fun k hk => ?_); simp (disch := omega) only [go_sem, Nat.reduceBEq, Nat.reduceAdd, e1]; refine hk _ _ ?_; clear hk k) | refine wkt rfl ?_)); (try refine wk0 ?_)
    refine cN rfl rfl rfl rfl (by exact Zero_spec hr) ?_; rintro v3 h3 s3 rfl; (repeat (first | (refine wo rfl (fun k hk => ?_); simp (disch := omega) only [go_sem, Nat.reduceBEq, Nat.reduceAdd]; refine hk _ _ ?_; clear hk k) | refine wkt rfl ?_)); (try refine wk0 ?_)
    by_cases hr0 : x.num.natAbs * 2 ^ p % x.den = 0
    · rw [if_neg (by simp [hr0]), Nat.add_zero] at hgv
      (try (simp (disch := omega) only [go_sem, Nat.reduceBEq, Nat.reduceAdd])); refine hK _ _ ?_; clear hK; (try clear K); (try dsimp only [behind, qs])
      refine AWP_condF rfl ?_
      refine AWP_skip ?_; simp only [qs, qb, if_true, if_false, reduceIte]
      refine rest _ _ _ _ inferInstance hq.to (by omega) hgv ?_
      simp (disch := omega) only [go_sem, Nat.reduceBEq, Nat.reduceAdd]
    · rw [if_pos ⟨hun', hr0⟩] at hgv
      (try (simp (disch := omega) only [go_sem, Nat.reduceBEq, Nat.reduceAdd])); refine hK _ _ ?_; clear hK; (try clear K); (try dsimp only [behind, qs])
      refine AWP_condT rfl ?_
      (first | refine rg rfl rfl (fun K hK => ?_) | refine rd [.o 0, .o 1, .o 2, .o 4, .o 5, .o 3, .o 6, .o 7, .o 8, .o 9, .o 10, .o 11] rfl (by decide +kernel) rfl (fun K hK => ?_) | refine rd [.o 0, .o 1, .o 2, .o 4, .o 3, .o 5, .o 6, .o 7] rfl (by decide +kernel) rfl (fun K hK => ?_)); (repeat (first | (refine wo rfl (fun k hk => ?_); simp (disch := omega) only [go_sem, Nat.reduceBEq, Nat.reduceAdd]; refine hk _ _ ?_; clear hk k) | refine wkt rfl ?_)); (try refine wk0 ?_)
      refine cN rfl rfl rfl rfl (by exact Small_spec (n := 1) (by decide)) ?_; rintro w1 h4 _ hw1; obtain ⟨w1, w1_l, w1_c, rfl, hw1⟩ := hw1.sl; (repeat (first | (refine wo rfl (fun k hk => ?_); simp (disch := omega) only [go_sem, Nat.reduceBEq, Nat.reduceAdd]; refine hk _ _ ?_; clear hk k) | refine wkt rfl ?_)); (try refine wk0 ?_)
      refine cN rfl rfl rfl rfl (by exact Add_spec (hq.to (h' := h4)) hw1 (by omega) (by omega)) ?_; rintro w2 h5 _ hw2; obtain ⟨w2, w2_l, w2_c, rfl, hw2⟩ := hw2.sl; (repeat (first | (refine wo rfl (fun k hk => ?_); simp (disch := omega) only [go_sem, Nat.reduceBEq, Nat.reduceAdd]; refine hk _ _ ?_; clear hk k) | refine wkt rfl ?_)); (try refine wk0 ?_)
      (try (simp (disch := omega) only [go_sem, Nat.reduceBEq, Nat.reduceAdd])); refine hK _ _ ?_; clear hK; (try clear K); (try dsimp only [behind, qs])
      refine rest _ _ _ _ inferInstance hw2 (by omega) hgv ?_
      simp (disch := omega) only [go_sem, Nat.reduceBEq, Nat.reduceAdd]
end Go.Q
namespace Go.Q
open Go.Proofs
set_option maxRecDepth 100000
theorem wu64_neg {m : Nat} (h0 : 0 < m) (h : m ≤ 9223372036854775808) : IntKind.u64.wrap (-(m : Int)) = ((18446744073709551616 - m : Nat) : Int) := by
  rw [IntKind.wrap_u64]; omega
theorem wu64_back {m : Nat} (h0 : 0 < m) (h : m ≤ 9223372036854775808) : IntKind.u64.wrap (0 - ((18446744073709551616 - m : Nat) : Int)) = (m : Int) := by
  rw [IntKind.wrap_u64]; omega
theorem sgn_nat (neg : Bool) (m : Nat) : sgn neg m 1 = ((if neg then -(m : Int) else m : Int) : Rat) := by
  unfold sgn
  rw [Rat.mkRat_eq_div]
  simp [Rat.div_def, inv_one]
theorem Int_spec {h : PH} {n : Int} (h1 : -9223372036854775808 ≤ n) (h2 : n ≤ 9223372036854775807) : Spec mach 58 #[.int .i64 n] h (fun v h' => Fr h' v (n : Rat)) NP := by
  by_cases hn : n < 0
  · obtain ⟨m, rfl⟩ : ∃ m : Nat, n = -(m : Int) := ⟨n.natAbs, by omega⟩
    have e1 := wu64_neg (m := m) (by omega) (by omega)
    have e2 := wu64_back (m := m) (by omega) (by omega)
    refine Spec.enter (args := [_]) (n := 16) Tryz.func58 rfl (by kernel_rfl) rfl (by simp) [.cell 2 41] rfl (fun C _ => ?_)
    repeat (first | (refine wo rfl (fun k hk => ?_); simp (disch := omega) only [go_sem, Nat.reduceBEq, Nat.reduceAdd, e1, e2]; refine hk _ _ ?_; clear hk k) | refine wkt rfl ?_ | refine wk0 ?_ | refine rg rfl rfl (fun K hK => ?_) | ((first | refine AWP_exit ?_ | refine AWP_skip ?_); simp (disch := decide) only [qs, qb, if_true, if_false, reduceIte]) | refine AWP_sq rfl (fun K hK => ?_) | refine ct rfl ?_ | ((try simp (disch := omega) only [go_sem, Nat.reduceBEq, Nat.reduceAdd]); (first | apply hK | (clear hK; apply hK) | (clear hK; clear hK; apply hK)); clear hK; (try clear K); (try dsimp only [behind, qs, qb])))
    refine cN rfl rfl rfl rfl (by exact Small_spec (n := m) (by omega)) ?_; rintro v1 h1 _ hv1; obtain ⟨v1, v1_l, v1_c, rfl, hv1⟩ := hv1.sl; (repeat (first | (refine wo rfl (fun k hk => ?_); simp (disch := omega) only [go_sem, Nat.reduceBEq, Nat.reduceAdd]; refine hk _ _ ?_; clear hk k) | refine wkt rfl ?_)); (try refine wk0 ?_)
    refine cN rfl rfl rfl rfl (by exact Small_spec (n := 1) (by decide)) ?_; rintro v2 h2 _ hv2; obtain ⟨v2, v2_l, v2_c, rfl, hv2⟩ := hv2.sl; (repeat (first | (refine wo rfl (fun k hk => ?_); simp (disch := omega) only [go_sem, Nat.reduceBEq, Nat.reduceAdd]; refine hk _ _ ?_; clear hk k) | refine wkt rfl ?_)); (try refine wk0 ?_)
    (try (simp (disch := omega) only [go_sem, Nat.reduceBEq, Nat.reduceAdd])); refine hK _ _ ?_; clear hK; (try clear K); (try dsimp only [behind, qs])
    refine AWP_ret ?_; simp (disch := omega) only [go_sem, Nat.reduceBEq, Nat.reduceAdd]
    exact Fr.of (neg := true) hv1.to hv2 (by omega) (by decide) (by simp) (by rw [sgn_nat]; simp)
  · obtain ⟨m, rfl⟩ : ∃ m : Nat, n = (m : Int) := ⟨n.natAbs, by omega⟩
    refine Spec.enter (args := [_]) (n := 16) Tryz.func58 rfl (by kernel_rfl) rfl (by simp) [.cell 2 41] rfl (fun C _ => ?_)
    repeat (first | (refine wo rfl (fun k hk => ?_); simp (disch := omega) only [go_sem, Nat.reduceBEq, Nat.reduceAdd]; refine hk _ _ ?_; clear hk k) | refine wkt rfl ?_ | refine wk0 ?_ | refine rg rfl rfl (fun K hK => ?_) | ((first | refine AWP_exit ?_ | refine AWP_skip ?_); simp (disch := decide) only [qs, qb, if_true, if_false, reduceIte]) | refine AWP_sq rfl (fun K hK => ?_) | refine ct rfl ?_ | ((try simp (disch := omega) only [go_sem, Nat.reduceBEq, Nat.reduceAdd]); (first | apply hK | (clear hK; apply hK) | (clear hK; clear hK; apply hK)); clear hK; (try clear K); (try dsimp only [behind, qs, qb])))
    refine cN rfl rfl rfl rfl (by exact Small_spec (n := m) (by omega)) ?_; rintro v1 h1 _ hv1; obtain ⟨v1, v1_l, v1_c, rfl, hv1⟩ := hv1.sl; (repeat (first | (refine wo rfl (fun k hk => ?_); simp (disch := omega) only [go_sem, Nat.reduceBEq, Nat.reduceAdd]; refine hk _ _ ?_; clear hk k) | refine wkt rfl ?_)); (try refine wk0 ?_)
    refine cN rfl rfl rfl rfl (by exact Small_spec (n := 1) (by decide)) ?_; rintro v2 h2 _ hv2; obtain ⟨v2, v2_l, v2_c, rfl, hv2⟩ := hv2.sl; (repeat (first | (refine wo rfl (fun k hk => ?_); simp (disch := omega) only [go_sem, Nat.reduceBEq, Nat.reduceAdd]; refine hk _ _ ?_; clear hk k) | refine wkt rfl ?_)); (try refine wk0 ?_)
    (try (simp (disch := omega) only [go_sem, Nat.reduceBEq, Nat.reduceAdd])); refine hK _ _ ?_; clear hK; (try clear K); (try dsimp only [behind, qs])
    refine AWP_ret ?_; simp (disch := omega) only [go_sem, Nat.reduceBEq, Nat.reduceAdd]
    by_cases h0 : m = 0
    · subst h0
      exact ⟨.slice v1 v1_l v1_c, .slice v2 v2_l v2_c, by simp, by simpa using hv1.to, by simpa using hv2⟩
    · exact Fr.of (neg := false) hv1.to hv2 h0 (by decide) (by simp) (by rw [sgn_nat]; simp)
theorem Clone_spec {h0 h : PH} [Le h0 h] {v : Value} {n : Nat} (hv : N32 h0 v n) (bn : bl n ≤ 2 ^ 40) : Spec mach 70 #[v] h (fun v h' => N32 h' v n) NP := by
  obtain ⟨a, c, xs, rfl, ha, hxs, hm⟩ := hv.out
  have hs : xs.length ≤ 2 ^ 40 := by have := len_le_bl n; rw [hxs] at this; omega
  refine Spec.enter (args := [_]) (n := 8) Tryz.func70 rfl (by kernel_rfl) rfl (by simp) [.tmp 2] rfl (fun C _ => ?_)
  cases a with
  | none =>
    have : xs.length = 0 := by
      rcases Nat.eq_zero_or_pos xs.length with h | h
      · exact h
      · obtain ⟨ad, h1, _⟩ := ha.get h; cases h1
    repeat (first | (refine wo rfl (fun k hk => ?_); simp (disch := omega) only [go_sem, Nat.reduceBEq, Nat.reduceAdd]; refine hk _ _ ?_; clear hk k) | refine wkt rfl ?_ | refine wk0 ?_ | refine rg rfl rfl (fun K hK => ?_) | ((first | refine AWP_exit ?_ | refine AWP_skip ?_); simp (disch := decide) only [qs, qb, if_true, if_false, reduceIte]) | refine AWP_sq rfl (fun K hK => ?_) | refine ct rfl ?_ | ((try simp (disch := omega) only [go_sem, Nat.reduceBEq, Nat.reduceAdd]); (first | apply hK | (clear hK; apply hK) | (clear hK; clear hK; apply hK)); clear hK; (try clear K); (try dsimp only [behind, qs, qb])))
    refine AWP_ret ?_; simp (disch := omega) only [go_sem, Nat.reduceBEq, Nat.reduceAdd]
    rw [← hm, List.eq_nil_of_length_eq_zero this]; exact N32.zero _
  | some ad =>
    repeat (first | (refine wo rfl (fun k hk => ?_); simp (disch := omega) only [go_sem, Nat.reduceBEq, Nat.reduceAdd]; refine hk _ _ ?_; clear hk k) | refine wkt rfl ?_ | refine wk0 ?_ | refine rg rfl rfl (fun K hK => ?_) | ((first | refine AWP_exit ?_ | refine AWP_skip ?_); simp (disch := decide) only [qs, qb, if_true, if_false, reduceIte]) | refine AWP_sq rfl (fun K hK => ?_) | refine ct rfl ?_ | ((try simp (disch := omega) only [go_sem, Nat.reduceBEq, Nat.reduceAdd]); (first | apply hK | (clear hK; apply hK) | (clear hK; clear hK; apply hK)); clear hK; (try clear K); (try dsimp only [behind, qs, qb])))
    refine wo rfl (fun k hk => ?_); simp (disch := omega) only [go_sem, Nat.reduceBEq, Nat.reduceAdd]
    refine ⟨uw xs, by simp [uw], fun hne j v hv => ?_, uw_all xs, fun junk => ?_⟩
    · obtain ⟨ad', h1, h2⟩ := ha.cells h hne
      cases h1
      exact h2 j v hv
    refine hk _ _ ?_; clear hk k
    (repeat (first | (refine wo rfl (fun k hk => ?_); simp (disch := omega) only [go_sem, Nat.reduceBEq, Nat.reduceAdd]; refine hk _ _ ?_; clear hk k) | refine wkt rfl ?_)); (try refine wk0 ?_)
    (try (simp (disch := omega) only [go_sem, Nat.reduceBEq, Nat.reduceAdd])); refine hK _ _ ?_; clear hK; (try clear K); (try dsimp only [behind, qs])
    refine AWP_pub 1 ?_
    simp (disch := omega) only [go_sem, Nat.reduceBEq, Nat.reduceAdd]
    intro b h1 hs1 hb
    refine AWP_ret ?_; simp (disch := omega) only [go_sem, Nat.reduceBEq, Nat.reduceAdd]
    refine ⟨_, _, by rw [hxs], ?_⟩
    rw [hxs]
    refine .of_block hb (fun i x hi => ?_) ha.lt (by omega) (by omega)
    have hil : i < xs.length := (List.getElem?_eq_some_iff.1 hi).1
    rw [List.getElem?_append_left (by simp [uw]; exact hil)]
    simp [uw, hi]
/-- A canonical value. -/
def Cn (h : PH) (v : Value) (x : Rat) : Prop := ∃ sn sd, v = .agg #[.bool (decide (x.num < 0)), sn, sd] ∧ N32 h sn x.num.natAbs ∧ N32 h sd (if x.den = 1 then 0 else x.den)
theorem Cn.to {h h' : PH} {v : Value} {x : Rat} (r : Cn h v x) [Le h h'] : Cn h' v x := let ⟨a, b, h1, h2, h3⟩ := r; ⟨a, b, h1, h2.to, h3.to⟩
theorem Cn.sa {h : PH} {v : Value} {x : Rat} (r : Cn h v x) : ∃ b na nl nc da dl dc, v = .agg #[.bool b, .slice na nl nc, .slice da dl dc] ∧ Cn h (.agg #[.bool b, .slice na nl nc, .slice da dl dc]) x := by
  obtain ⟨sn, sd, rfl, h2, h3⟩ := r
  obtain ⟨na, nl, nc, rfl, h2⟩ := h2.sl
  obtain ⟨da, dl, dc, rfl, h3⟩ := h3.sl
  exact ⟨_, _, _, _, _, _, _, rfl, _, _, rfl, h2, h3⟩
/-- The zero value of a number. -/
def zRat : Value := .agg #[.bool false, .slice none 0 0, .slice none 0 0]
theorem Give_ok {h0 h : PH} [Le h0 h] {v : Value} {x : Rat} (hx : Fr h0 v x) (hs : sz x ≤ 2048) : Spec mach 27 #[v] h (fun r h' => ∃ u, r = .tuple #[u, .int .i64 0] ∧ Cn h' u x) NP := by
  obtain ⟨na, nl, nc, da, dl, dc, rfl, hn, hd⟩ := hx.sl
  have b1 := sz_num x; have b2 := sz_den x
  obtain ⟨neg, en⟩ : ∃ b, decide (x.num < 0) = b := ⟨_, rfl⟩
  rw [en] at hx ⊢
  refine Spec.enter (args := [_]) (n := 24) Tryz.func27 rfl (by kernel_rfl) rfl (by simp) [.cell 2 24, .tmp 3] rfl (fun C _ => ?_)
  (repeat (first | (refine rg rfl rfl (fun K hK => ?_); (repeat (first | (refine wo rfl (fun k hk => ?_); simp (disch := omega) only [go_sem, Nat.reduceBEq, Nat.reduceAdd]; refine hk _ _ ?_; clear hk k) | refine wkt rfl ?_)); (try refine wk0 ?_); refine hK _ _ ?_; clear hK K; (try dsimp only [behind, qs, qb])) | ((first | refine AWP_exit ?_ | refine AWP_skip ?_); simp (disch := decide) only [qs, qb, if_true, if_false, reduceIte]) | refine AWP_sq rfl (fun K hK => ?_) | refine ct rfl ?_ | ((first | refine hK _ _ ?_ | (clear hK; refine hK _ _ ?_) | (clear hK; clear hK; refine hK _ _ ?_)); clear hK; (try clear K)))); (refine rg rfl rfl (fun K hK => ?_); (repeat (first | (refine wo rfl (fun k hk => ?_); simp (disch := omega) only [go_sem, Nat.reduceBEq, Nat.reduceAdd]; refine hk _ _ ?_; clear hk k) | refine wkt rfl ?_ | with_reducible refine wk0 ?_ | with_reducible refine wt_seg ?_ | with_reducible refine wt_alt ?_ wt_no | with_reducible refine wt_done ?_)))
  refine cN rfl rfl rfl rfl (by exact Fits_spec hx) ?_; rintro v1 h1 s1 rfl; (repeat (first | (refine wo rfl (fun k hk => ?_); simp (disch := omega) only [go_sem, Nat.reduceBEq, Nat.reduceAdd]; refine hk _ _ ?_; clear hk k) | refine wkt rfl ?_ | with_reducible refine wk0 ?_ | with_reducible refine wt_seg ?_ | with_reducible refine wt_alt ?_ wt_no | with_reducible refine wt_done ?_))
  ((try (simp (disch := omega) only [go_sem, Nat.reduceBEq, Nat.reduceAdd])); refine hK _ _ ?_; clear hK; (try clear K); (try dsimp only [behind, qs])); (repeat (first | (refine rg rfl rfl (fun K hK => ?_); (repeat (first | (refine wo rfl (fun k hk => ?_); simp (disch := omega) only [go_sem, Nat.reduceBEq, Nat.reduceAdd]; refine hk _ _ ?_; clear hk k) | refine wkt rfl ?_)); (try refine wk0 ?_); refine hK _ _ ?_; clear hK K; (try dsimp only [behind, qs, qb])) | ((first | refine AWP_exit ?_ | refine AWP_skip ?_); simp (disch := decide) only [qs, qb, if_true, if_false, reduceIte]) | refine AWP_sq rfl (fun K hK => ?_) | refine ct rfl ?_ | ((first | refine hK _ _ ?_ | (clear hK; refine hK _ _ ?_) | (clear hK; clear hK; refine hK _ _ ?_)); clear hK; (try clear K))))
  (first | refine AWP_t (.seg [.o 0, .o 1, .o 2, .o 3] (.alt 4 (.seg [.o 5] (.alt 6 (.alt 7 .done .no) .no)) (.alt 6 (.alt 4 (.seg [.o 5] (.alt 7 .done .no)) .no) .no))) (by decide +kernel) rfl (fun K hK => ?_) | refine AWP_tk (.seg [.o 0, .o 1, .o 2, .o 3] (.alt 4 (.seg [.o 5] (.alt 6 (.alt 7 .done .no) .no)) (.alt 6 (.alt 4 (.seg [.o 5] (.alt 7 .done .no)) .no) .no))) (by decide +kernel) rfl (fun K hK => ?_))
  have rest : ∀ (va : Option Addr) (vl vc : Nat) (h' : PH) (S : AS), Le h0 h' → N32 h' (.slice va vl vc) x.num.natAbs → S.le ⟨[(1, .p 0 0), (2, .p 1 0), (4, .p 2 0)], [[.bool neg, .slice na nl nc, .slice da dl dc], [.bool false, .slice none 0 0, .slice none 0 0], [.bool neg, .slice va vl vc, .slice none 0 0]]⟩ → K S h' := by
    intro va vl vc h' S _ hn' hS
    refine hK _ _ (AWP_le _ hS ?_); clear hK K
    refine AWP_sqs (fun K hK => ?_)
    refine rg rfl rfl (fun K hK => ?_); (repeat (first | (refine wo rfl (fun k hk => ?_); simp (disch := omega) only [go_sem, Nat.reduceBEq, Nat.reduceAdd]; refine hk _ _ ?_; clear hk k) | refine wkt rfl ?_ | with_reducible refine wk0 ?_ | with_reducible refine wt_seg ?_ | with_reducible refine wt_alt ?_ wt_no | with_reducible refine wt_done ?_))
    refine cN rfl rfl rfl rfl (by exact One_spec hd) ?_; rintro v3 h3 s3 rfl; (repeat (first | (refine wo rfl (fun k hk => ?_); simp (disch := omega) only [go_sem, Nat.reduceBEq, Nat.reduceAdd]; refine hk _ _ ?_; clear hk k) | refine wkt rfl ?_ | with_reducible refine wk0 ?_ | with_reducible refine wt_seg ?_ | with_reducible refine wt_alt ?_ wt_no | with_reducible refine wt_done ?_))
    by_cases h1 : x.den = 1
    · ((try (simp (disch := omega) only [go_sem, Nat.reduceBEq, Nat.reduceAdd])); refine hK _ _ ?_; clear hK; (try clear K); (try dsimp only [behind, qs])); (repeat (first | (refine rg rfl rfl (fun K hK => ?_); (repeat (first | (refine wo rfl (fun k hk => ?_); simp (disch := omega) only [go_sem, Nat.reduceBEq, Nat.reduceAdd]; refine hk _ _ ?_; clear hk k) | refine wkt rfl ?_)); (try refine wk0 ?_); refine hK _ _ ?_; clear hK K; (try dsimp only [behind, qs, qb])) | ((first | refine AWP_exit ?_ | refine AWP_skip ?_); simp (disch := decide) only [qs, qb, if_true, if_false, reduceIte]) | refine AWP_sq rfl (fun K hK => ?_) | refine ct rfl ?_ | ((first | refine hK _ _ ?_ | (clear hK; refine hK _ _ ?_) | (clear hK; clear hK; refine hK _ _ ?_)); clear hK; (try clear K))))
      refine AWP_ret ?_; simp (disch := omega) only [go_sem, Nat.reduceBEq, Nat.reduceAdd]
      exact ⟨_, rfl, _, _, by rw [en], hn'.to, by rw [if_pos h1]; exact N32.zero _⟩
    · ((try (simp (disch := omega) only [go_sem, Nat.reduceBEq, Nat.reduceAdd])); refine hK _ _ ?_; clear hK; (try clear K); (try dsimp only [behind, qs])); (repeat (first | (refine rg rfl rfl (fun K hK => ?_); (repeat (first | (refine wo rfl (fun k hk => ?_); simp (disch := omega) only [go_sem, Nat.reduceBEq, Nat.reduceAdd]; refine hk _ _ ?_; clear hk k) | refine wkt rfl ?_)); (try refine wk0 ?_); refine hK _ _ ?_; clear hK K; (try dsimp only [behind, qs, qb])) | ((first | refine AWP_exit ?_ | refine AWP_skip ?_); simp (disch := decide) only [qs, qb, if_true, if_false, reduceIte]) | refine AWP_sq rfl (fun K hK => ?_) | refine ct rfl ?_ | ((first | refine hK _ _ ?_ | (clear hK; refine hK _ _ ?_) | (clear hK; clear hK; refine hK _ _ ?_)); clear hK; (try clear K)))); (refine rg rfl rfl (fun K hK => ?_); (repeat (first | (refine wo rfl (fun k hk => ?_); simp (disch := omega) only [go_sem, Nat.reduceBEq, Nat.reduceAdd]; refine hk _ _ ?_; clear hk k) | refine wkt rfl ?_ | with_reducible refine wk0 ?_ | with_reducible refine wt_seg ?_ | with_reducible refine wt_alt ?_ wt_no | with_reducible refine wt_done ?_)))
      refine cN rfl rfl rfl rfl (by exact Clone_spec hd (by omega)) ?_; rintro v4 h4 _ hv4; obtain ⟨v4, v4_l, v4_c, rfl, hv4⟩ := hv4.sl; (repeat (first | (refine wo rfl (fun k hk => ?_); simp (disch := omega) only [go_sem, Nat.reduceBEq, Nat.reduceAdd]; refine hk _ _ ?_; clear hk k) | refine wkt rfl ?_ | with_reducible refine wk0 ?_ | with_reducible refine wt_seg ?_ | with_reducible refine wt_alt ?_ wt_no | with_reducible refine wt_done ?_))
      ((try (simp (disch := omega) only [go_sem, Nat.reduceBEq, Nat.reduceAdd])); refine hK _ _ ?_; clear hK; (try clear K); (try dsimp only [behind, qs])); (repeat (first | (refine rg rfl rfl (fun K hK => ?_); (repeat (first | (refine wo rfl (fun k hk => ?_); simp (disch := omega) only [go_sem, Nat.reduceBEq, Nat.reduceAdd]; refine hk _ _ ?_; clear hk k) | refine wkt rfl ?_)); (try refine wk0 ?_); refine hK _ _ ?_; clear hK K; (try dsimp only [behind, qs, qb])) | ((first | refine AWP_exit ?_ | refine AWP_skip ?_); simp (disch := decide) only [qs, qb, if_true, if_false, reduceIte]) | refine AWP_sq rfl (fun K hK => ?_) | refine ct rfl ?_ | ((first | refine hK _ _ ?_ | (clear hK; refine hK _ _ ?_) | (clear hK; clear hK; refine hK _ _ ?_)); clear hK; (try clear K))))
      refine AWP_ret ?_; simp (disch := omega) only [go_sem, Nat.reduceBEq, Nat.reduceAdd]
      exact ⟨_, rfl, _, _, by rw [en], hn'.to, by rw [if_neg h1]; exact hv4⟩
  (repeat (first | (refine wo rfl (fun k hk => ?_); simp (disch := omega) only [go_sem, Nat.reduceBEq, Nat.reduceAdd]; refine hk _ _ ?_; clear hk k) | refine wkt rfl ?_ | with_reducible refine wk0 ?_ | with_reducible refine wt_seg ?_ | with_reducible refine wt_alt ?_ wt_no | with_reducible refine wt_done ?_))
  refine wt_alt ?_ (wt_alt ?_ wt_no)
  · refine cN rfl rfl rfl rfl (by exact Clone_spec hn (by omega)) ?_; rintro v2 h2 _ hv2; obtain ⟨v2, v2_l, v2_c, rfl, hv2⟩ := hv2.sl; (repeat (first | (refine wo rfl (fun k hk => ?_); simp (disch := omega) only [go_sem, Nat.reduceBEq, Nat.reduceAdd]; refine hk _ _ ?_; clear hk k) | refine wkt rfl ?_ | with_reducible refine wk0 ?_ | with_reducible refine wt_seg ?_ | with_reducible refine wt_alt ?_ wt_no | with_reducible refine wt_done ?_))
    refine rest _ _ _ _ _ inferInstance hv2 ?_
    simp (disch := omega) only [go_sem, Nat.reduceBEq, Nat.reduceAdd]
  · (repeat (first | (refine wo rfl (fun k hk => ?_); simp (disch := omega) only [go_sem, Nat.reduceBEq, Nat.reduceAdd]; refine hk _ _ ?_; clear hk k) | refine wkt rfl ?_ | with_reducible refine wk0 ?_ | with_reducible refine wt_seg ?_ | with_reducible refine wt_alt ?_ wt_no | with_reducible refine wt_done ?_))
    refine cN rfl rfl rfl rfl (by exact Clone_spec hn (by omega)) ?_; rintro v2 h2 _ hv2; obtain ⟨v2, v2_l, v2_c, rfl, hv2⟩ := hv2.sl; (repeat (first | (refine wo rfl (fun k hk => ?_); simp (disch := omega) only [go_sem, Nat.reduceBEq, Nat.reduceAdd]; refine hk _ _ ?_; clear hk k) | refine wkt rfl ?_ | with_reducible refine wk0 ?_ | with_reducible refine wt_seg ?_ | with_reducible refine wt_alt ?_ wt_no | with_reducible refine wt_done ?_))
    refine rest _ _ _ _ _ inferInstance hv2 ?_
    simp (disch := omega) only [go_sem, Nat.reduceBEq, Nat.reduceAdd]
theorem Give_no {h0 h : PH} [Le h0 h] {v : Value} {x : Rat} (hx : Fr h0 v x) (hs : ¬ sz x ≤ 2048) : Spec mach 27 #[v] h (fun r _ => r = .tuple #[zRat, .int .i64 1]) NP := by
  obtain ⟨na, nl, nc, da, dl, dc, rfl, hn, hd⟩ := hx.sl
  obtain ⟨neg, en⟩ : ∃ b, decide (x.num < 0) = b := ⟨_, rfl⟩
  rw [en] at hx ⊢
  refine Spec.enter (args := [_]) (n := 24) Tryz.func27 rfl (by kernel_rfl) rfl (by simp) [.cell 2 24, .tmp 3] rfl (fun C _ => ?_)
  (repeat (first | (refine rg rfl rfl (fun K hK => ?_); (repeat (first | (refine wo rfl (fun k hk => ?_); simp (disch := omega) only [go_sem, Nat.reduceBEq, Nat.reduceAdd]; refine hk _ _ ?_; clear hk k) | refine wkt rfl ?_)); (try refine wk0 ?_); refine hK _ _ ?_; clear hK K; (try dsimp only [behind, qs, qb])) | ((first | refine AWP_exit ?_ | refine AWP_skip ?_); simp (disch := decide) only [qs, qb, if_true, if_false, reduceIte]) | refine AWP_sq rfl (fun K hK => ?_) | refine ct rfl ?_ | ((first | refine hK _ _ ?_ | (clear hK; refine hK _ _ ?_) | (clear hK; clear hK; refine hK _ _ ?_)); clear hK; (try clear K)))); (refine rg rfl rfl (fun K hK => ?_); (repeat (first | (refine wo rfl (fun k hk => ?_); simp (disch := omega) only [go_sem, Nat.reduceBEq, Nat.reduceAdd]; refine hk _ _ ?_; clear hk k) | refine wkt rfl ?_ | with_reducible refine wk0 ?_ | with_reducible refine wt_seg ?_ | with_reducible refine wt_alt ?_ wt_no | with_reducible refine wt_done ?_)))
  refine cN rfl rfl rfl rfl (by exact Fits_spec hx) ?_; rintro v1 h1 s1 rfl; (repeat (first | (refine wo rfl (fun k hk => ?_); simp (disch := omega) only [go_sem, Nat.reduceBEq, Nat.reduceAdd]; refine hk _ _ ?_; clear hk k) | refine wkt rfl ?_ | with_reducible refine wk0 ?_ | with_reducible refine wt_seg ?_ | with_reducible refine wt_alt ?_ wt_no | with_reducible refine wt_done ?_))
  ((try (simp (disch := omega) only [go_sem, Nat.reduceBEq, Nat.reduceAdd])); refine hK _ _ ?_; clear hK; (try clear K); (try dsimp only [behind, qs])); (repeat (first | (refine rg rfl rfl (fun K hK => ?_); (repeat (first | (refine wo rfl (fun k hk => ?_); simp (disch := omega) only [go_sem, Nat.reduceBEq, Nat.reduceAdd]; refine hk _ _ ?_; clear hk k) | refine wkt rfl ?_)); (try refine wk0 ?_); refine hK _ _ ?_; clear hK K; (try dsimp only [behind, qs, qb])) | ((first | refine AWP_exit ?_ | refine AWP_skip ?_); simp (disch := decide) only [qs, qb, if_true, if_false, reduceIte]) | refine AWP_sq rfl (fun K hK => ?_) | refine ct rfl ?_ | ((first | refine hK _ _ ?_ | (clear hK; refine hK _ _ ?_) | (clear hK; clear hK; refine hK _ _ ?_)); clear hK; (try clear K))))
  refine AWP_ret ?_; simp (disch := omega) only [go_sem, Nat.reduceBEq, Nat.reduceAdd]
  rfl
/-- Any value that denotes (-1)^neg * n / d. -/
def Rw (h : PH) (v : Value) (neg : Bool) (n d : Nat) : Prop := ∃ a c xs a' c' ys, v = .agg #[.bool neg, .slice a xs.length c, .slice a' ys.length c'] ∧ Arr h a c xs ∧ Arr h a' c' ys ∧ val 4294967296 xs = n ∧ val 4294967296 ys = d ∧ xs.length ≤ 2 ^ 30 ∧ ys.length ≤ 2 ^ 30
theorem Rw.to {h h' : PH} {v : Value} {neg : Bool} {n d : Nat} (r : Rw h v neg n d) [Le h h'] : Rw h' v neg n d := let ⟨a, c, xs, a', c', ys, h1, h2, h3, h4, h5⟩ := r; ⟨a, c, xs, a', c', ys, h1, h2.to, h3.to, h4, h5⟩
theorem Rw.sa {h : PH} {v : Value} {neg : Bool} {n d : Nat} (r : Rw h v neg n d) : ∃ b na nl nc da dl dc, v = .agg #[.bool b, .slice na nl nc, .slice da dl dc] ∧ Rw h (.agg #[.bool b, .slice na nl nc, .slice da dl dc]) neg n d := by
  have r0 := r
  obtain ⟨a, c, xs, a', c', ys, rfl, _⟩ := r
  exact ⟨_, _, _, _, _, _, _, rfl, r0⟩
theorem Cn.rw {h : PH} {v : Value} {x : Rat} (r : Cn h v x) (bx : sz x ≤ 2 ^ 30) : Rw h v (decide (x.num < 0)) x.num.natAbs (if x.den = 1 then 0 else x.den) := by
  obtain ⟨sn, sd, rfl, h2, h3⟩ := r
  have b1 := sz_num x; have b2 := sz_den x
  have b3 : bl (if x.den = 1 then 0 else x.den) ≤ bl x.den := bl_mono (by split <;> omega)
  obtain ⟨a, c, xs, rfl, ha, hx, hm⟩ := h2.out
  obtain ⟨a', c', ys, rfl, ha', hy, hm'⟩ := h3.out
  have l1 := len_le_bl x.num.natAbs
  have l2 := len_le_bl (if x.den = 1 then 0 else x.den)
  rw [hx] at l1
  rw [hy] at l2
  exact ⟨_, _, _, _, _, _, rfl, ha, ha', hm, hm', by omega, by omega⟩
def dz (d : Nat) : Nat := if d = 0 then 1 else d
theorem dz_ne (d : Nat) : dz d ≠ 0 := by unfold dz; split <;> omega
/-- The number that a value denotes. -/
def qof (neg : Bool) (n d : Nat) : Rat := sgn neg n (dz d)
theorem qof_cn (x : Rat) : qof (decide (x.num < 0)) x.num.natAbs (if x.den = 1 then 0 else x.den) = x := by
  have : dz (if x.den = 1 then 0 else x.den) = x.den := by
    have := x.den_nz
    by_cases h : x.den = 1
    · simp [dz, h]
    · simp [dz, h, this]
  unfold qof
  rw [this, sgn_self]
/-- It is large. -/
def lg (neg : Bool) (n d : Nat) : Prop := 8192 < bl n ∨ 8192 < bl d ∨ 2048 < sz (qof neg n d)
instance (neg : Bool) (n d : Nat) : Decidable (lg neg n d) := by unfold lg; infer_instance
theorem lg_cn {x : Rat} : lg (decide (x.num < 0)) x.num.natAbs (if x.den = 1 then 0 else x.den) ↔ 2048 < sz x := by
  unfold lg
  rw [qof_cn]
  have b1 := sz_num x; have b2 := sz_den x
  have b3 : bl (if x.den = 1 then 0 else x.den) ≤ bl x.den := bl_mono (by split <;> omega)
  omega
end Go.Q
namespace Go.Q
open Go.Proofs
set_option maxRecDepth 100000
theorem N32.len {h : PH} {a : Option Addr} {l c n : Nat} (r : N32 h (.slice a l c) n) : l ≤ 256 ↔ bl n ≤ 8192 := by
  obtain ⟨a', c', h1, _⟩ := r
  cases h1
  exact W_len_bl (k := 256)
theorem Read_ok {h0 h : PH} [Le h0 h] {v : Value} {neg : Bool} {n d : Nat} (hv : Rw h0 v neg n d) (hl : ¬ lg neg n d) :
    Spec mach 67 #[v] h (fun r h' => ∃ f, r = .tuple #[f, .bool true] ∧ Fr h' f (qof neg n d)) NP := by
  obtain ⟨a, c, xs, a', c', ys, rfl, ha, ha', hn, hd, hsx, hsy⟩ := hv
  unfold lg at hl
  refine Spec.enter (args := [_]) (n := 33) Tryz.func67 rfl (by kernel_rfl) rfl (by simp) [.cell 2 41, .tmp 3] rfl (fun C _ => ?_)
  repeat (first | (refine wo rfl (fun k hk => ?_); simp (disch := omega) only [go_sem, Nat.reduceBEq, Nat.reduceAdd]; refine hk _ _ ?_; clear hk k) | refine wkt rfl ?_ | refine wk0 ?_ | refine rg rfl rfl (fun K hK => ?_) | refine rd [.o 0, .o 1, .o 3, .o 4, .o 2, .o 5, .o 6, .o 7] rfl (by decide +kernel) rfl (fun K hK => ?_) | refine rd [.o 0, .o 1, .o 2, .o 3, .o 4] rfl (by decide +kernel) rfl (fun K hK => ?_) | ((first | refine AWP_exit ?_ | refine AWP_skip ?_); simp (disch := decide) only [qs, qb, if_true, if_false, reduceIte]) | refine AWP_sq rfl (fun K hK => ?_) | refine ct rfl ?_ | ((try simp (disch := omega) only [go_sem, Nat.reduceBEq, Nat.reduceAdd]); (first | apply hK | (clear hK; apply hK) | (clear hK; clear hK; apply hK)); clear hK; (try clear K); (try dsimp only [behind, qs, qb])))
  refine cN rfl rfl rfl rfl (by exact Of_N ha) ?_; rintro v1 h1 _ hv1; obtain ⟨v1, v1_l, v1_c, rfl, hv1⟩ := hv1.sl; (repeat (first | (refine wo rfl (fun k hk => ?_); simp (disch := omega) only [go_sem, Nat.reduceBEq, Nat.reduceAdd]; refine hk _ _ ?_; clear hk k) | refine wkt rfl ?_)); (try refine wk0 ?_)
  refine cN rfl rfl rfl rfl (by exact Of_N ha') ?_; rintro v2 h2 _ hv2; obtain ⟨v2, v2_l, v2_c, rfl, hv2⟩ := hv2.sl; (repeat (first | (refine wo rfl (fun k hk => ?_); simp (disch := omega) only [go_sem, Nat.reduceBEq, Nat.reduceAdd]; refine hk _ _ ?_; clear hk k) | refine wkt rfl ?_)); (try refine wk0 ?_)
  (try (simp (disch := omega) only [go_sem, Nat.reduceBEq, Nat.reduceAdd])); refine hK _ _ ?_; clear hK; (try clear K); (try dsimp only [behind, qs])
  rw [hn] at hv1
  rw [hd] at hv2
  have l1 := hv1.len
  have l2 := hv2.len
  have e1 : v1_l ≤ 256 := by omega
  have e2 : v2_l ≤ 256 := by omega
  repeat (first | ((first | refine rg rfl rfl (fun K hK => ?_) | refine rd [.o 0, .o 1, .o 3, .o 4, .o 2, .o 5, .o 6, .o 7] rfl (by decide +kernel) rfl (fun K hK => ?_) | refine rd [.o 0, .o 1, .o 2, .o 3, .o 4] rfl (by decide +kernel) rfl (fun K hK => ?_)); (repeat (first | (refine wo rfl (fun k hk => ?_); simp (disch := omega) only [go_sem, Nat.reduceBEq, Nat.reduceAdd]; refine hk _ _ ?_; clear hk k) | refine wkt rfl ?_)); (try refine wk0 ?_); refine hK _ _ ?_; clear hK K; (try dsimp only [behind, qs, qb])) | ((first | refine AWP_exit ?_ | refine AWP_skip ?_); simp (disch := decide) only [qs, qb, if_true, if_false, reduceIte]) | refine AWP_sq rfl (fun K hK => ?_) | refine ct rfl ?_ | ((first | refine hK _ _ ?_ | (clear hK; refine hK _ _ ?_) | (clear hK; clear hK; refine hK _ _ ?_)); clear hK; (try clear K)))
  have rest : ∀ (va : Option Addr) (vl vc : Nat) (h' : PH) (S : AS), Le h1 h' → N32 h' (.slice va vl vc) (dz d) → S.le ⟨[(1, .p 0 0), (2, .p 1 0), (4, .v (.slice v1 v1_l v1_c)), (5, .v (.slice va vl vc))], [[.bool neg, .slice a xs.length c, .slice a' ys.length c'], [.bool false, .slice none 0 0, .slice none 0 0]]⟩ → K S h' := by
    intro va vl vc h' S _ hd' hS
    refine hK _ _ (AWP_le _ hS ?_); clear hK K
    have bz : bl (dz d) ≤ 8193 := by
      unfold dz; split
      · decide
      · omega
    (first | refine rg rfl rfl (fun K hK => ?_) | refine rd [.o 0, .o 1, .o 3, .o 4, .o 2, .o 5, .o 6, .o 7] rfl (by decide +kernel) rfl (fun K hK => ?_) | refine rd [.o 0, .o 1, .o 2, .o 3, .o 4] rfl (by decide +kernel) rfl (fun K hK => ?_)); (repeat (first | (refine wo rfl (fun k hk => ?_); simp (disch := omega) only [go_sem, Nat.reduceBEq, Nat.reduceAdd]; refine hk _ _ ?_; clear hk k) | refine wkt rfl ?_)); (try refine wk0 ?_)
    refine cN rfl rfl rfl rfl (by exact Reduce_spec (neg := neg) (hv1.to (h' := h')) hd' (dz_ne d) (by omega) (by omega)) ?_; rintro v3 h3 _ hv3; obtain ⟨v3_0, v3_1, v3_2, v3_3, v3_4, v3_5, v3_6, rfl, hv3⟩ := hv3.sa; (repeat (first | (refine wo rfl (fun k hk => ?_); simp (disch := omega) only [go_sem, Nat.reduceBEq, Nat.reduceAdd]; refine hk _ _ ?_; clear hk k) | refine wkt rfl ?_)); (try refine wk0 ?_)
    (try (simp (disch := omega) only [go_sem, Nat.reduceBEq, Nat.reduceAdd])); refine hK _ _ ?_; clear hK; (try clear K); (try dsimp only [behind, qs])
    have hsz : sz (qof neg n d) ≤ 2048 := by omega
    (first | refine rg rfl rfl (fun K hK => ?_) | refine rd [.o 0, .o 1, .o 3, .o 4, .o 2, .o 5, .o 6, .o 7] rfl (by decide +kernel) rfl (fun K hK => ?_) | refine rd [.o 0, .o 1, .o 2, .o 3, .o 4] rfl (by decide +kernel) rfl (fun K hK => ?_)); (repeat (first | (refine wo rfl (fun k hk => ?_); simp (disch := omega) only [go_sem, Nat.reduceBEq, Nat.reduceAdd]; refine hk _ _ ?_; clear hk k) | refine wkt rfl ?_)); (try refine wk0 ?_)
    refine cN rfl rfl rfl rfl (by exact Fits_spec (x := qof neg n d) hv3) ?_; rintro v4 h4 s4 rfl; (repeat (first | (refine wo rfl (fun k hk => ?_); simp (disch := omega) only [go_sem, Nat.reduceBEq, Nat.reduceAdd]; refine hk _ _ ?_; clear hk k) | refine wkt rfl ?_)); (try refine wk0 ?_)
    (try (simp (disch := omega) only [go_sem, Nat.reduceBEq, Nat.reduceAdd])); refine hK _ _ ?_; clear hK; (try clear K); (try dsimp only [behind, qs])
    refine AWP_ret ?_; simp (disch := omega) only [go_sem, Nat.reduceBEq, Nat.reduceAdd]
    refine ⟨_, ?_, hv3.to⟩
    simp [hsz]
  (first | refine rg rfl rfl (fun K hK => ?_) | refine rd [.o 0, .o 1, .o 3, .o 4, .o 2, .o 5, .o 6, .o 7] rfl (by decide +kernel) rfl (fun K hK => ?_) | refine rd [.o 0, .o 1, .o 2, .o 3, .o 4] rfl (by decide +kernel) rfl (fun K hK => ?_)); (repeat (first | (refine wo rfl (fun k hk => ?_); simp (disch := omega) only [go_sem, Nat.reduceBEq, Nat.reduceAdd]; refine hk _ _ ?_; clear hk k) | refine wkt rfl ?_)); (try refine wk0 ?_)
  refine cN rfl rfl rfl rfl (by exact Zero_spec hv2) ?_; rintro v3 h3 s3 rfl; (repeat (first | (refine wo rfl (fun k hk => ?_); simp (disch := omega) only [go_sem, Nat.reduceBEq, Nat.reduceAdd]; refine hk _ _ ?_; clear hk k) | refine wkt rfl ?_)); (try refine wk0 ?_)
  by_cases hd0 : d = 0
  · (try (simp (disch := omega) only [go_sem, Nat.reduceBEq, Nat.reduceAdd])); refine hK _ _ ?_; clear hK; (try clear K); (try dsimp only [behind, qs])
    refine AWP_condT rfl ?_
    (first | refine rg rfl rfl (fun K hK => ?_) | refine rd [.o 0, .o 1, .o 3, .o 4, .o 2, .o 5, .o 6, .o 7] rfl (by decide +kernel) rfl (fun K hK => ?_) | refine rd [.o 0, .o 1, .o 2, .o 3, .o 4] rfl (by decide +kernel) rfl (fun K hK => ?_)); (repeat (first | (refine wo rfl (fun k hk => ?_); simp (disch := omega) only [go_sem, Nat.reduceBEq, Nat.reduceAdd]; refine hk _ _ ?_; clear hk k) | refine wkt rfl ?_)); (try refine wk0 ?_)
    refine cN rfl rfl rfl rfl (by exact Small_spec (n := 1) (by decide)) ?_; rintro v4 h4 _ hv4; obtain ⟨v4, v4_l, v4_c, rfl, hv4⟩ := hv4.sl; (repeat (first | (refine wo rfl (fun k hk => ?_); simp (disch := omega) only [go_sem, Nat.reduceBEq, Nat.reduceAdd]; refine hk _ _ ?_; clear hk k) | refine wkt rfl ?_)); (try refine wk0 ?_)
    (try (simp (disch := omega) only [go_sem, Nat.reduceBEq, Nat.reduceAdd])); refine hK _ _ ?_; clear hK; (try clear K); (try dsimp only [behind, qs])
    refine rest _ _ _ _ _ inferInstance (by unfold dz; rw [if_pos hd0]; exact hv4) ?_
    simp (disch := omega) only [go_sem, Nat.reduceBEq, Nat.reduceAdd]
  · (try (simp (disch := omega) only [go_sem, Nat.reduceBEq, Nat.reduceAdd])); refine hK _ _ ?_; clear hK; (try clear K); (try dsimp only [behind, qs])
    refine AWP_condF rfl ?_
    refine AWP_skip ?_; simp only [qs, qb, if_true, if_false, reduceIte]
    refine rest _ _ _ _ _ inferInstance (by unfold dz; rw [if_neg hd0]; exact hv2.to) ?_
    simp (disch := omega) only [go_sem, Nat.reduceBEq, Nat.reduceAdd]
theorem Read_no {h0 h : PH} [Le h0 h] {v : Value} {neg : Bool} {n d : Nat} (hv : Rw h0 v neg n d) (hl : lg neg n d) :
    Spec mach 67 #[v] h (fun r _ => ∃ b a l c a' l' c', r = .tuple #[.agg #[.bool b, .slice a l c, .slice a' l' c'], .bool false]) NP := by
  obtain ⟨a, c, xs, a', c', ys, rfl, ha, ha', hn, hd, hsx, hsy⟩ := hv
  unfold lg at hl
  refine Spec.enter (args := [_]) (n := 33) Tryz.func67 rfl (by kernel_rfl) rfl (by simp) [.cell 2 41, .tmp 3] rfl (fun C _ => ?_)
  repeat (first | (refine wo rfl (fun k hk => ?_); simp (disch := omega) only [go_sem, Nat.reduceBEq, Nat.reduceAdd]; refine hk _ _ ?_; clear hk k) | refine wkt rfl ?_ | refine wk0 ?_ | refine rg rfl rfl (fun K hK => ?_) | refine rd [.o 0, .o 1, .o 3, .o 4, .o 2, .o 5, .o 6, .o 7] rfl (by decide +kernel) rfl (fun K hK => ?_) | refine rd [.o 0, .o 1, .o 2, .o 3, .o 4] rfl (by decide +kernel) rfl (fun K hK => ?_) | ((first | refine AWP_exit ?_ | refine AWP_skip ?_); simp (disch := decide) only [qs, qb, if_true, if_false, reduceIte]) | refine AWP_sq rfl (fun K hK => ?_) | refine ct rfl ?_ | ((try simp (disch := omega) only [go_sem, Nat.reduceBEq, Nat.reduceAdd]); (first | apply hK | (clear hK; apply hK) | (clear hK; clear hK; apply hK)); clear hK; (try clear K); (try dsimp only [behind, qs, qb])))
  refine cN rfl rfl rfl rfl (by exact Of_N ha) ?_; rintro v1 h1 _ hv1; obtain ⟨v1, v1_l, v1_c, rfl, hv1⟩ := hv1.sl; (repeat (first | (refine wo rfl (fun k hk => ?_); simp (disch := omega) only [go_sem, Nat.reduceBEq, Nat.reduceAdd]; refine hk _ _ ?_; clear hk k) | refine wkt rfl ?_)); (try refine wk0 ?_)
  refine cN rfl rfl rfl rfl (by exact Of_N ha') ?_; rintro v2 h2 _ hv2; obtain ⟨v2, v2_l, v2_c, rfl, hv2⟩ := hv2.sl; (repeat (first | (refine wo rfl (fun k hk => ?_); simp (disch := omega) only [go_sem, Nat.reduceBEq, Nat.reduceAdd]; refine hk _ _ ?_; clear hk k) | refine wkt rfl ?_)); (try refine wk0 ?_)
  (try (simp (disch := omega) only [go_sem, Nat.reduceBEq, Nat.reduceAdd])); refine hK _ _ ?_; clear hK; (try clear K); (try dsimp only [behind, qs])
  rw [hn] at hv1
  rw [hd] at hv2
  have l1 := hv1.len
  have l2 := hv2.len
  by_cases e1 : v1_l ≤ 256
  · by_cases e2 : v2_l ≤ 256
    · repeat (first | ((first | refine rg rfl rfl (fun K hK => ?_) | refine rd [.o 0, .o 1, .o 3, .o 4, .o 2, .o 5, .o 6, .o 7] rfl (by decide +kernel) rfl (fun K hK => ?_) | refine rd [.o 0, .o 1, .o 2, .o 3, .o 4] rfl (by decide +kernel) rfl (fun K hK => ?_)); (repeat (first | (refine wo rfl (fun k hk => ?_); simp (disch := omega) only [go_sem, Nat.reduceBEq, Nat.reduceAdd]; refine hk _ _ ?_; clear hk k) | refine wkt rfl ?_)); (try refine wk0 ?_); refine hK _ _ ?_; clear hK K; (try dsimp only [behind, qs, qb])) | ((first | refine AWP_exit ?_ | refine AWP_skip ?_); simp (disch := decide) only [qs, qb, if_true, if_false, reduceIte]) | refine AWP_sq rfl (fun K hK => ?_) | refine ct rfl ?_ | ((first | refine hK _ _ ?_ | (clear hK; refine hK _ _ ?_) | (clear hK; clear hK; refine hK _ _ ?_)); clear hK; (try clear K)))
      have rest : ∀ (va : Option Addr) (vl vc : Nat) (h' : PH) (S : AS), Le h1 h' → N32 h' (.slice va vl vc) (dz d) → S.le ⟨[(1, .p 0 0), (2, .p 1 0), (4, .v (.slice v1 v1_l v1_c)), (5, .v (.slice va vl vc))], [[.bool neg, .slice a xs.length c, .slice a' ys.length c'], [.bool false, .slice none 0 0, .slice none 0 0]]⟩ → K S h' := by
        intro va vl vc h' S _ hd' hS
        refine hK _ _ (AWP_le _ hS ?_); clear hK K
        have bz : bl (dz d) ≤ 8193 := by
          unfold dz; split
          · decide
          · omega
        (first | refine rg rfl rfl (fun K hK => ?_) | refine rd [.o 0, .o 1, .o 3, .o 4, .o 2, .o 5, .o 6, .o 7] rfl (by decide +kernel) rfl (fun K hK => ?_) | refine rd [.o 0, .o 1, .o 2, .o 3, .o 4] rfl (by decide +kernel) rfl (fun K hK => ?_)); (repeat (first | (refine wo rfl (fun k hk => ?_); simp (disch := omega) only [go_sem, Nat.reduceBEq, Nat.reduceAdd]; refine hk _ _ ?_; clear hk k) | refine wkt rfl ?_)); (try refine wk0 ?_)
        refine cN rfl rfl rfl rfl (by exact Reduce_spec (neg := neg) (hv1.to (h' := h')) hd' (dz_ne d) (by omega) (by omega)) ?_; rintro v3 h3 _ hv3; obtain ⟨v3_0, v3_1, v3_2, v3_3, v3_4, v3_5, v3_6, rfl, hv3⟩ := hv3.sa; (repeat (first | (refine wo rfl (fun k hk => ?_); simp (disch := omega) only [go_sem, Nat.reduceBEq, Nat.reduceAdd]; refine hk _ _ ?_; clear hk k) | refine wkt rfl ?_)); (try refine wk0 ?_)
        (try (simp (disch := omega) only [go_sem, Nat.reduceBEq, Nat.reduceAdd])); refine hK _ _ ?_; clear hK; (try clear K); (try dsimp only [behind, qs])
        have hsz : ¬ sz (qof neg n d) ≤ 2048 := by omega
        (first | refine rg rfl rfl (fun K hK => ?_) | refine rd [.o 0, .o 1, .o 3, .o 4, .o 2, .o 5, .o 6, .o 7] rfl (by decide +kernel) rfl (fun K hK => ?_) | refine rd [.o 0, .o 1, .o 2, .o 3, .o 4] rfl (by decide +kernel) rfl (fun K hK => ?_)); (repeat (first | (refine wo rfl (fun k hk => ?_); simp (disch := omega) only [go_sem, Nat.reduceBEq, Nat.reduceAdd]; refine hk _ _ ?_; clear hk k) | refine wkt rfl ?_)); (try refine wk0 ?_)
        refine cN rfl rfl rfl rfl (by exact Fits_spec (x := qof neg n d) hv3) ?_; rintro v4 h4 s4 rfl; (repeat (first | (refine wo rfl (fun k hk => ?_); simp (disch := omega) only [go_sem, Nat.reduceBEq, Nat.reduceAdd]; refine hk _ _ ?_; clear hk k) | refine wkt rfl ?_)); (try refine wk0 ?_)
        (try (simp (disch := omega) only [go_sem, Nat.reduceBEq, Nat.reduceAdd])); refine hK _ _ ?_; clear hK; (try clear K); (try dsimp only [behind, qs])
        refine AWP_ret ?_; simp (disch := omega) only [go_sem, Nat.reduceBEq, Nat.reduceAdd]
        refine ⟨v3_0, v3_1, v3_2, v3_3, v3_4, v3_5, v3_6, ?_⟩
        simp [hsz]
      (first | refine rg rfl rfl (fun K hK => ?_) | refine rd [.o 0, .o 1, .o 3, .o 4, .o 2, .o 5, .o 6, .o 7] rfl (by decide +kernel) rfl (fun K hK => ?_) | refine rd [.o 0, .o 1, .o 2, .o 3, .o 4] rfl (by decide +kernel) rfl (fun K hK => ?_)); (repeat (first | (refine wo rfl (fun k hk => ?_); simp (disch := omega) only [go_sem, Nat.reduceBEq, Nat.reduceAdd]; refine hk _ _ ?_; clear hk k) | refine wkt rfl ?_)); (try refine wk0 ?_)
      refine cN rfl rfl rfl rfl (by exact Zero_spec hv2) ?_; rintro v3 h3 s3 rfl; (repeat (first | (refine wo rfl (fun k hk => ?_); simp (disch := omega) only [go_sem, Nat.reduceBEq, Nat.reduceAdd]; refine hk _ _ ?_; clear hk k) | refine wkt rfl ?_)); (try refine wk0 ?_)
      by_cases hd0 : d = 0
      · (try (simp (disch := omega) only [go_sem, Nat.reduceBEq, Nat.reduceAdd])); refine hK _ _ ?_; clear hK; (try clear K); (try dsimp only [behind, qs])
        refine AWP_condT rfl ?_
        (first | refine rg rfl rfl (fun K hK => ?_) | refine rd [.o 0, .o 1, .o 3, .o 4, .o 2, .o 5, .o 6, .o 7] rfl (by decide +kernel) rfl (fun K hK => ?_) | refine rd [.o 0, .o 1, .o 2, .o 3, .o 4] rfl (by decide +kernel) rfl (fun K hK => ?_)); (repeat (first | (refine wo rfl (fun k hk => ?_); simp (disch := omega) only [go_sem, Nat.reduceBEq, Nat.reduceAdd]; refine hk _ _ ?_; clear hk k) | refine wkt rfl ?_)); (try refine wk0 ?_)
        refine cN rfl rfl rfl rfl (by exact Small_spec (n := 1) (by decide)) ?_; rintro v4 h4 _ hv4; obtain ⟨v4, v4_l, v4_c, rfl, hv4⟩ := hv4.sl; (repeat (first | (refine wo rfl (fun k hk => ?_); simp (disch := omega) only [go_sem, Nat.reduceBEq, Nat.reduceAdd]; refine hk _ _ ?_; clear hk k) | refine wkt rfl ?_)); (try refine wk0 ?_)
        (try (simp (disch := omega) only [go_sem, Nat.reduceBEq, Nat.reduceAdd])); refine hK _ _ ?_; clear hK; (try clear K); (try dsimp only [behind, qs])
        refine rest _ _ _ _ _ inferInstance (by unfold dz; rw [if_pos hd0]; exact hv4) ?_
        simp (disch := omega) only [go_sem, Nat.reduceBEq, Nat.reduceAdd]
      · (try (simp (disch := omega) only [go_sem, Nat.reduceBEq, Nat.reduceAdd])); refine hK _ _ ?_; clear hK; (try clear K); (try dsimp only [behind, qs])
        refine AWP_condF rfl ?_
        refine AWP_skip ?_; simp only [qs, qb, if_true, if_false, reduceIte]
        refine rest _ _ _ _ _ inferInstance (by unfold dz; rw [if_neg hd0]; exact hv2.to) ?_
        simp (disch := omega) only [go_sem, Nat.reduceBEq, Nat.reduceAdd]
    · repeat (first | (refine wo rfl (fun k hk => ?_); simp (disch := omega) only [go_sem, Nat.reduceBEq, Nat.reduceAdd]; refine hk _ _ ?_; clear hk k) | refine wkt rfl ?_ | refine wk0 ?_ | refine rg rfl rfl (fun K hK => ?_) | refine rd [.o 0, .o 1, .o 3, .o 4, .o 2, .o 5, .o 6, .o 7] rfl (by decide +kernel) rfl (fun K hK => ?_) | refine rd [.o 0, .o 1, .o 2, .o 3, .o 4] rfl (by decide +kernel) rfl (fun K hK => ?_) | ((first | refine AWP_exit ?_ | refine AWP_skip ?_); simp (disch := decide) only [qs, qb, if_true, if_false, reduceIte]) | refine AWP_sq rfl (fun K hK => ?_) | refine ct rfl ?_ | ((try simp (disch := omega) only [go_sem, Nat.reduceBEq, Nat.reduceAdd]); (first | apply hK | (clear hK; apply hK) | (clear hK; clear hK; apply hK)); clear hK; (try clear K); (try dsimp only [behind, qs, qb])))
      refine AWP_ret ?_; simp (disch := omega) only [go_sem, Nat.reduceBEq, Nat.reduceAdd]
      exact ⟨_, _, _, _, _, _, _, rfl⟩
  · repeat (first | (refine wo rfl (fun k hk => ?_); simp (disch := omega) only [go_sem, Nat.reduceBEq, Nat.reduceAdd]; refine hk _ _ ?_; clear hk k) | refine wkt rfl ?_ | refine wk0 ?_ | refine rg rfl rfl (fun K hK => ?_) | refine rd [.o 0, .o 1, .o 3, .o 4, .o 2, .o 5, .o 6, .o 7] rfl (by decide +kernel) rfl (fun K hK => ?_) | refine rd [.o 0, .o 1, .o 2, .o 3, .o 4] rfl (by decide +kernel) rfl (fun K hK => ?_) | ((first | refine AWP_exit ?_ | refine AWP_skip ?_); simp (disch := decide) only [qs, qb, if_true, if_false, reduceIte]) | refine AWP_sq rfl (fun K hK => ?_) | refine ct rfl ?_ | ((try simp (disch := omega) only [go_sem, Nat.reduceBEq, Nat.reduceAdd]); (first | apply hK | (clear hK; apply hK) | (clear hK; clear hK; apply hK)); clear hK; (try clear K); (try dsimp only [behind, qs, qb])))
    refine AWP_ret ?_; simp (disch := omega) only [go_sem, Nat.reduceBEq, Nat.reduceAdd]
    exact ⟨_, _, _, _, _, _, _, rfl⟩
end Go.Q
