/-
  The statements' sanity check; what Round returns. Conditions: the argument is an interval.
-/
import Derived.Test.YtdmecaojlbkclaaGreatDoorK7533e9Sc
import Derived.Test.YtdmecaojlbkclaaGreatDoorK22bd1dBunP
set_option linter.unusedVariables false
set_option linter.unusedSimpArgs false
namespace Go.Q
open Go.Proofs
set_option maxRecDepth 100000
set_option maxHeartbeats 4000000
theorem gdown_int (n : Int) (p : Nat) : gdown (n : Rat) 0 = n := by
  unfold gdown
  rw [show (2 : Rat) ^ 0 = 1 by rfl, Rat.mul_one, Rat.floor_intCast]
  grind
theorem gup_int (n : Int) (p : Nat) : gup (n : Rat) 0 = n := by
  unfold gup
  rw [show (2 : Rat) ^ 0 = 1 by rfl, Rat.mul_one, Rat.ceil_intCast]
  grind
theorem awake_out : RI.fin2 (NS.i (some 1) (some 2)).ri (NS.i (some 3) (some 4)).ri (rnd 0 (NS.i (some 1) (some 2)).ri.set (NS.i (some 3) (some 4)).ri.set (.ok ((NS.i (some 1) (some 2)).ri.set.sum (NS.i (some 3) (some 4)).ri.set))) = .ok (.i (some 4) (some 6)) := by
  have l1 : (NS.i (some 1) (some 2)).le 2048 := by decide
  have l2 : (NS.i (some 3) (some 4)).le 2048 := by decide
  have o1 : (NS.i (some 1) (some 2)).ok := by unfold NS.ok ordO; decide
  have o2 : (NS.i (some 3) (some 4)).ok := by unfold NS.ok ordO; decide
  rw [NS.ri_set o1, NS.ri_set o2]
  unfold RI.fin2 rnd Out.prec
  rw [NS.ri_big l1, NS.ri_big l2]
  have e0 : (1 : Rat) + 3 = 4 := by grind
  have e0' : (2 : Rat) + 4 = 6 := by grind
  have e1 : gdown (1 + 3) 0 = 4 := by
    have := gdown_int 4 0
    rw [e0]; simpa using this
  have e2 : gup (2 + 4) 0 = 6 := by
    have := gup_int 6 0
    rw [e0']; simpa using this
  have e3 : decide (NS.le 2048 (NS.i (some 4) (some 6))) = true := by decide
  simp [NS.sum, oadd, NS.void, bad, NS.hull, Out.fin, e1, e2, e3]
theorem digit_one {h : PH} {a : Option Addr} {m c n : Nat} (r : N32 h (.slice a m c) n) (h0 : n ≠ 0) (h1 : n < 4294967296) : m = 1 ∧ ∃ ad, a = some ad ∧ h.at ad = some (.int .u32 n) := by
  have hW : W 4294967296 n = [n] := by
    rw [W_pos (by decide) h0, Nat.mod_eq_of_lt h1, Nat.div_eq_of_lt h1, W_zero]
  obtain ⟨a', c', e, A⟩ := r
  rw [hW] at e A
  simp only [Value.slice.injEq, List.length_cons, List.length_nil] at e
  obtain ⟨rfl, rfl, rfl⟩ := e
  obtain ⟨ad, e1, e2⟩ := A.at_ 0 n rfl
  refine ⟨rfl, ad, e1, ?_⟩
  simpa [Addr.add] using e2
theorem digit_none {h : PH} {a : Option Addr} {m c : Nat} (r : N32 h (.slice a m c) 0) : m = 0 := by
  obtain ⟨a', c', e, A⟩ := r
  rw [W_zero] at e
  simp only [Value.slice.injEq, List.length_nil] at e
  exact e.2.1
theorem awake_spec {h : PH} : Spec mach 10 #[] h (fun r _ => r = .bool true) NP := by
  refine Spec.enter (args := []) (n := 74) Tryz.func10 rfl (by kernel_rfl) rfl (by simp) [.tmp 0] rfl (fun C _ => ?_)
  repeat (first | (refine wo rfl (fun k hk => ?_); simp (disch := omega) only [go_sem, Nat.reduceBEq, Nat.reduceAdd]; refine hk _ _ ?_; clear hk k) | refine wkt rfl ?_ | refine wk0 ?_ | refine rg rfl rfl (fun K hK => ?_) | ((first | refine AWP_exit ?_ | refine AWP_skip ?_); simp (disch := decide) only [qs, qb, if_true, if_false, reduceIte]) | refine AWP_sq rfl (fun K hK => ?_) | refine ct rfl ?_ | ((try simp (disch := omega) only [go_sem, Nat.reduceBEq, Nat.reduceAdd]); (first | apply hK | (clear hK; apply hK) | (clear hK; clear hK; apply hK)); clear hK; (try clear K); (try dsimp only [behind, qs, qb])))
  refine cN rfl rfl rfl rfl (by exact QInt_spec (n := 1) (by decide) (by decide)) ?_; rintro v1 h1 _ f1; obtain ⟨v1_0, v1_1, v1_2, v1_3, v1_4, v1_5, v1_6, rfl, f1⟩ := f1.sa; (repeat (first | (refine wo rfl (fun k hk => ?_); simp (disch := omega) only [go_sem, Nat.reduceBEq, Nat.reduceAdd]; refine hk _ _ ?_; clear hk k) | refine wkt rfl ?_)); (try refine wk0 ?_)
  refine cN rfl rfl rfl rfl (by exact QRat_spec f1 (by decide)) ?_; rintro v2 h2 _ f2; obtain ⟨v2_0, v2_1, v2_2, v2_3, v2_4, v2_5, v2_6, rfl, f2⟩ := f2.sa; (repeat (first | (refine wo rfl (fun k hk => ?_); simp (disch := omega) only [go_sem, Nat.reduceBEq, Nat.reduceAdd]; refine hk _ _ ?_; clear hk k) | refine wkt rfl ?_)); (try refine wk0 ?_)
  refine cN rfl rfl rfl rfl (by exact QInt_spec (n := 2) (by decide) (by decide)) ?_; rintro v3 h3 _ f3; obtain ⟨v3_0, v3_1, v3_2, v3_3, v3_4, v3_5, v3_6, rfl, f3⟩ := f3.sa; (repeat (first | (refine wo rfl (fun k hk => ?_); simp (disch := omega) only [go_sem, Nat.reduceBEq, Nat.reduceAdd]; refine hk _ _ ?_; clear hk k) | refine wkt rfl ?_)); (try refine wk0 ?_)
  refine cN rfl rfl rfl rfl (by exact QRat_spec f3 (by decide)) ?_; rintro v4 h4 _ f4; obtain ⟨v4_0, v4_1, v4_2, v4_3, v4_4, v4_5, v4_6, rfl, f4⟩ := f4.sa; (repeat (first | (refine wo rfl (fun k hk => ?_); simp (disch := omega) only [go_sem, Nat.reduceBEq, Nat.reduceAdd]; refine hk _ _ ?_; clear hk k) | refine wkt rfl ?_)); (try refine wk0 ?_)
  refine cN rfl rfl rfl rfl (by exact QInt_spec (n := 3) (by decide) (by decide)) ?_; rintro v5 h5 _ f5; obtain ⟨v5_0, v5_1, v5_2, v5_3, v5_4, v5_5, v5_6, rfl, f5⟩ := f5.sa; (repeat (first | (refine wo rfl (fun k hk => ?_); simp (disch := omega) only [go_sem, Nat.reduceBEq, Nat.reduceAdd]; refine hk _ _ ?_; clear hk k) | refine wkt rfl ?_)); (try refine wk0 ?_)
  refine cN rfl rfl rfl rfl (by exact QRat_spec f5 (by decide)) ?_; rintro v6 h6 _ f6; obtain ⟨v6_0, v6_1, v6_2, v6_3, v6_4, v6_5, v6_6, rfl, f6⟩ := f6.sa; (repeat (first | (refine wo rfl (fun k hk => ?_); simp (disch := omega) only [go_sem, Nat.reduceBEq, Nat.reduceAdd]; refine hk _ _ ?_; clear hk k) | refine wkt rfl ?_)); (try refine wk0 ?_)
  refine cN rfl rfl rfl rfl (by exact QInt_spec (n := 4) (by decide) (by decide)) ?_; rintro v7 h7 _ f7; obtain ⟨v7_0, v7_1, v7_2, v7_3, v7_4, v7_5, v7_6, rfl, f7⟩ := f7.sa; (repeat (first | (refine wo rfl (fun k hk => ?_); simp (disch := omega) only [go_sem, Nat.reduceBEq, Nat.reduceAdd]; refine hk _ _ ?_; clear hk k) | refine wkt rfl ?_)); (try refine wk0 ?_)
  refine cN rfl rfl rfl rfl (by exact QRat_spec f7 (by decide)) ?_; rintro v8 h8 _ f8; obtain ⟨v8_0, v8_1, v8_2, v8_3, v8_4, v8_5, v8_6, rfl, f8⟩ := f8.sa; (repeat (first | (refine wo rfl (fun k hk => ?_); simp (disch := omega) only [go_sem, Nat.reduceBEq, Nat.reduceAdd]; refine hk _ _ ?_; clear hk k) | refine wkt rfl ?_)); (try refine wk0 ?_)
  (try (simp (disch := omega) only [go_sem, Nat.reduceBEq, Nat.reduceAdd])); refine hK _ _ ?_; clear hK; (try clear K); (try dsimp only [behind, qs])
  refine rg rfl rfl (fun K hK => ?_); (repeat (first | (refine wo rfl (fun k hk => ?_); simp (disch := omega) only [go_sem, Nat.reduceBEq, Nat.reduceAdd]; refine hk _ _ ?_; clear hk k) | refine wkt rfl ?_)); (try refine wk0 ?_)
  have c1 : Cv h8 (.agg #[.bool v2_0, .slice v2_1 v2_2 v2_3, .slice v2_4 v2_5 v2_6, .bool v4_0, .slice v4_1 v4_2 v4_3, .slice v4_4 v4_5 v4_6, .bool false, .bool false]) (.i (some 1) (some 2)) := ⟨_, _, _, _, _, _, rfl, by simpa using f2.to (h' := h8), by simpa using f4.to (h' := h8)⟩
  have c2 : Cv h8 (.agg #[.bool v6_0, .slice v6_1 v6_2 v6_3, .slice v6_4 v6_5 v6_6, .bool v8_0, .slice v8_1 v8_2 v8_3, .slice v8_4 v8_5 v8_6, .bool false, .bool false]) (.i (some 3) (some 4)) := ⟨_, _, _, _, _, _, rfl, by simpa using f6.to (h' := h8), by simpa using f8⟩
  have kA := AddI_spec (h := h8) (p := 0) (c1.iv (by decide)) (c2.iv (by decide))
  rw [awake_out] at kA
  refine cN rfl rfl rfl rfl (by exact kA) ?_; rintro r h9 st9 r9; obtain ⟨u, rfl, c9⟩ := r9; obtain ⟨d1, w1, w2, w3, w4, w5, w6, d2, w7, w8, w9, w10, w11, w12, rfl, p1, p2⟩ := c9.fl; (repeat (first | (refine wo rfl (fun k hk => ?_); simp (disch := omega) only [go_sem, Nat.reduceBEq, Nat.reduceAdd]; refine hk _ _ ?_; clear hk k) | refine wkt rfl ?_)); (try refine wk0 ?_)
  have p1 : Cn h9 _ 4 := p1
  have p2 : Cn h9 _ 6 := p2
  obtain ⟨sn, sd, e1, n1, n2⟩ := p1
  obtain ⟨sn', sd', e2, n3, n4⟩ := p2
  simp only [Value.agg.injEq, Array.mk.injEq, List.cons.injEq, and_true] at e1 e2
  obtain ⟨_, rfl, rfl⟩ := e1
  obtain ⟨_, rfl, rfl⟩ := e2
  obtain ⟨rfl, ad, rfl, t1⟩ := digit_one (n := 4) n1 (by decide) (by decide)
  obtain ⟨rfl, ad', rfl, t2⟩ := digit_one (n := 6) n3 (by decide) (by decide)
  have := digit_none (by simpa using n4)
  subst this
  (try (simp (disch := omega) only [go_sem, Nat.reduceBEq, Nat.reduceAdd])); refine hK _ _ ?_; clear hK; (try clear K); (try dsimp only [behind, qs])
  refine rg rfl rfl (fun K hK => ?_); (repeat (first | (refine wo rfl (fun k hk => ?_); simp (disch := omega) only [go_sem, Nat.reduceBEq, Nat.reduceAdd]; refine hk _ _ ?_; clear hk k) | refine wkt rfl ?_)); (try refine wk0 ?_)
  refine wo rfl (fun k hk => ?_); simp (disch := omega) only [go_sem, Nat.reduceBEq, Nat.reduceAdd]; refine ⟨_, t1, ?_⟩; refine hk _ _ ?_; clear hk k; (repeat (first | (refine wo rfl (fun k hk => ?_); simp (disch := omega) only [go_sem, Nat.reduceBEq, Nat.reduceAdd]; refine hk _ _ ?_; clear hk k) | refine wkt rfl ?_)); (try refine wk0 ?_)
  refine wo rfl (fun k hk => ?_); simp (disch := omega) only [go_sem, Nat.reduceBEq, Nat.reduceAdd]; refine ⟨_, t2, ?_⟩; refine hk _ _ ?_; clear hk k; (repeat (first | (refine wo rfl (fun k hk => ?_); simp (disch := omega) only [go_sem, Nat.reduceBEq, Nat.reduceAdd]; refine hk _ _ ?_; clear hk k) | refine wkt rfl ?_)); (try refine wk0 ?_)
  (try (simp (disch := omega) only [go_sem, Nat.reduceBEq, Nat.reduceAdd])); refine hK _ _ ?_; clear hK; (try clear K); (try dsimp only [behind, qs])
  refine AWP_ret ?_; simp (disch := omega) only [go_sem, Nat.reduceBEq, Nat.reduceAdd]
  exact rfl
def Fit (o : Out) : Prop := (∀ x, o = .ok x → x.ok ∧ x.le 2048) ∧ ∀ e, o = .error e → e ≠ 0
theorem Fit.fin {o : Out} (h1 : ∀ x, o = .ok x → x.ok) (h2 : ∀ e, o = .error e → e ≠ 0) : Fit o.fin := by
  cases o with
  | error e => exact ⟨fun x k => (by cases k), fun e' k => h2 e' k⟩
  | ok z =>
    unfold Out.fin
    by_cases hz : z.le 2048
    · simp only [hz, decide_true, cond_true]
      exact ⟨fun x k => by cases k; exact ⟨h1 _ rfl, hz⟩, fun e k => (by cases k)⟩
    · simp only [hz, decide_false, cond_false]
      exact ⟨fun x k => (by cases k), fun e k => by cases k; decide⟩
theorem Fit.err {e : Int} (h : e ≠ 0) : Fit (.error e) := ⟨fun x k => (by cases k), fun e' k => by cases k; exact h⟩
theorem Fit.prec {p : Int} {z : NS} (hz : z.ok) : Fit (Out.fin (Out.prec p (.ok z))) := by
  unfold Out.prec
  cases bad p with
  | true => exact .err (by decide)
  | false => exact Fit.fin (fun x k => by cases k; exact hz) (fun e k => (by cases k))
theorem Fit.of {z : NS} (hz : z.ok) : Fit (Out.fin (.ok z)) := Fit.fin (fun x k => by cases k; exact hz) (fun e k => (by cases k))
end Go.Q
