/-
  Squares: Pow is sharper than Mul and lies inside it. Conditions: the argument is an interval.
-/
import Derived.Test.YtdmecaojlbkclaaGreatDoorK97ade1Vu
import Derived.Test.YtdmecaojlbkclaaGreatDoorK723035Im
import Derived.Test.YtdmecaojlbkclaaGreatDoorKab3dc8Pg
import Derived.Test.YtdmecaojlbkclaaGreatDoorK1d99daPh
set_option linter.unusedVariables false
set_option linter.unusedSimpArgs false
namespace Go.Q
open Go.Proofs
set_option maxRecDepth 100000
set_option maxHeartbeats 8000000
def sqM (p : Int) (x : RI) : Out := x.fin2 x (rnd p x.set x.set (.ok (x.set.prod x.set)))
theorem fin_cases (z : NS) : (z.le 2048 ∧ Out.fin (.ok z) = .ok z) ∨ Out.fin (.ok z) = .error 1 := by
  unfold Out.fin
  by_cases h : z.le 2048
  · exact .inl ⟨h, by simp only [h, decide_true, cond_true]⟩
  · exact .inr (by simp only [h, decide_false, cond_false])
theorem sq_out (x : RI) (p : Int) :
    (∃ e, e ≠ 0 ∧ x.fin (powR 2 p x.set) = .error e ∧ sqM p x = .error e) ∨ (∃ M, x.fin (powR 2 p x.set) = .error 1 ∧ sqM p x = .ok M) ∨ (∃ S, x.fin (powR 2 p x.set) = .ok S ∧ sqM p x = .error 1) ∨
      ∃ S M, x.fin (powR 2 p x.set) = .ok S ∧ sqM p x = .ok M ∧ x.big = false ∧ S.ok ∧ S.le 2048 ∧ M.ok ∧ M.le 2048 ∧ S.within M = true ∧ sqM p x.set.size.ri = .ok S := by
  have ox := RI.set_ok x
  unfold sqM RI.fin RI.fin2
  cases g : x.big with
  | true => exact .inl ⟨1, by decide, rfl, rfl⟩
  | false =>
    have lx := RI.le g
    have ls := NS.le.size (show 1 ≤ 2048 by decide) lx
    have os := NS.ok_size ox
    rw [NS.ri_set os, NS.ri_big ls]
    generalize x.set = s at *
    simp only [Bool.or_self, cond_false]
    unfold powR rnd Out.prec
    have b2 : badn 2 = false := by decide
    rw [b2]
    cases bad p with
    | true => exact .inl ⟨2, by decide, rfl, rfl⟩
    | false =>
      rw [powO_pos (by decide)]
      cases hv : s.void with
      | true =>
        cases s with
        | i a b => cases hv
        | e => exact .inr (.inr (.inr ⟨.e, .e, rfl, rfl, trivial, trivial, rfl, trivial, rfl, rfl, rfl⟩))
      | false =>
        have hvs : s.size.void = false := by
          cases s with
          | e => cases hv
          | i a b => rw [NS.size_i]; (repeat' split) <;> rfl
        rw [hvs]
        show (∃ e, e ≠ 0 ∧ Out.fin (.ok ((s.pow 2).hull p.toNat)) = .error e ∧ Out.fin (.ok ((s.prod s).hull p.toNat)) = .error e) ∨ (∃ M, Out.fin (.ok ((s.pow 2).hull p.toNat)) = .error 1 ∧ Out.fin (.ok ((s.prod s).hull p.toNat)) = .ok M) ∨ (∃ S, Out.fin (.ok ((s.pow 2).hull p.toNat)) = .ok S ∧ Out.fin (.ok ((s.prod s).hull p.toNat)) = .error 1) ∨
          ∃ S M, Out.fin (.ok ((s.pow 2).hull p.toNat)) = .ok S ∧ Out.fin (.ok ((s.prod s).hull p.toNat)) = .ok M ∧ True ∧ S.ok ∧ S.le 2048 ∧ M.ok ∧ M.le 2048 ∧ S.within M = true ∧ Out.fin (.ok ((s.size.prod s.size).hull p.toNat)) = .ok S
        rw [size_sq ox]
        rcases fin_cases ((s.pow 2).hull p.toNat) with ⟨l1, e1⟩ | e1 <;> rcases fin_cases ((s.prod s).hull p.toNat) with ⟨l2, e2⟩ | e2 <;> rw [e1, e2]
        · exact .inr (.inr (.inr ⟨_, _, rfl, rfl, trivial, NS.ok_hull (NS.ok_pow ox), l1, NS.ok_hull (prod_ok lx lx).1, l2, NS.hull_mono (pow2_in ox), rfl⟩))
        · exact .inr (.inr (.inl ⟨_, rfl, rfl⟩))
        · exact .inr (.inl ⟨_, rfl, rfl⟩)
        · exact .inl ⟨1, by decide, rfl, rfl⟩
theorem abs_iv {h : PH} {r : Value} {x : RI} (k : Ir h r (x.fin (.ok x.set.size))) : ∃ b1 a1 m1 c1 a2 m2 c2 b2 a3 m3 c3 a4 m4 c4 l u e y, r = .tuple #[.agg #[.bool b1, .slice a1 m1 c1, .slice a2 m2 c2, .bool b2, .slice a3 m3 c3, .slice a4 m4 c4, .bool l, .bool u], .int .i64 e] ∧
    Iv h (.agg #[.bool b1, .slice a1 m1 c1, .slice a2 m2 c2, .bool b2, .slice a3 m3 c3, .slice a4 m4 c4, .bool l, .bool u]) y ∧ (x.big = false → e = 0 ∧ y = x.set.size.ri) := by
  unfold RI.fin at k
  cases g : x.big with
  | true =>
    rw [g] at k
    obtain rfl := k.ea
    have c : Cv h (.agg #[.bool false, .slice none 0 0, .slice none 0 0, .bool false, .slice none 0 0, .slice none 0 0, .bool false, .bool false]) (.i (some 0) (some 0)) := ⟨_, _, _, _, _, _, rfl, Cn.zero _, Cn.zero _⟩
    exact ⟨_, _, _, _, _, _, _, _, _, _, _, _, _, _, _, _, _, _, rfl, c.iv (by decide), fun k => by cases k⟩
  | false =>
    rw [g] at k
    have ls := NS.le.size (show 1 ≤ 2048 by decide) (RI.le g)
    have k : Ir h r (Out.fin (.ok x.set.size)) := k
    rw [Out.fin_le ls] at k
    obtain ⟨_, _, _, _, _, _, _, _, _, _, _, _, _, _, _, _, rfl, c⟩ := k.oa
    exact ⟨_, _, _, _, _, _, _, _, _, _, _, _, _, _, _, _, _, _, rfl, c.iv ls, fun _ => ⟨rfl, rfl⟩⟩
theorem Squares_law {h0 h : PH} [Le h0 h] {v : Value} {x : RI} {p : Int} (hv : Iv h0 v x) : Spec mach 6 #[v, .int .i64 p] h (fun r _ => r = .bool true) NP := by
  have hv0 := hv
  have kP := fun {h} [Le h0 h] => PowI_spec (h := h) (n := 2) (p := p) hv
  have kM := fun {h} [Le h0 h] => MulI_spec (h := h) (p := p) hv hv
  have kM : ∀ {h} [Le h0 h], Spec mach 13 #[v, v, .int .i64 p] h (fun r h' => Ir h' r (sqM p x)) NP := fun {h} _ => kM
  obtain ⟨a1, m1, c1, a2, m2, c2, a3, m3, c3, a4, m4, c4, rfl, _, _⟩ := hv.sa
  rcases sq_out x p with ⟨e, he, o1, o2⟩ | ⟨M, o1, o2⟩ | ⟨S, o1, o2⟩ | ⟨S, M, o1, o2, g, okS, lS, okM, lM, hin, o3⟩
  rotate_left 3
  · rw [o1] at kP
    rw [o2] at kM
    have fS := Fit.ok okS lS
    refine Spec.enter (args := [_, _]) (n := 74) Tryz.func6 rfl (by kernel_rfl) rfl (by simp) [.tmp 4] rfl (fun C _ => ?_)
    repeat (first | (refine wo rfl (fun k hk => ?_); simp (disch := omega) only [go_sem, Nat.reduceBEq, Nat.reduceAdd]; apply hk; clear hk k) | refine wkt rfl ?_ | refine wk0 ?_ | refine rg rfl rfl (fun K hK => ?_) | ((first | refine AWP_exit ?_ | refine AWP_skip ?_); simp (disch := decide) only [qs, qb, if_true, if_false, reduceIte]) | refine AWP_sq rfl (fun K hK => ?_) | refine ct rfl ?_ | ((try simp (disch := omega) only [go_sem, Nat.reduceBEq, Nat.reduceAdd]); (first | apply hK | (clear hK; apply hK) | (clear hK; clear hK; apply hK)); clear hK; (try clear K); (try dsimp only [behind, qs, qb])))
    refine cN rfl rfl rfl rfl (by exact kP) ?_; rintro w1 g1 s1 q1; obtain ⟨_, _, _, _, _, _, _, _, _, _, _, _, _, _, _, _, rfl, q1c⟩ := q1.oa
    repeat (first | (refine wo rfl (fun k hk => ?_); simp (disch := omega) only [go_sem, Nat.reduceBEq, Nat.reduceAdd]; apply hk; clear hk k) | refine wkt rfl ?_ | refine wk0 ?_ | refine rg rfl rfl (fun K hK => ?_) | ((first | refine AWP_exit ?_ | refine AWP_skip ?_); simp (disch := decide) only [qs, qb, if_true, if_false, reduceIte]) | refine AWP_sq rfl (fun K hK => ?_) | refine ct rfl ?_ | ((try simp (disch := omega) only [go_sem, Nat.reduceBEq, Nat.reduceAdd]); (first | apply hK | (clear hK; apply hK) | (clear hK; clear hK; apply hK)); clear hK; (try clear K); (try dsimp only [behind, qs, qb])))
    refine cN rfl rfl rfl rfl (by exact kM) ?_; rintro w2 g2 s2 q2; obtain ⟨_, _, _, _, _, _, _, _, _, _, _, _, _, _, _, _, rfl, q2c⟩ := q2.oa
    repeat (first | (refine wo rfl (fun k hk => ?_); simp (disch := omega) only [go_sem, Nat.reduceBEq, Nat.reduceAdd]; apply hk; clear hk k) | refine wkt rfl ?_ | refine wk0 ?_ | refine rg rfl rfl (fun K hK => ?_) | ((first | refine AWP_exit ?_ | refine AWP_skip ?_); simp (disch := decide) only [qs, qb, if_true, if_false, reduceIte]) | refine AWP_sq rfl (fun K hK => ?_) | refine ct rfl ?_ | ((try simp (disch := omega) only [go_sem, Nat.reduceBEq, Nat.reduceAdd]); (first | apply hK | (clear hK; apply hK) | (clear hK; clear hK; apply hK)); clear hK; (try clear K); (try dsimp only [behind, qs, qb])))
    refine cN rfl rfl rfl rfl (by exact Abs_spec (hv0.to (h' := g2))) ?_; rintro w3 g3 s3 q3; obtain ⟨_, _, _, _, _, _, _, _, _, _, _, _, _, _, _, _, _, y, rfl, q3i, q3e⟩ := abs_iv q3; (repeat (first | (refine wo rfl (fun k hk => ?_); simp (disch := omega) only [go_sem, Nat.reduceBEq, Nat.reduceAdd]; apply hk; clear hk k) | refine wkt rfl ?_)); (try refine wk0 ?_)
    obtain ⟨rfl, rfl⟩ := q3e g
    repeat (first | (refine wo rfl (fun k hk => ?_); simp (disch := omega) only [go_sem, Nat.reduceBEq, Nat.reduceAdd]; apply hk; clear hk k) | refine wkt rfl ?_ | refine wk0 ?_ | ((first | refine rg rfl rfl (fun K hK => ?_)); (repeat (first | (refine wo rfl (fun k hk => ?_); simp (disch := omega) only [go_sem, Nat.reduceBEq, Nat.reduceAdd]; apply hk; clear hk k) | refine wkt rfl ?_ | refine wk0 ?_)); (first | apply hK | (clear hK; apply hK) | (clear hK; clear hK; apply hK)); clear hK; (try clear K); (try dsimp only [behind, qs, qb])) | ((first | refine AWP_exit ?_ | refine AWP_skip ?_); simp (disch := decide) only [qs, qb, if_true, if_false, reduceIte]) | refine AWP_sq rfl (fun K hK => ?_) | refine ct rfl ?_ | ((try simp (disch := omega) only [go_sem, Nat.reduceBEq, Nat.reduceAdd]); (first | apply hK | (clear hK; apply hK) | (clear hK; clear hK; apply hK)); clear hK; (try clear K); (try dsimp only [behind, qs, qb])))
    have kT := fun {h} [Le g3 h] => MulI_spec (h := h) (p := p) q3i q3i
    rw [show x.set.size.ri.fin2 x.set.size.ri (rnd p x.set.size.ri.set x.set.size.ri.set (.ok (x.set.size.ri.set.prod x.set.size.ri.set))) = .ok S from o3] at kT
    refine rg rfl rfl (fun K hK => ?_); (repeat (first | (refine wo rfl (fun k hk => ?_); simp (disch := omega) only [go_sem, Nat.reduceBEq, Nat.reduceAdd]; apply hk; clear hk k) | refine wkt rfl ?_)); (try refine wk0 ?_)
    refine cN rfl rfl rfl rfl (by exact kT) ?_; rintro w4 g4 s4 q4; obtain ⟨_, _, _, _, _, _, _, _, _, _, _, _, _, _, _, _, rfl, q4c⟩ := q4.oa
    repeat (first | (refine wo rfl (fun k hk => ?_); simp (disch := omega) only [go_sem, Nat.reduceBEq, Nat.reduceAdd]; apply hk; clear hk k) | refine wkt rfl ?_ | refine wk0 ?_ | ((first | refine rg rfl rfl (fun K hK => ?_)); (repeat (first | (refine wo rfl (fun k hk => ?_); simp (disch := omega) only [go_sem, Nat.reduceBEq, Nat.reduceAdd]; apply hk; clear hk k) | refine wkt rfl ?_ | refine wk0 ?_)); (first | apply hK | (clear hK; apply hK) | (clear hK; clear hK; apply hK)); clear hK; (try clear K); (try dsimp only [behind, qs, qb])) | ((first | refine AWP_exit ?_ | refine AWP_skip ?_); simp (disch := decide) only [qs, qb, if_true, if_false, reduceIte]) | refine AWP_sq rfl (fun K hK => ?_) | refine ct rfl ?_ | ((try simp (disch := omega) only [go_sem, Nat.reduceBEq, Nat.reduceAdd]); (first | apply hK | (clear hK; apply hK) | (clear hK; clear hK; apply hK)); clear hK; (try clear K); (try dsimp only [behind, qs, qb])))
    have kI := fun {h} [Le g4 h] => inside_law (h := h) ((q1c.to (h' := g4)).iv lS) ((q2c.to (h' := g4)).iv lM) (NS.ri_big lS) (NS.ri_big lM)
    rw [NS.ri_set okS, NS.ri_set okM, hin] at kI
    refine rg rfl rfl (fun K hK => ?_); (repeat (first | (refine wo rfl (fun k hk => ?_); simp (disch := omega) only [go_sem, Nat.reduceBEq, Nat.reduceAdd]; apply hk; clear hk k) | refine wkt rfl ?_)); (try refine wk0 ?_)
    refine cN rfl rfl rfl rfl (by exact kI) ?_; rintro w5 g5 s5 rfl; (repeat (first | (refine wo rfl (fun k hk => ?_); simp (disch := omega) only [go_sem, Nat.reduceBEq, Nat.reduceAdd]; apply hk; clear hk k) | refine wkt rfl ?_)); (try refine wk0 ?_)
    refine cN rfl rfl rfl rfl (by exact Is_spec (h := g5) rfl rfl (q4c.to (h' := g5)).ir (q1c.to (h' := g5)).ir fS.1 fS.2) ?_; rintro w6 g6 s6 rfl; (repeat (first | (refine wo rfl (fun k hk => ?_); simp (disch := omega) only [go_sem, Nat.reduceBEq, Nat.reduceAdd]; apply hk; clear hk k) | refine wkt rfl ?_)); (try refine wk0 ?_)
    refine cN rfl rfl rfl rfl (by exact awake_spec) ?_; rintro w7 g7 s7 rfl
    repeat (first | (refine wo rfl (fun k hk => ?_); simp (disch := omega) only [go_sem, Nat.reduceBEq, Nat.reduceAdd]; apply hk; clear hk k) | refine wkt rfl ?_ | refine wk0 ?_ | refine rg rfl rfl (fun K hK => ?_) | ((first | refine AWP_exit ?_ | refine AWP_skip ?_); simp (disch := decide) only [qs, qb, if_true, if_false, reduceIte]) | refine AWP_sq rfl (fun K hK => ?_) | refine ct rfl ?_ | ((try simp (disch := omega) only [go_sem, Nat.reduceBEq, Nat.reduceAdd]); (first | apply hK | (clear hK; apply hK) | (clear hK; clear hK; apply hK)); clear hK; (try clear K); (try dsimp only [behind, qs, qb])))
    refine AWP_ret ?_; simp (disch := omega) only [go_sem, Nat.reduceBEq, Nat.reduceAdd]
  all_goals
    rw [o1] at kP
    rw [o2] at kM
    refine Spec.enter (args := [_, _]) (n := 74) Tryz.func6 rfl (by kernel_rfl) rfl (by simp) [.tmp 4] rfl (fun C _ => ?_)
    repeat (first | (refine wo rfl (fun k hk => ?_); simp (disch := omega) only [go_sem, Nat.reduceBEq, Nat.reduceAdd]; apply hk; clear hk k) | refine wkt rfl ?_ | refine wk0 ?_ | refine rg rfl rfl (fun K hK => ?_) | ((first | refine AWP_exit ?_ | refine AWP_skip ?_); simp (disch := decide) only [qs, qb, if_true, if_false, reduceIte]) | refine AWP_sq rfl (fun K hK => ?_) | refine ct rfl ?_ | ((try simp (disch := omega) only [go_sem, Nat.reduceBEq, Nat.reduceAdd]); (first | apply hK | (clear hK; apply hK) | (clear hK; clear hK; apply hK)); clear hK; (try clear K); (try dsimp only [behind, qs, qb])))
    refine cN rfl rfl rfl rfl (by exact kP) ?_; rintro w1 g1 s1 q1; first | (obtain rfl := q1.ea) | (obtain ⟨_, _, _, _, _, _, _, _, _, _, _, _, _, _, _, _, rfl, q1c⟩ := q1.oa)
    repeat (first | (refine wo rfl (fun k hk => ?_); simp (disch := omega) only [go_sem, Nat.reduceBEq, Nat.reduceAdd]; apply hk; clear hk k) | refine wkt rfl ?_ | refine wk0 ?_ | refine rg rfl rfl (fun K hK => ?_) | ((first | refine AWP_exit ?_ | refine AWP_skip ?_); simp (disch := decide) only [qs, qb, if_true, if_false, reduceIte]) | refine AWP_sq rfl (fun K hK => ?_) | refine ct rfl ?_ | ((try simp (disch := omega) only [go_sem, Nat.reduceBEq, Nat.reduceAdd]); (first | apply hK | (clear hK; apply hK) | (clear hK; clear hK; apply hK)); clear hK; (try clear K); (try dsimp only [behind, qs, qb])))
    refine cN rfl rfl rfl rfl (by exact kM) ?_; rintro w2 g2 s2 q2; first | (obtain rfl := q2.ea) | (obtain ⟨_, _, _, _, _, _, _, _, _, _, _, _, _, _, _, _, rfl, q2c⟩ := q2.oa)
    repeat (first | (refine wo rfl (fun k hk => ?_); simp (disch := omega) only [go_sem, Nat.reduceBEq, Nat.reduceAdd]; apply hk; clear hk k) | refine wkt rfl ?_ | refine wk0 ?_ | refine rg rfl rfl (fun K hK => ?_) | ((first | refine AWP_exit ?_ | refine AWP_skip ?_); simp (disch := decide) only [qs, qb, if_true, if_false, reduceIte]) | refine AWP_sq rfl (fun K hK => ?_) | refine ct rfl ?_ | ((try simp (disch := omega) only [go_sem, Nat.reduceBEq, Nat.reduceAdd]); (first | apply hK | (clear hK; apply hK) | (clear hK; clear hK; apply hK)); clear hK; (try clear K); (try dsimp only [behind, qs, qb])))
    refine cN rfl rfl rfl rfl (by exact Abs_spec (hv0.to (h' := g2))) ?_; rintro w3 g3 s3 q3; obtain ⟨_, _, _, _, _, _, _, _, _, _, _, _, _, _, _, _, _, y, rfl, q3i, q3e⟩ := abs_iv q3
    repeat (first | (refine wo rfl (fun k hk => ?_); simp (disch := omega) only [go_sem, Nat.reduceBEq, Nat.reduceAdd]; apply hk; clear hk k) | refine wkt rfl ?_ | refine wk0 ?_ | refine rg rfl rfl (fun K hK => ?_) | ((first | refine AWP_exit ?_ | refine AWP_skip ?_); simp (disch := decide) only [qs, qb, if_true, if_false, reduceIte]) | refine AWP_sq rfl (fun K hK => ?_) | refine ct rfl ?_ | ((try simp (disch := omega) only [go_sem, Nat.reduceBEq, Nat.reduceAdd]); (first | apply hK | (clear hK; apply hK) | (clear hK; clear hK; apply hK)); clear hK; (try clear K); (try dsimp only [behind, qs, qb])))
    refine cN rfl rfl rfl rfl (by exact MulI_spec (p := p) q3i q3i) ?_; rintro w4 g4 st_g4 q4; obtain ⟨w4_0, w4_1, w4_2, w4_3, w4_4, w4_5, w4_6, w4_7, w4_8, w4_9, w4_10, w4_11, w4_12, w4_13, w4_14, w4_15, w4_16, rfl, q4⟩ := q4.sa
    repeat (first | (refine wo rfl (fun k hk => ?_); simp (disch := omega) only [go_sem, Nat.reduceBEq, Nat.reduceAdd]; apply hk; clear hk k) | refine wkt rfl ?_ | refine wk0 ?_ | refine rg rfl rfl (fun K hK => ?_) | ((first | refine AWP_exit ?_ | refine AWP_skip ?_); simp (disch := decide) only [qs, qb, if_true, if_false, reduceIte]) | refine AWP_sq rfl (fun K hK => ?_) | refine ct rfl ?_ | ((try simp (disch := omega) only [go_sem, Nat.reduceBEq, Nat.reduceAdd]); (first | apply hK | (clear hK; apply hK) | (clear hK; clear hK; apply hK)); clear hK; (try clear K); (try dsimp only [behind, qs, qb])))
    refine cN rfl rfl rfl rfl (by exact awake_spec) ?_; rintro w5 g5 s5 rfl
    repeat (first | (refine wo rfl (fun k hk => ?_); simp (disch := omega) only [go_sem, Nat.reduceBEq, Nat.reduceAdd]; apply hk; clear hk k) | refine wkt rfl ?_ | refine wk0 ?_ | refine rg rfl rfl (fun K hK => ?_) | ((first | refine AWP_exit ?_ | refine AWP_skip ?_); simp (disch := decide) only [qs, qb, if_true, if_false, reduceIte]) | refine AWP_sq rfl (fun K hK => ?_) | refine ct rfl ?_ | ((try simp (disch := omega) only [go_sem, Nat.reduceBEq, Nat.reduceAdd]); (first | apply hK | (clear hK; apply hK) | (clear hK; clear hK; apply hK)); clear hK; (try clear K); (try dsimp only [behind, qs, qb])))
    refine AWP_ret ?_; simp (disch := omega) only [go_sem, Nat.reduceBEq, Nat.reduceAdd]
end Go.Q
