/-
  Contracts of the reference's rational numbers: roots on a grid. Conditions: the values are rational numbers (Qr), of at most 2048 binary digits, the index from 2 to 8, the precision at most 256.
-/
import Derived.Test.YtdmecaojlbkclaaGreatDoorK25605eRh
import Derived.Test.YtdmecaojlbkclaaGreatDoorK4787adQh
import Derived.Test.YtdmecaojlbkclaaGreatDoorRaBunL
import Derived.Test.YtdmecaojlbkclaaGreatDoorKe4cf45Pv
set_option linter.unusedVariables false
set_option linter.unusedSimpArgs false
namespace Go.Q
open Go.Proofs
set_option maxRecDepth 100000
set_option maxHeartbeats 8000000
theorem sgn_one (m p : Nat) : sgn false m 1 / 2 ^ p = sgn false m (2 ^ p) := by
  have e1 : sgn false m 1 = ((m : Int) : Rat) := by
    show mkRat (m : Int) 1 = _
    rw [Rat.mkRat_eq_div, show ((1 : Nat) : Rat) = 1 from rfl, Rat.div_def, inv_one, Rat.mul_one]
  rw [e1]
  show _ = mkRat (m : Int) (2 ^ p)
  rw [mkRat_two]
theorem QBelow_pos {h0 h : PH} [Le h0 h] {v : Value} {x : Rat} {n p : Nat} (hx : Qr h0 v x) (bx : sz x ≤ 2048) (hn : 2 ≤ n) (hn8 : n ≤ 8) (hp : p ≤ 256) (h0' : 0 ≤ x) : Spec mach 32 #[v, .int .i64 n, .int .i64 p] h (fun v h' => Qr h' v (rootg false x n p)) NP := by
  have hx0 := hx
  have kD := fun {h} [Le h0 h] => den_spec (h := h) hx0
  have en := dec_pos h0'
  obtain ⟨na, nl, nc, da, dl, dc, e, rfl, hn1, hd1, he⟩ := hx.sl
  have b1 := sz_num x
  have b2 := sz_den x
  have hpn : n * p ≤ 2048 := Nat.mul_le_mul hn8 hp
  have b3 := bl_shl x.num.natAbs (n * p)
  have bw := rtw_bl (p := p) bx hn
  have bw' : n * (1024 + p) ≤ 8 * 1280 := Nat.mul_le_mul hn8 (by omega)
  have bi := irt_bl (n := n) (by omega) bw
  have b0 := bl_one
  have hw0 : x.num.natAbs * 2 ^ (n * p) / x.den = rtw x n p := by rw [Nat.mul_comm n p]; rfl
  have hdn := x.den_nz
  have e1 : rootg false x n p = sgn false (irt n (rtw x n p)) (2 ^ p) := rootg_dn h0' n p
  have b4 : bl (x.num.natAbs * 2 ^ (n * p)) ≤ 8192 := by omega
  generalize hk : n * p = k at *
  have kS := fun {h1 h : PH} [Le h1 h] {v : Value} (y : N16 h1 v x.num.natAbs) => NatShl_spec (h := h) (n := k) y (by omega)
  have kD' := fun {h1 h : PH} [Le h1 h] {v w : Value} (y : N16 h1 v (x.num.natAbs * 2 ^ k)) (l : N16 h1 w x.den) => NatDiv_spec (h := h) y l hdn (by omega) (by omega)
  rw [hw0] at kD'
  have hsz : sz (sgn false (irt n (rtw x n p)) 1) ≤ 2 ^ 34 := Nat.le_trans (sz_sgn false _ (d := 1) (by decide)) (by omega)
  have hbw : bl (rtw x n p) ≤ 2 ^ 20 := by omega
  have hi1 : bl (irt n (rtw x n p)) ≤ 2 ^ 38 := by omega
  have hk2 : k ≤ 2048 := hpn
  clear b1 b2 b3 b4 bw bw' bi hpn hw0
  rw [en] at *
  refine Spec.enter (args := [_, _, _]) (n := 37) Tryz.func32 rfl (by kernel_rfl) rfl (by simp) [.cell 6 56] rfl (fun C _ => ?_)
  repeat (first | (refine wo rfl (fun k hk => ?_); simp (disch := omega) only [go_sem, Nat.reduceBEq, Nat.reduceAdd]; refine hk _ _ ?_; clear hk k) | refine wkt rfl ?_ | refine wk0 ?_ | refine rg rfl rfl (fun K hK => ?_) | refine rd [.o 0, .o 1, .o 2, .o 3, .o 4, .o 6, .o 5, .o 7, .o 8, .o 9, .o 10, .o 11, .o 12, .o 13] rfl (by decide +kernel) rfl (fun K hK => ?_) | ((first | refine AWP_exit ?_ | refine AWP_skip ?_); simp (disch := decide) only [qs, qb, if_true, if_false, reduceIte]) | refine AWP_sq rfl (fun K hK => ?_) | refine ct rfl ?_ | ((try simp (disch := omega) only [go_sem, Nat.reduceBEq, Nat.reduceAdd]); (first | apply hK | (clear hK; apply hK) | (clear hK; clear hK; apply hK)); clear hK; (try clear K); (try dsimp only [behind, qs, qb])))
  rw [hk]
  refine cN rfl rfl rfl rfl (by exact kS hn1) ?_; rintro v1 h1 _ q1; obtain ⟨v1, v1_l, v1_c, rfl, q1⟩ := q1.sl; (repeat (first | (refine wo rfl (fun k hk => ?_); simp (disch := omega) only [go_sem, Nat.reduceBEq, Nat.reduceAdd]; refine hk _ _ ?_; clear hk k) | refine wkt rfl ?_)); (try refine wk0 ?_)
  refine cN rfl rfl rfl rfl (by exact kD) ?_; rintro v2 h2 _ q2; obtain ⟨v2, v2_l, v2_c, rfl, q2⟩ := q2.sl; (repeat (first | (refine wo rfl (fun k hk => ?_); simp (disch := omega) only [go_sem, Nat.reduceBEq, Nat.reduceAdd]; refine hk _ _ ?_; clear hk k) | refine wkt rfl ?_)); (try refine wk0 ?_)
  refine cN rfl rfl rfl rfl (by exact kD' (q1.to (h' := h2)) q2) ?_; rintro w3 g3 s3 ⟨q, r, rfl, hq, hr⟩; (repeat (first | (refine wo rfl (fun k hk => ?_); simp (disch := omega) only [go_sem, Nat.reduceBEq, Nat.reduceAdd]; refine hk _ _ ?_; clear hk k) | refine wkt rfl ?_)); (try refine wk0 ?_)
  (repeat (first | (refine wo rfl (fun k hk => ?_); simp (disch := omega) only [go_sem, Nat.reduceBEq, Nat.reduceAdd]; refine hk _ _ ?_; clear hk k) | refine wkt rfl ?_)); (try refine wk0 ?_)
  repeat (first | (refine wo rfl (fun k hk => ?_); simp (disch := omega) only [go_sem, Nat.reduceBEq, Nat.reduceAdd]; refine hk _ _ ?_; clear hk k) | refine wkt rfl ?_ | refine wk0 ?_ | refine rg rfl rfl (fun K hK => ?_) | refine rd [.o 0, .o 1, .o 2, .o 3, .o 4, .o 6, .o 5, .o 7, .o 8, .o 9, .o 10, .o 11, .o 12, .o 13] rfl (by decide +kernel) rfl (fun K hK => ?_) | ((first | refine AWP_exit ?_ | refine AWP_skip ?_); simp (disch := decide) only [qs, qb, if_true, if_false, reduceIte]) | refine AWP_sq rfl (fun K hK => ?_) | refine ct rfl ?_ | ((try simp (disch := omega) only [go_sem, Nat.reduceBEq, Nat.reduceAdd]); (first | apply hK | (clear hK; apply hK) | (clear hK; clear hK; apply hK)); clear hK; (try clear K); (try dsimp only [behind, qs, qb])))
  refine cN rfl rfl rfl rfl (by exact NatRoot_spec (n := n) hq hn hn8 hbw) ?_; rintro v4 h4 _ q4; obtain ⟨v4, v4_l, v4_c, rfl, q4⟩ := q4.sl; (repeat (first | (refine wo rfl (fun k hk => ?_); simp (disch := omega) only [go_sem, Nat.reduceBEq, Nat.reduceAdd]; refine hk _ _ ?_; clear hk k) | refine wkt rfl ?_)); (try refine wk0 ?_)
  refine cN rfl rfl rfl rfl (by exact NatOf_spec (n := 1) (by decide)) ?_; rintro v5 h5 _ q5; obtain ⟨v5, v5_l, v5_c, rfl, q5⟩ := q5.sl; (repeat (first | (refine wo rfl (fun k hk => ?_); simp (disch := omega) only [go_sem, Nat.reduceBEq, Nat.reduceAdd]; refine hk _ _ ?_; clear hk k) | refine wkt rfl ?_)); (try refine wk0 ?_)
  refine cN rfl rfl rfl rfl (by exact Make_spec (neg := false) (q4.to (h' := h5)) q5 hi1 (by omega)) ?_; rintro v6 h6 _ q6; obtain ⟨v6_0, v6_1, v6_2, v6_3, v6_4, v6_5, v6_6, rfl, q6⟩ := q6.sa; (repeat (first | (refine wo rfl (fun k hk => ?_); simp (disch := omega) only [go_sem, Nat.reduceBEq, Nat.reduceAdd]; refine hk _ _ ?_; clear hk k) | refine wkt rfl ?_)); (try refine wk0 ?_)
  refine cN rfl rfl rfl rfl (by exact Unscaled_spec (p := p) q6 (by omega) hsz (by omega)) ?_; rintro v7 h7 _ q7; obtain ⟨v7_0, v7_1, v7_2, v7_3, v7_4, v7_5, v7_6, rfl, q7⟩ := q7.sa; (repeat (first | (refine wo rfl (fun k hk => ?_); simp (disch := omega) only [go_sem, Nat.reduceBEq, Nat.reduceAdd]; refine hk _ _ ?_; clear hk k) | refine wkt rfl ?_)); (try refine wk0 ?_)
  (try (simp (disch := omega) only [go_sem, Nat.reduceBEq, Nat.reduceAdd])); refine hK _ _ ?_; clear hK; (try clear K); (try dsimp only [behind, qs])
  refine AWP_ret ?_; simp (disch := omega) only [go_sem, Nat.reduceBEq, Nat.reduceAdd]
  rw [sgn_one] at q7
  rw [e1]
  exact q7
theorem rootg_step {q : Rat} (h : 0 ≤ q) (n p : Nat) : rootg true q n p = if rtx q n p = true then rootg false q n p else rootg false q n p + ((1 : Int) : Rat) / 2 ^ p := by
  rw [rootg_up h, rootg_dn h]
  cases rtx q n p with
  | true => rfl
  | false =>
    show mkRat ((irt n (rtw q n p) + 1 : Nat) : Int) (2 ^ p) = mkRat ((irt n (rtw q n p) : Nat) : Int) (2 ^ p) + _
    rw [mkRat_two, mkRat_two]
    generalize irt n (rtw q n p) = r
    have e2 : (((r + 1 : Nat) : Int) : Rat) = ((r : Int) : Rat) + ((1 : Int) : Rat) := by push_cast; rfl
    rw [e2, Rat.div_def, Rat.div_def, Rat.div_def, Rat.add_mul]
theorem cmp_zero {x y : Rat} : cmpQ x y = 0 ↔ x = y := by unfold cmpQ; grind
theorem QAbove_pos {h0 h : PH} [Le h0 h] {v : Value} {x : Rat} {n p : Nat} (hx : Qr h0 v x) (bx : sz x ≤ 2048) (hn : 2 ≤ n) (hn8 : n ≤ 8) (hp : p ≤ 256) (h0' : 0 ≤ x) : Spec mach 33 #[v, .int .i64 n, .int .i64 p] h (fun v h' => Qr h' v (rootg true x n p)) NP := by
  have hx0 := hx
  have kB := fun {h} [Le h0 h] => QBelow_pos (h := h) hx0 bx hn hn8 hp h0'
  have en := dec_pos h0'
  have hst := rootg_step h0' n p
  have hex := root_exact h0' n p
  have br := rootg_sz (up := false) bx hn hp
  have bp := sz_pow (rootg false x n p) n
  have bp2 : n * sz (rootg false x n p) ≤ 8 * 2048 := Nat.mul_le_mul hn8 br
  have hz1 : sz (rootg false x n p) ≤ 2 ^ 20 := by omega
  have hz2 : sz (rootg false x n p ^ n) ≤ 2 ^ 34 := by omega
  have hz3 : sz x ≤ 2 ^ 34 := by omega
  have hz4 : sz (((1 : Int) : Rat) / 2 ^ p) ≤ 2 ^ 34 := by
    have := sz_unscale ((1 : Int) : Rat) p
    have : sz ((1 : Int) : Rat) ≤ 2 := by decide
    omega
  obtain ⟨_, _, _, _, _, _, _, rfl, _, _, _⟩ := hx.sl
  generalize rootg false x n p = y at *
  generalize rootg true x n p = z at *
  rw [en] at *
  cases hr : rtx x n p with
  | true =>
    have ey : y ^ n = x := hex.2 hr
    have ec : cmpQ (y ^ n) x = 0 := cmp_zero.2 ey
    rw [hr, if_pos rfl] at hst
    clear hex br bp bp2 bx
    refine Spec.enter (args := [_, _, _]) (n := 33) Tryz.func33 rfl (by kernel_rfl) rfl (by simp) [.cell 6 56] rfl (fun C _ => ?_)
    repeat (first | (refine wo rfl (fun k hk => ?_); simp (disch := omega) only [go_sem, Nat.reduceBEq, Nat.reduceAdd]; refine hk _ _ ?_; clear hk k) | refine wkt rfl ?_ | refine wk0 ?_ | refine rg rfl rfl (fun K hK => ?_) | refine rd [.o 0, .o 1, .o 3, .o 2, .o 4, .o 5] rfl (by decide +kernel) rfl (fun K hK => ?_) | refine rd [.o 0, .o 2, .o 3, .o 1, .o 4, .o 5, .o 6] rfl (by decide +kernel) rfl (fun K hK => ?_) | ((first | refine AWP_exit ?_ | refine AWP_skip ?_); simp (disch := decide) only [qs, qb, if_true, if_false, reduceIte]) | refine AWP_sq rfl (fun K hK => ?_) | refine ct rfl ?_ | ((try simp (disch := omega) only [go_sem, Nat.reduceBEq, Nat.reduceAdd]); (first | apply hK | (clear hK; apply hK) | (clear hK; clear hK; apply hK)); clear hK; (try clear K); (try dsimp only [behind, qs, qb])))
    refine cN rfl rfl rfl rfl (by exact kB) ?_; rintro v1 h1 _ q1; obtain ⟨v1_0, v1_1, v1_2, v1_3, v1_4, v1_5, v1_6, rfl, q1⟩ := q1.sa
    repeat (first | (refine wo rfl (fun k hk => ?_); simp (disch := omega) only [go_sem, Nat.reduceBEq, Nat.reduceAdd]; refine hk _ _ ?_; clear hk k) | refine wkt rfl ?_ | refine wk0 ?_ | refine rg rfl rfl (fun K hK => ?_) | refine rd [.o 0, .o 1, .o 3, .o 2, .o 4, .o 5] rfl (by decide +kernel) rfl (fun K hK => ?_) | refine rd [.o 0, .o 2, .o 3, .o 1, .o 4, .o 5, .o 6] rfl (by decide +kernel) rfl (fun K hK => ?_) | ((first | refine AWP_exit ?_ | refine AWP_skip ?_); simp (disch := decide) only [qs, qb, if_true, if_false, reduceIte]) | refine AWP_sq rfl (fun K hK => ?_) | refine ct rfl ?_ | ((try simp (disch := omega) only [go_sem, Nat.reduceBEq, Nat.reduceAdd]); (first | apply hK | (clear hK; apply hK) | (clear hK; clear hK; apply hK)); clear hK; (try clear K); (try dsimp only [behind, qs, qb])))
    refine cN rfl rfl rfl rfl (by exact RPower_spec q1 (by omega) hz1) ?_; rintro v2 h2 _ q2; obtain ⟨v2_0, v2_1, v2_2, v2_3, v2_4, v2_5, v2_6, rfl, q2⟩ := q2.sa; (repeat (first | (refine wo rfl (fun k hk => ?_); simp (disch := omega) only [go_sem, Nat.reduceBEq, Nat.reduceAdd]; refine hk _ _ ?_; clear hk k) | refine wkt rfl ?_)); (try refine wk0 ?_)
    refine cN rfl rfl rfl rfl (by exact QCmp_spec q2 (hx0.to (h' := h2)) hz2 hz3) ?_; rintro v3 h3 s3 rfl
    repeat (first | (refine wo rfl (fun k hk => ?_); simp (disch := omega) only [go_sem, Nat.reduceBEq, Nat.reduceAdd]; refine hk _ _ ?_; clear hk k) | refine wkt rfl ?_ | refine wk0 ?_ | refine rg rfl rfl (fun K hK => ?_) | refine rd [.o 0, .o 1, .o 3, .o 2, .o 4, .o 5] rfl (by decide +kernel) rfl (fun K hK => ?_) | refine rd [.o 0, .o 2, .o 3, .o 1, .o 4, .o 5, .o 6] rfl (by decide +kernel) rfl (fun K hK => ?_) | ((first | refine AWP_exit ?_ | refine AWP_skip ?_); simp (disch := decide) only [qs, qb, if_true, if_false, reduceIte]) | refine AWP_sq rfl (fun K hK => ?_) | refine ct rfl ?_ | ((try simp (disch := omega) only [go_sem, Nat.reduceBEq, Nat.reduceAdd]); (first | apply hK | (clear hK; apply hK) | (clear hK; clear hK; apply hK)); clear hK; (try clear K); (try dsimp only [behind, qs, qb])))
    refine AWP_ret ?_; simp (disch := omega) only [go_sem, Nat.reduceBEq, Nat.reduceAdd]
    rw [hst]
    exact q1.to
  | false =>
    have ec : ¬ cmpQ (y ^ n) x = 0 := fun k => by
      have := hex.1 (cmp_zero.1 k)
      rw [hr] at this; cases this
    rw [hr, if_neg (by intro k; cases k)] at hst
    clear hex br bp bp2 bx
    refine Spec.enter (args := [_, _, _]) (n := 33) Tryz.func33 rfl (by kernel_rfl) rfl (by simp) [.cell 6 56] rfl (fun C _ => ?_)
    repeat (first | (refine wo rfl (fun k hk => ?_); simp (disch := omega) only [go_sem, Nat.reduceBEq, Nat.reduceAdd]; refine hk _ _ ?_; clear hk k) | refine wkt rfl ?_ | refine wk0 ?_ | refine rg rfl rfl (fun K hK => ?_) | refine rd [.o 0, .o 1, .o 3, .o 2, .o 4, .o 5] rfl (by decide +kernel) rfl (fun K hK => ?_) | refine rd [.o 0, .o 2, .o 3, .o 1, .o 4, .o 5, .o 6] rfl (by decide +kernel) rfl (fun K hK => ?_) | ((first | refine AWP_exit ?_ | refine AWP_skip ?_); simp (disch := decide) only [qs, qb, if_true, if_false, reduceIte]) | refine AWP_sq rfl (fun K hK => ?_) | refine ct rfl ?_ | ((try simp (disch := omega) only [go_sem, Nat.reduceBEq, Nat.reduceAdd]); (first | apply hK | (clear hK; apply hK) | (clear hK; clear hK; apply hK)); clear hK; (try clear K); (try dsimp only [behind, qs, qb])))
    refine cN rfl rfl rfl rfl (by exact kB) ?_; rintro v1 h1 _ q1; obtain ⟨v1_0, v1_1, v1_2, v1_3, v1_4, v1_5, v1_6, rfl, q1⟩ := q1.sa
    repeat (first | (refine wo rfl (fun k hk => ?_); simp (disch := omega) only [go_sem, Nat.reduceBEq, Nat.reduceAdd]; refine hk _ _ ?_; clear hk k) | refine wkt rfl ?_ | refine wk0 ?_ | refine rg rfl rfl (fun K hK => ?_) | refine rd [.o 0, .o 1, .o 3, .o 2, .o 4, .o 5] rfl (by decide +kernel) rfl (fun K hK => ?_) | refine rd [.o 0, .o 2, .o 3, .o 1, .o 4, .o 5, .o 6] rfl (by decide +kernel) rfl (fun K hK => ?_) | ((first | refine AWP_exit ?_ | refine AWP_skip ?_); simp (disch := decide) only [qs, qb, if_true, if_false, reduceIte]) | refine AWP_sq rfl (fun K hK => ?_) | refine ct rfl ?_ | ((try simp (disch := omega) only [go_sem, Nat.reduceBEq, Nat.reduceAdd]); (first | apply hK | (clear hK; apply hK) | (clear hK; clear hK; apply hK)); clear hK; (try clear K); (try dsimp only [behind, qs, qb])))
    refine cN rfl rfl rfl rfl (by exact RPower_spec q1 (by omega) hz1) ?_; rintro v2 h2 _ q2; obtain ⟨v2_0, v2_1, v2_2, v2_3, v2_4, v2_5, v2_6, rfl, q2⟩ := q2.sa; (repeat (first | (refine wo rfl (fun k hk => ?_); simp (disch := omega) only [go_sem, Nat.reduceBEq, Nat.reduceAdd]; refine hk _ _ ?_; clear hk k) | refine wkt rfl ?_)); (try refine wk0 ?_)
    refine cN rfl rfl rfl rfl (by exact QCmp_spec q2 (hx0.to (h' := h2)) hz2 hz3) ?_; rintro v3 h3 s3 rfl
    repeat (first | (refine wo rfl (fun k hk => ?_); simp (disch := omega) only [go_sem, Nat.reduceBEq, Nat.reduceAdd]; refine hk _ _ ?_; clear hk k) | refine wkt rfl ?_ | refine wk0 ?_ | refine rg rfl rfl (fun K hK => ?_) | refine rd [.o 0, .o 1, .o 3, .o 2, .o 4, .o 5] rfl (by decide +kernel) rfl (fun K hK => ?_) | refine rd [.o 0, .o 2, .o 3, .o 1, .o 4, .o 5, .o 6] rfl (by decide +kernel) rfl (fun K hK => ?_) | ((first | refine AWP_exit ?_ | refine AWP_skip ?_); simp (disch := decide) only [qs, qb, if_true, if_false, reduceIte]) | refine AWP_sq rfl (fun K hK => ?_) | refine ct rfl ?_ | ((try simp (disch := omega) only [go_sem, Nat.reduceBEq, Nat.reduceAdd]); (first | apply hK | (clear hK; apply hK) | (clear hK; clear hK; apply hK)); clear hK; (try clear K); (try dsimp only [behind, qs, qb])))
    refine cN rfl rfl rfl rfl (by exact QInt_spec (n := 1) (by decide) (by decide)) ?_; rintro v4 h4 _ q4; obtain ⟨v4_0, v4_1, v4_2, v4_3, v4_4, v4_5, v4_6, rfl, q4⟩ := q4.sa; (repeat (first | (refine wo rfl (fun k hk => ?_); simp (disch := omega) only [go_sem, Nat.reduceBEq, Nat.reduceAdd]; refine hk _ _ ?_; clear hk k) | refine wkt rfl ?_)); (try refine wk0 ?_)
    refine cN rfl rfl rfl rfl (by exact Unscaled_spec (p := p) q4 (by omega) (by decide) (by omega)) ?_; rintro v5 h5 _ q5; obtain ⟨v5_0, v5_1, v5_2, v5_3, v5_4, v5_5, v5_6, rfl, q5⟩ := q5.sa; (repeat (first | (refine wo rfl (fun k hk => ?_); simp (disch := omega) only [go_sem, Nat.reduceBEq, Nat.reduceAdd]; refine hk _ _ ?_; clear hk k) | refine wkt rfl ?_)); (try refine wk0 ?_)
    refine cN rfl rfl rfl rfl (by exact Sum_spec (q1.to (h' := h5)) q5 (by omega) (by omega)) ?_; rintro v6 h6 _ q6; obtain ⟨v6_0, v6_1, v6_2, v6_3, v6_4, v6_5, v6_6, rfl, q6⟩ := q6.sa; (repeat (first | (refine wo rfl (fun k hk => ?_); simp (disch := omega) only [go_sem, Nat.reduceBEq, Nat.reduceAdd]; refine hk _ _ ?_; clear hk k) | refine wkt rfl ?_)); (try refine wk0 ?_)
    (try (simp (disch := omega) only [go_sem, Nat.reduceBEq, Nat.reduceAdd])); refine hK _ _ ?_; clear hK; (try clear K); (try dsimp only [behind, qs])
    refine AWP_ret ?_; simp (disch := omega) only [go_sem, Nat.reduceBEq, Nat.reduceAdd]
    rw [hst]
    exact q6
theorem QBelow_spec {h0 h : PH} [Le h0 h] {v : Value} {x : Rat} {n p : Nat} (hx : Qr h0 v x) (bx : sz x ≤ 2048) (hn : 2 ≤ n) (hn8 : n ≤ 8) (hp : p ≤ 256) : Spec mach 32 #[v, .int .i64 n, .int .i64 p] h (fun v h' => Qr h' v (rootg false x n p)) NP := by
  by_cases h0' : 0 ≤ x
  · exact QBelow_pos hx bx hn hn8 hp h0'
  · have hx0 := hx
    have en := dec_neg (show x < 0 by grind)
    have hneg : rootg false x n p = -(rootg true (-x) n p) := rootg_neg (show x < 0 by grind) false n p
    have bx' : sz (-x) ≤ 2048 := by rw [sz_neg]; exact bx
    obtain ⟨_, _, _, _, _, _, _, rfl, _, _, _⟩ := hx.sl
    rw [en] at *
    rw [hneg]
    refine Spec.enter (args := [_, _, _]) (n := 37) Tryz.func32 rfl (by kernel_rfl) rfl (by simp) [.cell 6 56] rfl (fun C _ => ?_)
    repeat (first | (refine wo rfl (fun k hk => ?_); simp (disch := omega) only [go_sem, Nat.reduceBEq, Nat.reduceAdd]; refine hk _ _ ?_; clear hk k) | refine wkt rfl ?_ | refine wk0 ?_ | refine rg rfl rfl (fun K hK => ?_) | refine rd [.o 0, .o 1, .o 2, .o 3, .o 4, .o 6, .o 5, .o 7, .o 8, .o 9, .o 10, .o 11, .o 12, .o 13] rfl (by decide +kernel) rfl (fun K hK => ?_) | ((first | refine AWP_exit ?_ | refine AWP_skip ?_); simp (disch := decide) only [qs, qb, if_true, if_false, reduceIte]) | refine AWP_sq rfl (fun K hK => ?_) | refine ct rfl ?_ | ((try simp (disch := omega) only [go_sem, Nat.reduceBEq, Nat.reduceAdd]); (first | apply hK | (clear hK; apply hK) | (clear hK; clear hK; apply hK)); clear hK; (try clear K); (try dsimp only [behind, qs, qb])))
    refine cN rfl rfl rfl rfl (by exact Opp_spec hx0) ?_; rintro v1 h1 _ q1; obtain ⟨v1_0, v1_1, v1_2, v1_3, v1_4, v1_5, v1_6, rfl, q1⟩ := q1.sa; (repeat (first | (refine wo rfl (fun k hk => ?_); simp (disch := omega) only [go_sem, Nat.reduceBEq, Nat.reduceAdd]; refine hk _ _ ?_; clear hk k) | refine wkt rfl ?_)); (try refine wk0 ?_)
    refine cN rfl rfl rfl rfl (by exact QAbove_pos q1 bx' hn hn8 hp (by grind)) ?_; rintro v2 h2 _ q2; obtain ⟨v2_0, v2_1, v2_2, v2_3, v2_4, v2_5, v2_6, rfl, q2⟩ := q2.sa; (repeat (first | (refine wo rfl (fun k hk => ?_); simp (disch := omega) only [go_sem, Nat.reduceBEq, Nat.reduceAdd]; refine hk _ _ ?_; clear hk k) | refine wkt rfl ?_)); (try refine wk0 ?_)
    refine cN rfl rfl rfl rfl (by exact Opp_spec q2) ?_; rintro v3 h3 _ q3; obtain ⟨v3_0, v3_1, v3_2, v3_3, v3_4, v3_5, v3_6, rfl, q3⟩ := q3.sa
    repeat (first | (refine wo rfl (fun k hk => ?_); simp (disch := omega) only [go_sem, Nat.reduceBEq, Nat.reduceAdd]; refine hk _ _ ?_; clear hk k) | refine wkt rfl ?_ | refine wk0 ?_ | refine rg rfl rfl (fun K hK => ?_) | refine rd [.o 0, .o 1, .o 2, .o 3, .o 4, .o 6, .o 5, .o 7, .o 8, .o 9, .o 10, .o 11, .o 12, .o 13] rfl (by decide +kernel) rfl (fun K hK => ?_) | ((first | refine AWP_exit ?_ | refine AWP_skip ?_); simp (disch := decide) only [qs, qb, if_true, if_false, reduceIte]) | refine AWP_sq rfl (fun K hK => ?_) | refine ct rfl ?_ | ((try simp (disch := omega) only [go_sem, Nat.reduceBEq, Nat.reduceAdd]); (first | apply hK | (clear hK; apply hK) | (clear hK; clear hK; apply hK)); clear hK; (try clear K); (try dsimp only [behind, qs, qb])))
    refine AWP_ret ?_; simp (disch := omega) only [go_sem, Nat.reduceBEq, Nat.reduceAdd]
    exact q3
theorem QAbove_spec {h0 h : PH} [Le h0 h] {v : Value} {x : Rat} {n p : Nat} (hx : Qr h0 v x) (bx : sz x ≤ 2048) (hn : 2 ≤ n) (hn8 : n ≤ 8) (hp : p ≤ 256) : Spec mach 33 #[v, .int .i64 n, .int .i64 p] h (fun v h' => Qr h' v (rootg true x n p)) NP := by
  by_cases h0' : 0 ≤ x
  · exact QAbove_pos hx bx hn hn8 hp h0'
  · have hx0 := hx
    have en := dec_neg (show x < 0 by grind)
    have hneg : rootg true x n p = -(rootg false (-x) n p) := rootg_neg (show x < 0 by grind) true n p
    have bx' : sz (-x) ≤ 2048 := by rw [sz_neg]; exact bx
    obtain ⟨_, _, _, _, _, _, _, rfl, _, _, _⟩ := hx.sl
    rw [en] at *
    rw [hneg]
    refine Spec.enter (args := [_, _, _]) (n := 33) Tryz.func33 rfl (by kernel_rfl) rfl (by simp) [.cell 6 56] rfl (fun C _ => ?_)
    repeat (first | (refine wo rfl (fun k hk => ?_); simp (disch := omega) only [go_sem, Nat.reduceBEq, Nat.reduceAdd]; refine hk _ _ ?_; clear hk k) | refine wkt rfl ?_ | refine wk0 ?_ | refine rg rfl rfl (fun K hK => ?_) | refine rd [.o 0, .o 1, .o 3, .o 2, .o 4, .o 5] rfl (by decide +kernel) rfl (fun K hK => ?_) | refine rd [.o 0, .o 2, .o 3, .o 1, .o 4, .o 5, .o 6] rfl (by decide +kernel) rfl (fun K hK => ?_) | ((first | refine AWP_exit ?_ | refine AWP_skip ?_); simp (disch := decide) only [qs, qb, if_true, if_false, reduceIte]) | refine AWP_sq rfl (fun K hK => ?_) | refine ct rfl ?_ | ((try simp (disch := omega) only [go_sem, Nat.reduceBEq, Nat.reduceAdd]); (first | apply hK | (clear hK; apply hK) | (clear hK; clear hK; apply hK)); clear hK; (try clear K); (try dsimp only [behind, qs, qb])))
    refine cN rfl rfl rfl rfl (by exact Opp_spec hx0) ?_; rintro v1 h1 _ q1; obtain ⟨v1_0, v1_1, v1_2, v1_3, v1_4, v1_5, v1_6, rfl, q1⟩ := q1.sa; (repeat (first | (refine wo rfl (fun k hk => ?_); simp (disch := omega) only [go_sem, Nat.reduceBEq, Nat.reduceAdd]; refine hk _ _ ?_; clear hk k) | refine wkt rfl ?_)); (try refine wk0 ?_)
    refine cN rfl rfl rfl rfl (by exact QBelow_pos q1 bx' hn hn8 hp (by grind)) ?_; rintro v2 h2 _ q2; obtain ⟨v2_0, v2_1, v2_2, v2_3, v2_4, v2_5, v2_6, rfl, q2⟩ := q2.sa; (repeat (first | (refine wo rfl (fun k hk => ?_); simp (disch := omega) only [go_sem, Nat.reduceBEq, Nat.reduceAdd]; refine hk _ _ ?_; clear hk k) | refine wkt rfl ?_)); (try refine wk0 ?_)
    refine cN rfl rfl rfl rfl (by exact Opp_spec q2) ?_; rintro v3 h3 _ q3; obtain ⟨v3_0, v3_1, v3_2, v3_3, v3_4, v3_5, v3_6, rfl, q3⟩ := q3.sa
    repeat (first | (refine wo rfl (fun k hk => ?_); simp (disch := omega) only [go_sem, Nat.reduceBEq, Nat.reduceAdd]; refine hk _ _ ?_; clear hk k) | refine wkt rfl ?_ | refine wk0 ?_ | refine rg rfl rfl (fun K hK => ?_) | refine rd [.o 0, .o 1, .o 3, .o 2, .o 4, .o 5] rfl (by decide +kernel) rfl (fun K hK => ?_) | refine rd [.o 0, .o 2, .o 3, .o 1, .o 4, .o 5, .o 6] rfl (by decide +kernel) rfl (fun K hK => ?_) | ((first | refine AWP_exit ?_ | refine AWP_skip ?_); simp (disch := decide) only [qs, qb, if_true, if_false, reduceIte]) | refine AWP_sq rfl (fun K hK => ?_) | refine ct rfl ?_ | ((try simp (disch := omega) only [go_sem, Nat.reduceBEq, Nat.reduceAdd]); (first | apply hK | (clear hK; apply hK) | (clear hK; clear hK; apply hK)); clear hK; (try clear K); (try dsimp only [behind, qs, qb])))
    refine AWP_ret ?_; simp (disch := omega) only [go_sem, Nat.reduceBEq, Nat.reduceAdd]
    exact q3
end Go.Q
