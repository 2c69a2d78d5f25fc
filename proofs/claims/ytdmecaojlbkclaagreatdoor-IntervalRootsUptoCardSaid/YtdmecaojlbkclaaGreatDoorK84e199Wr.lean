/-
  Contract of package word: whole parts of roots. Conditions: the slice holds words (N32), of at most 2^20 bits; the index is from 2 to 8.
-/
import Derived.Test.YtdmecaojlbkclaaGreatDoorKc89b4bWp
import Derived.Test.YtdmecaojlbkclaaGreatDoorKcd8152Pr
set_option linter.unusedVariables false
set_option linter.unusedSimpArgs false
namespace Go.Q
open Go.Proofs
set_option maxRecDepth 100000
set_option maxHeartbeats 4000000
def rt0 (n a : Nat) : Nat := 2 ^ ((bl a + n - 1) / n + 1)
theorem rt_start {n a k : Nat} (hn : n ≠ 0) (hk : (bl a + n - 1) / n ≤ k) : irt n a ≤ 2 ^ k := by
  have h1 : bl a ≤ n * ((bl a + n - 1) / n) := by
    have := Nat.div_add_mod (bl a + n - 1) n
    have := Nat.mod_lt (bl a + n - 1) (Nat.pos_of_ne_zero hn)
    omega
  have h2 : a < 2 ^ bl a := bl_le.1 (Nat.le_refl _)
  have h3 : (2 : Nat) ^ bl a ≤ 2 ^ (n * k) := Nat.pow_le_pow_right (by decide) (Nat.le_trans h1 (Nat.mul_le_mul_left _ hk))
  exact Nat.le_of_lt (irt_lt_pow hn (Nat.lt_of_lt_of_le h2 h3))
theorem cmp3_ge {m n : Nat} : 0 ≤ cmp3 m n ↔ n ≤ m := by unfold cmp3; (repeat' split) <;> omega
theorem cmp3_eq0 {m n : Nat} : cmp3 m n = 0 ↔ m = n := by unfold cmp3; (repeat' split) <;> omega
theorem div_lt' {b n : Nat} (hn : 2 ≤ n) (hb : b ≤ 2 ^ 20) : (b + n - 1) / n ≤ 2 ^ 20 := by
  rw [Nat.div_le_iff_le_mul_add_pred (by omega)]
  have := Nat.mul_le_mul hn (Nat.le_refl (2 ^ 20))
  omega
theorem N32.len0 {h : PH} {a : Option Addr} {l c n : Nat} (r : N32 h (.slice a l c) n) : l = 0 ↔ n = 0 := by
  obtain ⟨_, _, _, e, _, h2, _⟩ := r.out
  cases e
  have := W_len0 B32 (n := n)
  rw [h2] at this
  exact this
@[go_sem] theorem wrap_div {x y : Nat} (h : x < 4611686018427387904) : IntKind.i64.wrap ((x / y : Nat) : Int) = ((x / y : Nat) : Int) := by
  have := Nat.div_le_self x y
  generalize x / y = z at *
  exact wi64 (by omega) (by omega)
@[go_sem] theorem wrap_div1 {x y c : Nat} (h : x + c < 4611686018427387904) : IntKind.i64.wrap ((x / y + c : Nat) : Int) = ((x / y + c : Nat) : Int) := by
  have := Nat.div_le_self x y
  generalize x / y = z at *
  exact wi64 (by omega) (by omega)
theorem NRoot_spec {h0 h : PH} [Le h0 h] {v : Value} {a n : Nat} (hv : N32 h0 v a) (hn : 2 ≤ n) (hn8 : n ≤ 8) (ba : bl a ≤ 2 ^ 20) : Spec mach 120 #[v, .int .i64 n] h (fun v h' => ∃ r, v = .tuple #[r, .bool (decide (irt n a ^ n = a))] ∧ N32 h' r (irt n a)) NP := by
  obtain ⟨va, vl, vc, rfl, hv⟩ := hv.sl
  have hv0 := hv.len0
  have hn0 : n ≠ 0 := by omega
  by_cases ha0 : a = 0
  · have hl : vl = 0 := hv0.2 ha0
    subst ha0 hl
    refine Spec.enter (args := [_, _]) (n := 59) Tryz.func120 rfl (by kernel_rfl) rfl (by simp) [.tmp 4, .tmp 5] rfl (fun C _ => ?_)
    repeat (first | (refine wo rfl (fun k hk => ?_); simp (disch := omega) only [go_sem, Nat.reduceBEq, Nat.reduceAdd]; refine hk _ _ ?_; clear hk k) | refine wkt rfl ?_ | refine wk0 ?_ | refine rg rfl rfl (fun K hK => ?_) | ((first | refine AWP_exit ?_ | refine AWP_skip ?_); simp (disch := decide) only [qs, qb, if_true, if_false, reduceIte]) | refine AWP_sq rfl (fun K hK => ?_) | refine ct rfl ?_ | ((try simp (disch := omega) only [go_sem, Nat.reduceBEq, Nat.reduceAdd]); (first | apply hK | (clear hK; apply hK) | (clear hK; clear hK; apply hK)); clear hK; (try clear K); (try dsimp only [behind, qs, qb])))
    refine AWP_ret ?_; simp (disch := omega) only [go_sem, Nat.reduceBEq, Nat.reduceAdd]
    rw [irt_zero hn0, Nat.zero_pow (by omega)]
    exact ⟨_, rfl, N32.zero _⟩
  · have hl : ¬ vl = 0 := fun k => ha0 (hv0.1 k)
    refine Spec.enter (args := [_, _]) (n := 59) Tryz.func120 rfl (by kernel_rfl) rfl (by simp) [.tmp 4, .tmp 5] rfl (fun C _ => ?_)
    repeat (first | (refine rg rfl rfl (fun K hK => ?_); (repeat (first | (refine wo rfl (fun k hk => ?_); simp (disch := omega) only [go_sem, Nat.reduceBEq, Nat.reduceAdd]; refine hk _ _ ?_; clear hk k) | refine wkt rfl ?_)); (try refine wk0 ?_); refine hK _ _ ?_; clear hK K; (try dsimp only [behind, qs, qb])) | ((first | refine AWP_exit ?_ | refine AWP_skip ?_); simp (disch := decide) only [qs, qb, if_true, if_false, reduceIte]) | refine AWP_sq rfl (fun K hK => ?_) | refine ct rfl ?_ | ((first | refine hK _ _ ?_ | (clear hK; refine hK _ _ ?_) | (clear hK; clear hK; refine hK _ _ ?_)); clear hK; (try clear K)))
    have bx : ∀ x, x ≤ rt0 n a → bl x ≤ 2 ^ 20 + 2 := fun x hx => by
      have h1 := bl_mono hx
      have h2 := bl_pow2 ((bl a + n - 1) / n + 1)
      have h3 := div_lt' hn ba
      unfold rt0 at h1
      omega
    have hs : (bl a + n - 1) / n + 1 ≤ 2 ^ 20 + 1 := by have := div_lt' hn ba; omega
    refine rg rfl rfl (fun K hK => ?_); (repeat (first | (refine wo rfl (fun k hk => ?_); simp (disch := omega) only [go_sem, Nat.reduceBEq, Nat.reduceAdd]; refine hk _ _ ?_; clear hk k) | refine wkt rfl ?_)); (try refine wk0 ?_)
    refine cN rfl rfl rfl rfl (by exact Small_spec (n := 1) (by decide)) ?_; rintro o1 h1 _ q1; obtain ⟨o1, o1_l, o1_c, rfl, q1⟩ := q1.sl; (repeat (first | (refine wo rfl (fun k hk => ?_); simp (disch := omega) only [go_sem, Nat.reduceBEq, Nat.reduceAdd]; refine hk _ _ ?_; clear hk k) | refine wkt rfl ?_)); (try refine wk0 ?_)
    refine cN rfl rfl rfl rfl (by exact Bits_spec hv) ?_; rintro o2 h2 s2 rfl; (repeat (first | (refine wo rfl (fun k hk => ?_); simp (disch := omega) only [go_sem, Nat.reduceBEq, Nat.reduceAdd]; refine hk _ _ ?_; clear hk k) | refine wkt rfl ?_)); (try refine wk0 ?_)
    refine cN rfl rfl rfl rfl (by exact Shl_spec (n := (bl a + n - 1) / n + 1) (q1.to (h' := h2)) (by rw [bl_one]; omega)) ?_; rintro o3 h3 _ q3; obtain ⟨o3, o3_l, o3_c, rfl, q3⟩ := q3.sl
    repeat (first | (refine wo rfl (fun k hk => ?_); simp (disch := omega) only [go_sem, Nat.reduceBEq, Nat.reduceAdd]; refine hk _ _ ?_; clear hk k) | refine wkt rfl ?_ | refine wk0 ?_ | ((first | refine rg rfl rfl (fun K hK => ?_)); (repeat (first | (refine wo rfl (fun k hk => ?_); simp (disch := omega) only [go_sem, Nat.reduceBEq, Nat.reduceAdd]; refine hk _ _ ?_; clear hk k) | refine wkt rfl ?_ | refine wk0 ?_)); (first | apply hK | (clear hK; apply hK) | (clear hK; clear hK; apply hK)); clear hK; (try clear K); (try dsimp only [behind, qs, qb])) | ((first | refine AWP_exit ?_ | refine AWP_skip ?_); simp (disch := decide) only [qs, qb, if_true, if_false, reduceIte]) | refine AWP_sq rfl (fun K hK => ?_) | refine ct rfl ?_ | ((try simp (disch := omega) only [go_sem, Nat.reduceBEq, Nat.reduceAdd]); (first | apply hK | (clear hK; apply hK) | (clear hK; clear hK; apply hK)); clear hK; (try clear K); (try dsimp only [behind, qs, qb])))
    rw [Nat.one_mul] at q3
    refine AWP_loop (fun x : Value × Nat => ⟨[(0, .v (.slice va vl vc)), (1, .v (.int .i64 n)), (6, .v x.1)], []⟩)
      (fun x h' => Le h0 h' ∧ N32 h' x.1 x.2 ∧ 0 < x.2 ∧ irt n a ≤ x.2 ∧ x.2 ≤ rt0 n a) (fun x => x.2) (.slice o3 o3_l o3_c, rt0 n a) ?_ ⟨inferInstance, q3, Nat.pow_pos (by decide), rt_start hn0 (Nat.le_succ _), Nat.le_refl _⟩ ?_
    · simp (disch := omega) only [go_sem, Nat.reduceBEq, Nat.reduceAdd]
    · rintro ⟨xv, x⟩ h4 ⟨le4, hx, hx0, hxi, hxr⟩
      dsimp only at hx hx0 hxi hxr ⊢
      have bxx := bx x hxr
      obtain ⟨xa, xl, xc, rfl, hx⟩ := hx.sl
      have m1 : bl x * (n - 1) ≤ (2 ^ 20 + 2) * 8 := Nat.mul_le_mul bxx (by omega)
      have m2 : bl x * n ≤ (2 ^ 20 + 2) * 8 := Nat.mul_le_mul bxx hn8
      have p1 := bl_pow x (n - 1)
      have p2 := bl_pow x n
      rw [Nat.mul_comm] at p1 p2
      have hp : 0 < x ^ (n - 1) := Nat.pow_pos hx0
      have hy1 := nwt_ge (n := n) (a := a) hn0 hx0
      have hy2 := nwt_stop (n := n) (a := a) hn0 hx0
      have hy3 := nwt_pos (n := n) (a := a) hn0 (by omega) hx0
      have b3 := bl_mono (Nat.div_le_self a (x ^ (n - 1)))
      have b4 := bl_mul x (n - 1)
      have b5 : bl (n - 1) ≤ 8 := Nat.le_trans (bl_mono (show n - 1 ≤ 8 by omega)) (by decide)
      have b6 := bl_add (x * (n - 1)) (a / x ^ (n - 1))
      repeat (first | (refine wo rfl (fun k hk => ?_); simp (disch := omega) only [go_sem, Nat.reduceBEq, Nat.reduceAdd]; refine hk _ _ ?_; clear hk k) | refine wkt rfl ?_ | refine wk0 ?_ | refine rg rfl rfl (fun K hK => ?_) | ((first | refine AWP_exit ?_ | refine AWP_skip ?_); simp (disch := decide) only [qs, qb, if_true, if_false, reduceIte]) | refine AWP_sq rfl (fun K hK => ?_) | refine ct rfl ?_ | ((try simp (disch := omega) only [go_sem, Nat.reduceBEq, Nat.reduceAdd]); (first | apply hK | (clear hK; apply hK) | (clear hK; clear hK; apply hK)); clear hK; (try clear K); (try dsimp only [behind, qs, qb])))
      refine cN rfl rfl rfl rfl (by exact NPow_spec (n := n - 1) hx (by omega) (by omega)) ?_; rintro u1 g1 _ t1; obtain ⟨u1, u1_l, u1_c, rfl, t1⟩ := t1.sl; (repeat (first | (refine wo rfl (fun k hk => ?_); simp (disch := omega) only [go_sem, Nat.reduceBEq, Nat.reduceAdd]; refine hk _ _ ?_; clear hk k) | refine wkt rfl ?_)); (try refine wk0 ?_)
      refine cN rfl rfl rfl rfl (by exact Div_spec (hv.to (h' := g1)) t1 (by omega) (by omega) (by omega)) ?_; rintro w2 g2 s2 ⟨q, r, rfl, hq, hr⟩; (repeat (first | (refine wo rfl (fun k hk => ?_); simp (disch := omega) only [go_sem, Nat.reduceBEq, Nat.reduceAdd]; refine hk _ _ ?_; clear hk k) | refine wkt rfl ?_)); (try refine wk0 ?_)
      (repeat (first | (refine wo rfl (fun k hk => ?_); simp (disch := omega) only [go_sem, Nat.reduceBEq, Nat.reduceAdd]; refine hk _ _ ?_; clear hk k) | refine wkt rfl ?_)); (try refine wk0 ?_)
      repeat (first | (refine wo rfl (fun k hk => ?_); simp (disch := omega) only [go_sem, Nat.reduceBEq, Nat.reduceAdd]; refine hk _ _ ?_; clear hk k) | refine wkt rfl ?_ | refine wk0 ?_ | ((first | refine rg rfl rfl (fun K hK => ?_)); (repeat (first | (refine wo rfl (fun k hk => ?_); simp (disch := omega) only [go_sem, Nat.reduceBEq, Nat.reduceAdd]; refine hk _ _ ?_; clear hk k) | refine wkt rfl ?_ | refine wk0 ?_)); (first | apply hK | (clear hK; apply hK) | (clear hK; clear hK; apply hK)); clear hK; (try clear K); (try dsimp only [behind, qs, qb])) | ((first | refine AWP_exit ?_ | refine AWP_skip ?_); simp (disch := decide) only [qs, qb, if_true, if_false, reduceIte]) | refine AWP_sq rfl (fun K hK => ?_) | refine ct rfl ?_ | ((try simp (disch := omega) only [go_sem, Nat.reduceBEq, Nat.reduceAdd]); (first | apply hK | (clear hK; apply hK) | (clear hK; clear hK; apply hK)); clear hK; (try clear K); (try dsimp only [behind, qs, qb])))
      have en : x * (n - 1) + a / x ^ (n - 1) = (n - 1) * x + a / x ^ (n - 1) := by rw [Nat.mul_comm]
      refine rg rfl rfl (fun K hK => ?_); (repeat (first | (refine wo rfl (fun k hk => ?_); simp (disch := omega) only [go_sem, Nat.reduceBEq, Nat.reduceAdd]; refine hk _ _ ?_; clear hk k) | refine wkt rfl ?_)); (try refine wk0 ?_)
      refine cN rfl rfl rfl rfl (by exact Small_spec (n := n - 1) (by omega)) ?_; rintro u3 g3 _ t3; obtain ⟨u3, u3_l, u3_c, rfl, t3⟩ := t3.sl; (repeat (first | (refine wo rfl (fun k hk => ?_); simp (disch := omega) only [go_sem, Nat.reduceBEq, Nat.reduceAdd]; refine hk _ _ ?_; clear hk k) | refine wkt rfl ?_)); (try refine wk0 ?_)
      refine cN rfl rfl rfl rfl (by exact Mul_spec (hx.to (h' := g3)) t3 (by omega) (by omega)) ?_; rintro u4 g4 _ t4; obtain ⟨u4, u4_l, u4_c, rfl, t4⟩ := t4.sl; (repeat (first | (refine wo rfl (fun k hk => ?_); simp (disch := omega) only [go_sem, Nat.reduceBEq, Nat.reduceAdd]; refine hk _ _ ?_; clear hk k) | refine wkt rfl ?_)); (try refine wk0 ?_)
      refine cN rfl rfl rfl rfl (by exact Add_spec t4 (hq.to (h' := g4)) (by omega) (by omega)) ?_; rintro u5 g5 _ t5; obtain ⟨u5, u5_l, u5_c, rfl, t5⟩ := t5.sl; (repeat (first | (refine wo rfl (fun k hk => ?_); simp (disch := omega) only [go_sem, Nat.reduceBEq, Nat.reduceAdd]; refine hk _ _ ?_; clear hk k) | refine wkt rfl ?_)); (try refine wk0 ?_)
      refine cN rfl rfl rfl rfl (by exact DivSmall_spec (d := n) t5 (by omega) (by omega) (by omega)) ?_; rintro w6 g6 s6 ⟨y, rfl, hy⟩; (repeat (first | (refine wo rfl (fun k hk => ?_); simp (disch := omega) only [go_sem, Nat.reduceBEq, Nat.reduceAdd]; refine hk _ _ ?_; clear hk k) | refine wkt rfl ?_)); (try refine wk0 ?_)
      (repeat (first | (refine wo rfl (fun k hk => ?_); simp (disch := omega) only [go_sem, Nat.reduceBEq, Nat.reduceAdd]; refine hk _ _ ?_; clear hk k) | refine wkt rfl ?_)); (try refine wk0 ?_)
      (try (simp (disch := omega) only [go_sem, Nat.reduceBEq, Nat.reduceAdd])); refine hK _ _ ?_; clear hK; (try clear K); (try dsimp only [behind, qs])
      rw [en] at hy
      have hy : N32 g6 y (nwt n a x) := hy
      clear en
      generalize nwt n a x = z at *
      obtain ⟨ya, yl, yc, rfl, hy⟩ := hy.sl
      repeat (first | (refine rg rfl rfl (fun K hK => ?_); (repeat (first | (refine wo rfl (fun k hk => ?_); simp (disch := omega) only [go_sem, Nat.reduceBEq, Nat.reduceAdd]; refine hk _ _ ?_; clear hk k) | refine wkt rfl ?_)); (try refine wk0 ?_); refine hK _ _ ?_; clear hK K; (try dsimp only [behind, qs, qb])) | ((first | refine AWP_exit ?_ | refine AWP_skip ?_); simp (disch := decide) only [qs, qb, if_true, if_false, reduceIte]) | refine AWP_sq rfl (fun K hK => ?_) | refine ct rfl ?_ | ((first | refine hK _ _ ?_ | (clear hK; refine hK _ _ ?_) | (clear hK; clear hK; refine hK _ _ ?_)); clear hK; (try clear K)))
      by_cases hc : x ≤ z
      · have e1 : 0 ≤ cmp3 z x := cmp3_ge.2 hc
        have exi : x = irt n a := irt_eq hn0 (hy2 hc) hxi
        refine rg rfl rfl (fun K hK => ?_); (repeat (first | (refine wo rfl (fun k hk => ?_); simp (disch := omega) only [go_sem, Nat.reduceBEq, Nat.reduceAdd]; refine hk _ _ ?_; clear hk k) | refine wkt rfl ?_)); (try refine wk0 ?_)
        refine cN rfl rfl rfl rfl (by exact Cmp_spec hy (hx.to (h' := g6))) ?_; rintro w7 g7 s7 rfl
        repeat (first | (refine wo rfl (fun k hk => ?_); simp (disch := omega) only [go_sem, Nat.reduceBEq, Nat.reduceAdd]; refine hk _ _ ?_; clear hk k) | refine wkt rfl ?_ | refine wk0 ?_ | ((first | refine rg rfl rfl (fun K hK => ?_)); (repeat (first | (refine wo rfl (fun k hk => ?_); simp (disch := omega) only [go_sem, Nat.reduceBEq, Nat.reduceAdd]; refine hk _ _ ?_; clear hk k) | refine wkt rfl ?_ | refine wk0 ?_)); (first | apply hK | (clear hK; apply hK) | (clear hK; clear hK; apply hK)); clear hK; (try clear K); (try dsimp only [behind, qs, qb])) | ((first | refine AWP_exit ?_ | refine AWP_skip ?_); simp (disch := decide) only [qs, qb, if_true, if_false, reduceIte]) | refine AWP_sq rfl (fun K hK => ?_) | refine ct rfl ?_ | ((try simp (disch := omega) only [go_sem, Nat.reduceBEq, Nat.reduceAdd]); (first | apply hK | (clear hK; apply hK) | (clear hK; clear hK; apply hK)); clear hK; (try clear K); (try dsimp only [behind, qs, qb])))
        by_cases hq0 : x ^ n = a
        · have e2 : cmp3 (x ^ n) a = 0 := cmp3_eq0.2 hq0
          refine rg rfl rfl (fun K hK => ?_); (repeat (first | (refine wo rfl (fun k hk => ?_); simp (disch := omega) only [go_sem, Nat.reduceBEq, Nat.reduceAdd]; refine hk _ _ ?_; clear hk k) | refine wkt rfl ?_)); (try refine wk0 ?_)
          refine cN rfl rfl rfl rfl (by exact NPow_spec (n := n) (hx.to (h' := g7)) (by omega) (by omega)) ?_; rintro u8 g8 _ t8; obtain ⟨u8, u8_l, u8_c, rfl, t8⟩ := t8.sl; (repeat (first | (refine wo rfl (fun k hk => ?_); simp (disch := omega) only [go_sem, Nat.reduceBEq, Nat.reduceAdd]; refine hk _ _ ?_; clear hk k) | refine wkt rfl ?_)); (try refine wk0 ?_)
          refine cN rfl rfl rfl rfl (by exact Cmp_spec t8 (hv.to (h' := g8))) ?_; rintro w9 g9 s9 rfl
          repeat (first | (refine wo rfl (fun k hk => ?_); simp (disch := omega) only [go_sem, Nat.reduceBEq, Nat.reduceAdd]; refine hk _ _ ?_; clear hk k) | refine wkt rfl ?_ | refine wk0 ?_ | refine rg rfl rfl (fun K hK => ?_) | ((first | refine AWP_exit ?_ | refine AWP_skip ?_); simp (disch := decide) only [qs, qb, if_true, if_false, reduceIte]) | refine AWP_sq rfl (fun K hK => ?_) | refine ct rfl ?_ | ((try simp (disch := omega) only [go_sem, Nat.reduceBEq, Nat.reduceAdd]); (first | apply hK | (clear hK; apply hK) | (clear hK; clear hK; apply hK)); clear hK; (try clear K); (try dsimp only [behind, qs, qb])))
          refine AWP_ret ?_; simp (disch := omega) only [go_sem, Nat.reduceBEq, Nat.reduceAdd]
          rw [← exi, decide_eq_true hq0]
          exact ⟨_, rfl, hx.to⟩
        · have e2 : ¬ cmp3 (x ^ n) a = 0 := fun k => hq0 (cmp3_eq0.1 k)
          refine rg rfl rfl (fun K hK => ?_); (repeat (first | (refine wo rfl (fun k hk => ?_); simp (disch := omega) only [go_sem, Nat.reduceBEq, Nat.reduceAdd]; refine hk _ _ ?_; clear hk k) | refine wkt rfl ?_)); (try refine wk0 ?_)
          refine cN rfl rfl rfl rfl (by exact NPow_spec (n := n) (hx.to (h' := g7)) (by omega) (by omega)) ?_; rintro u8 g8 _ t8; obtain ⟨u8, u8_l, u8_c, rfl, t8⟩ := t8.sl; (repeat (first | (refine wo rfl (fun k hk => ?_); simp (disch := omega) only [go_sem, Nat.reduceBEq, Nat.reduceAdd]; refine hk _ _ ?_; clear hk k) | refine wkt rfl ?_)); (try refine wk0 ?_)
          refine cN rfl rfl rfl rfl (by exact Cmp_spec t8 (hv.to (h' := g8))) ?_; rintro w9 g9 s9 rfl
          repeat (first | (refine wo rfl (fun k hk => ?_); simp (disch := omega) only [go_sem, Nat.reduceBEq, Nat.reduceAdd]; refine hk _ _ ?_; clear hk k) | refine wkt rfl ?_ | refine wk0 ?_ | refine rg rfl rfl (fun K hK => ?_) | ((first | refine AWP_exit ?_ | refine AWP_skip ?_); simp (disch := decide) only [qs, qb, if_true, if_false, reduceIte]) | refine AWP_sq rfl (fun K hK => ?_) | refine ct rfl ?_ | ((try simp (disch := omega) only [go_sem, Nat.reduceBEq, Nat.reduceAdd]); (first | apply hK | (clear hK; apply hK) | (clear hK; clear hK; apply hK)); clear hK; (try clear K); (try dsimp only [behind, qs, qb])))
          refine AWP_ret ?_; simp (disch := omega) only [go_sem, Nat.reduceBEq, Nat.reduceAdd]
          rw [← exi, decide_eq_false hq0]
          exact ⟨_, rfl, hx.to⟩
      · have e1 : ¬ 0 ≤ cmp3 z x := fun k => hc (cmp3_ge.1 k)
        refine rg rfl rfl (fun K hK => ?_); (repeat (first | (refine wo rfl (fun k hk => ?_); simp (disch := omega) only [go_sem, Nat.reduceBEq, Nat.reduceAdd]; refine hk _ _ ?_; clear hk k) | refine wkt rfl ?_)); (try refine wk0 ?_)
        refine cN rfl rfl rfl rfl (by exact Cmp_spec hy (hx.to (h' := g6))) ?_; rintro w7 g7 s7 rfl
        repeat (first | (refine wo rfl (fun k hk => ?_); simp (disch := omega) only [go_sem, Nat.reduceBEq, Nat.reduceAdd]; refine hk _ _ ?_; clear hk k) | refine wkt rfl ?_ | refine wk0 ?_ | refine rg rfl rfl (fun K hK => ?_) | ((first | refine AWP_exit ?_ | refine AWP_skip ?_); simp (disch := decide) only [qs, qb, if_true, if_false, reduceIte]) | refine AWP_sq rfl (fun K hK => ?_) | refine ct rfl ?_ | ((try simp (disch := omega) only [go_sem, Nat.reduceBEq, Nat.reduceAdd]); (first | apply hK | (clear hK; apply hK) | (clear hK; clear hK; apply hK)); clear hK; (try clear K); (try dsimp only [behind, qs, qb])))
        refine ⟨(_, z), ?_, ⟨inferInstance, hy.to, hy3, hy1, by omega⟩, by omega⟩
        simp (disch := omega) only [go_sem, Nat.reduceBEq, Nat.reduceAdd]
end Go.Q
